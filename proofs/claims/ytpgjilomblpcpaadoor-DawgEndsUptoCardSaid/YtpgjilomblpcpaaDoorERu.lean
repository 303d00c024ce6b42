/- Layer 1: the program's runes. Conditions: none. -/
import Derived.Test.YtpgjilomblpcpaaDoorEAf1
import Derived.Test.YtpgjilomblpcpaaDoorEK9
import Derived.Test.YtpgjilomblpcpaaDoorEMean6
import Derived.Test.YtpgjilomblpcpaaDoorERx
import Derived.Test.YtpgjilomblpcpaaDoorEMean1
import Derived.KernelRfl
import Derived.Test.YtpgjilomblpcpaaDoorERf
set_option linter.unusedVariables false
set_option linter.unusedSimpArgs false
set_option maxRecDepth 100000
set_option maxHeartbeats 0
namespace Go.EA
open F
def K69:Con:=⟨true,[none],fun xs=>match xs with | [.one (.str s)]=>some (.tup [.o (.int .i32 (dec s).1),.o (.int .i64 (dec s).2)],[]) | _=>none⟩
theorem TU:UnG uG:=by
 have key:∀{H xs v},kV uG H xs v->∃c,uG xs=some (v,c):=by
  intro H xs v h;rcases h with ⟨c,hg,_⟩ | ⟨_,ys,c,hi,hg,_⟩
  .exact⟨c,hg⟩
  .refine⟨c,?_⟩;have hg0:=hg;unfold uG at hg;split at hg
   .obtain⟨z,zs,rfl,h1,h2⟩:=hi.cons_inv;obtain⟨z',rfl,h1⟩:=h1;simp only[Im] at h1;subst h1;rw[h2.nil_inv];exact hg0
   .cases hg
 intro H xs v v' h h';obtain⟨c,h1⟩:=key h;obtain⟨c',h2⟩:=key h';rw[h1] at h2;cases h2
 rfl
theorem Tf:dM uG K69:=⟨TU,fun xs v cs h hc=>by
 simp only[K69] at h;split at h
 .cases h;exact⟨[],rfl,hc⟩
 .cases h⟩
theorem NF {t:List UInt8}(h:¬ ((dec t).1:Int)=65533\/1<((dec t).2:Int)):isR t=true:=by
 unfold isR;rcases h with h | h
 .rw[decide_eq_true h];rfl
 .rw[decide_eq_true (show 1<(dec t).2 by omega),Bool.or_true]
theorem Td {t:List UInt8}(h:((dec t).1:Int)=65533) (h1:¬ 1<((dec t).2:Int)):isR t=false:=by
 unfold isR;rw[decide_eq_false (by simp[h]),decide_eq_false (by omega)];rfl
theorem DT {s t:List UInt8}{o:List Int}(h:runes s=(o.map fun r=>(r,true))++runes t) (ht:t≠[]) (hr:isR t=true):runes s=((o++[((dec t).1:Int)]).map fun r=>(r,true))++runes (t.drop (dec t).2):=by
 rw[h,bT ht,hr];simp
theorem Gh {s t:List UInt8}{o:List Int}(h:runes s=(o.map fun r=>(r,true))++runes t) (ht:t≠[]) (hr:isR t=false):aC s=[]/\bN s=3:=by
 have hk:dE s=false:=by
  unfold dE;rw[h,bT ht,hr];simp
 unfold aC bN;rw[hk];exact⟨rfl,rfl⟩
theorem CX {s t:List UInt8}{o:List Int}(h:runes s=(o.map fun r=>(r,true))++runes t):o.length<=s.length:=by
 have h1:=congrArg List.length h;have:=vX s;simp at h1;omega
theorem Cu {t:List UInt8}(h:0<(t.length:Int)):t≠[]:=by rintro rfl;simp at h
theorem NY {t:List UInt8}(h:¬ 0<(t.length:Int)):t=[]:=zT (by omega)
def P17:List UInt8->List SV:=fun s=>[.one (.str s)]
def R17:List UInt8->SV×List Prop:=fun s=>(.tup [.o (.row (.int .i32) (aC s)),.o (.int .i64 (bN s))],[s.length<=1099511627776])
def K17:Con:=⟨false,[none],fun xs=>match xs with | [.one (.str s)]=>some (R17 s) | _=>none⟩
noncomputable def G17:GP:=dC P17 R17
theorem QE:∀a b,(P17 a).map aB=(P17 b).map aB->a=b:=by
 rintro a0 b0 h;simp only[P17,zK,List.map_nil,aB,aW,zG,AV.one.injEq,AV.agg.injEq,Lf.int.injEq,Lf.str.injEq,Lf.bool.injEq,Lf.vrow.injEq,and_true,true_and] at h;exact h
theorem DV:dM G17 K17:=bf QE (fun _ _=>rfl) (fun _=>rfl) fun xs r h=>by
 simp only[K17] at h;split at h
 .cases h;rename_i s;exact⟨s,rfl,rfl⟩
 .cases h
theorem XY {S:SC}(hB:SB S) (q69:aO S 69 (aA uG)) (h45:S.has 45 f45) (h68:S.has 68 f68) (h17:S.has 17 f17):aO S 17 (aA G17):=by
 refine prM hB [(45,f45),(68,f68)] [⟨69,uG,K69⟩] ⟨h45,h68,trivial⟩ ⟨⟨q69,Tf⟩,trivial⟩ h17 (fun _=>⟨rfl,rfl,rfl⟩) (fun s=>fun f id T L=>match f,id with
  |68,0=>some (.inv { p:List UInt8×List Int // runes s=(p.2.map fun r=>(r,true))++runes p.1 } (fun x=>([],[(0,.cell [.osl 4]),(2,.cell [.str x.1.1]),(4,.row (.int .i32) x.1.2)])) (fun x=>x.1.1.length))
  |_,_=>none) 600 ?_
 rintro s hc;have hc1:s.length<=1099511627776:=hc.1;refine VC.use (p:=
  ((∃ x1:{ p:List UInt8×List Int // runes s=List.map (fun r=>(r,true)) p.snd++runes p.fst },
    ((x1.1.2=[])/\
    (((0:Int)=(0:Int))/\
    ((s=x1.1.1)/\
    (x1.1.2=[])))))/\
  (∀ x1 : { p : List UInt8 × List Int // runes s = List.map (fun r => (r, true)) p.snd ++ runes p.fst },
   ((0 < (↑x1.val.fst.length:Int) →
     (((↑(dec x1.val.fst).fst:Int)=65533 →
       ((1 < (↑(dec x1.val.fst).snd:Int) →
         (((x1.1.2.length+[(↑(dec x1.1.1).1:Int)].length)*4<=140737488355328)/\
         ((0<=(↑(dec x1.1.1).2:Int)/\(↑(dec x1.1.1).2:Int)<=(x1.1.1.length:Int))/\
         (∃ x2 : { p : List UInt8 × List Int // runes s = List.map (fun r => (r, true)) p.snd ++ runes p.fst },
          ((x2.1.1.length<x1.1.1.length)/\
          (((0:Int)=(0:Int))/\
          ((aD x1.1.1 (some (↑(dec x1.1.1).2:Int)) none=x2.1.1)/\
          (x1.1.2++[(↑(dec x1.1.1).1:Int)]=x2.1.2))))))))/\
       (¬1 < (↑(dec x1.val.fst).snd : Int) →
        ((aC s=[])/\
        (3=bN s)))))/\
     (¬(↑(dec x1.val.fst).fst : Int) = 65533 →
      (((x1.1.2.length+[(↑(dec x1.1.1).1:Int)].length)*4<=140737488355328)/\
      ((0<=(↑(dec x1.1.1).2:Int)/\(↑(dec x1.1.1).2:Int)<=(x1.1.1.length:Int))/\
      (∃ x2 : { p : List UInt8 × List Int // runes s = List.map (fun r => (r, true)) p.snd ++ runes p.fst },
       ((x2.1.1.length<x1.1.1.length)/\
       (((0:Int)=(0:Int))/\
       ((aD x1.1.1 (some (↑(dec x1.1.1).2:Int)) none=x2.1.1)/\
       (x1.1.2++[(↑(dec x1.1.1).1:Int)]=x2.1.2))))))))))/\
   (¬0 < (↑x1.val.fst.length : Int) →
    ((x1.1.2=aC s)/\
    (0=bN s))))))) (by kernel_rfl) ?_
 refine⟨⟨⟨(s,[]),rfl⟩,rfl,rfl,rfl,rfl⟩,?_⟩;rintro⟨⟨t,o⟩,h⟩;dsimp only at h ⊢;have hl:=CX h;have go:0<(t.length:Int)->isR t=true->(o.length+1)*4<=140737488355328/\(0<=((dec t).2:Int)/\((dec t).2:Int)<=(t.length:Int))/\∃x2:{ p:List UInt8×List Int // runes s=List.map (fun r=>(r,true)) p.2++runes p.1 },x2.1.1.length<t.length/\(0:Int)=0/\aD t (some ((dec t).2:Int)) none=x2.1.1/\o++[((dec t).1:Int)]=x2.1.2:=fun h0 hr=>by
  have hw:=bF (Cu h0);refine⟨by omega,by omega,⟨(t.drop (dec t).2,o++[((dec t).1:Int)]),DT h (Cu h0) hr⟩,?_,rfl,rfl,rfl⟩;show (t.drop _).length<_;rw[List.length_drop];omega
 refine⟨fun h0=>⟨fun h1=>⟨fun h2=>go h0 (NF (.inr h2)),fun h2=>?_⟩,fun h1=>go h0 (NF (.inl h1))⟩,fun h0=>?_⟩
 .obtain⟨e1,e2⟩:=Gh h (Cu h0) (Td h1 h2);exact⟨e1,e2.symm⟩
 .obtain rfl:=NY h0;obtain⟨e1,e2⟩:=Eo h;exact⟨e1.symm,e2.symm⟩
def P20:List UInt8->List SV:=fun s=>[.one (.str s)]
def R20:List UInt8->SV×List Prop:=fun s=>(.tup [.o (.row (.int .i32) (kJ s)),.o (.int .i64 (ek s))],[s.length<=1099511627776])
def K20:Con:=⟨false,[none],fun xs=>match xs with | [.one (.str s)]=>some (R20 s) | _=>none⟩
noncomputable def G20:GP:=dC P20 R20
theorem Rh:∀a b,(P20 a).map aB=(P20 b).map aB->a=b:=by
 rintro a0 b0 h;simp only[P20,zK,List.map_nil,aB,aW,zG,AV.one.injEq,AV.agg.injEq,Lf.int.injEq,Lf.str.injEq,Lf.bool.injEq,Lf.vrow.injEq,and_true,true_and] at h;exact h
theorem VR:dM G20 K20:=bf Rh (fun _ _=>rfl) (fun _=>rfl) fun xs r h=>by
 simp only[K20] at h;split at h
 .cases h;rename_i s;exact⟨s,rfl,rfl⟩
 .cases h
theorem Yl {S:SC}(hB:SB S) (q17:aO S 17 (aA G17)) (h20:S.has 20 f20):aO S 20 (aA G20):=by
 refine prM hB [] [⟨17,G17,K17⟩] trivial ⟨⟨q17,DV⟩,trivial⟩ h20 (fun _=>⟨rfl,rfl,rfl⟩) (fun s=>fun _ _ _ _=>none) 400 ?_;rintro s hc;have hc1:s.length<=1099511627776:=hc.1;refine VC.use (p:=
  ((s.length<=1099511627776)/\
  ((bN   s=0 →
    (((↑(aC   s).length:Int)=0 →
      ((kJ s=[])/\
      (4=ek s)))/\
    (¬(↑(aC   s).length : Int) = 0 →
     ((64 < (↑(aC   s).length:Int) →
       ((kJ s=[])/\
       (5=ek s)))/\
     (¬64 < (↑(aC   s).length : Int) →
      ((aC s=kJ s)/\
      (0=ek s)))))))/\
  (¬bN   s = 0 →
   ((kJ s=[])/\
   (bN s=ek s)))))) (by kernel_rfl) ?_
 refine⟨hc1,fun h=>⟨fun h1=>?_,fun h1=>⟨fun h2=>?_,fun h2=>?_⟩⟩,fun h=>?_⟩
 .obtain⟨e1,e2⟩:=RP h (by omega);exact⟨e1,e2.symm⟩
 .obtain⟨e1,e2⟩:=RX h (by omega);exact⟨e1,e2.symm⟩
 .obtain⟨e1,e2⟩:=RA h (by omega) (by omega);exact⟨e1.symm,e2.symm⟩
 .obtain⟨e1,e2⟩:=Sk h;exact⟨e1,e2.symm⟩
end Go.EA
