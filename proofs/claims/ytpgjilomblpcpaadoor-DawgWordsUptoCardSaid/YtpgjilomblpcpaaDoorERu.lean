/- Layer 1: the program's runes. Conditions: none. -/
import Derived.Test.YtpgjilomblpcpaaDoorEAf1
import Derived.Test.YtpgjilomblpcpaaDoorEK9
import Derived.Test.YtpgjilomblpcpaaDoorEMean6
import Derived.Test.YtpgjilomblpcpaaDoorERx
import Derived.Test.YtpgjilomblpcpaaDoorEMean1
import Derived.KernelRfl
set_option linter.unusedVariables false
set_option linter.unusedSimpArgs false
set_option maxRecDepth 100000
set_option maxHeartbeats 0
namespace Go.EA
open F
def K69:Con:=⟨true,[none],fun xs=>match xs with | [.one (.str s)]=>some (.tup [.o (.int .i32 (dec s).1),.o (.int .i64 (dec s).2)],[]) | _=>none⟩
theorem Vg:UnG uF:=by
 have key:∀{H xs v},lq uF H xs v->∃c,uF xs=some (v,c):=by
  intro H xs v h;rcases h with ⟨c,hg,_⟩ | ⟨_,ys,c,hi,hg,_⟩
  .exact⟨c,hg⟩
  .refine⟨c,?_⟩;have hg0:=hg;unfold uF at hg;split at hg
   .obtain⟨z,zs,rfl,h1,h2⟩:=hi.cons_inv;obtain⟨z',rfl,h1⟩:=h1;simp only[Im] at h1;subst h1;rw[h2.nil_inv];exact hg0
   .cases hg
 intro H xs v v' h h';obtain⟨c,h1⟩:=key h;obtain⟨c',h2⟩:=key h';rw[h1] at h2;cases h2
 rfl
theorem UF:gH uF K69:=⟨Vg,fun xs v cs h hc=>by
 simp only[K69] at h;split at h
 .cases h;exact⟨[],rfl,hc⟩
 .cases h⟩
theorem KL {t:List UInt8}(h:¬ ((dec t).1:Int)=65533\/1<((dec t).2:Int)):isR t=true:=by
 unfold isR;rcases h with h | h
 .rw[decide_eq_true h];rfl
 .rw[decide_eq_true (show 1<(dec t).2 by omega),Bool.or_true]
theorem Rz {t:List UInt8}(h:((dec t).1:Int)=65533) (h1:¬ 1<((dec t).2:Int)):isR t=false:=by
 unfold isR;rw[decide_eq_false (by simp[h]),decide_eq_false (by omega)];rfl
theorem DI {s t:List UInt8}{o:List Int}(h:runes s=(o.map fun r=>(r,true))++runes t) (ht:t≠[]) (hr:isR t=true):runes s=((o++[((dec t).1:Int)]).map fun r=>(r,true))++runes (t.drop (dec t).2):=by
 rw[h,dO ht,hr];simp
theorem GA {s t:List UInt8}{o:List Int}(h:runes s=(o.map fun r=>(r,true))++runes t) (ht:t≠[]) (hr:isR t=false):aG s=[]/\eP s=3:=by
 have hk:gM s=false:=by
  unfold gM;rw[h,dO ht,hr];simp
 unfold aG eP;rw[hk];exact⟨rfl,rfl⟩
theorem Dq {s t:List UInt8}{o:List Int}(h:runes s=(o.map fun r=>(r,true))++runes t):o.length<=s.length:=by
 have h1:=congrArg List.length h;have:=wL s;simp at h1;omega
theorem Ei {t:List UInt8}(h:0<(t.length:Int)):t≠[]:=by rintro rfl;simp at h
theorem QO {t:List UInt8}(h:¬ 0<(t.length:Int)):t=[]:=zT (by omega)
def P17:List UInt8->List SV:=fun s=>[.one (.str s)]
def R17:List UInt8->SV×List Prop:=fun s=>(.tup [.o (.row (.int .i32) (aG s)),.o (.int .i64 (eP s))],[s.length<=1099511627776])
def K17:Con:=⟨false,[none],fun xs=>match xs with | [.one (.str s)]=>some (R17 s) | _=>none⟩
noncomputable def G17:GP:=fH P17 R17
theorem Oi:∀a b,(P17 a).map aH=(P17 b).map aH->a=b:=by
 rintro a0 b0 h;simp only[P17,zK,List.map_nil,aH,bi,zG,AV.one.injEq,AV.agg.injEq,Lf.int.injEq,Lf.str.injEq,Lf.bool.injEq,Lf.vrow.injEq,and_true,true_and] at h;exact h
theorem DC:gH G17 K17:=bP Oi (fun _ _=>rfl) (fun _=>rfl) fun xs r h=>by
 simp only[K17] at h;split at h
 .cases h;rename_i s;exact⟨s,rfl,rfl⟩
 .cases h
theorem Xp {S:SC}(hB:SB S) (q69:aX S 69 (aI uF)) (h45:S.has 45 f45) (h68:S.has 68 f68) (h17:S.has 17 f17):aX S 17 (aI G17):=by
 refine prM hB [(45,f45),(68,f68)] [⟨69,uF,K69⟩] ⟨h45,h68,trivial⟩ ⟨⟨q69,UF⟩,trivial⟩ h17 (fun _=>⟨rfl,rfl,rfl⟩) (fun s=>fun f id T L=>match f,id with
  |68,0=>some (.inv { p:List UInt8×List Int // runes s=(p.2.map fun r=>(r,true))++runes p.1 } (fun x=>([],[(0,.cell [.osl 4]),(2,.cell [.str x.1.1]),(4,.row (.int .i32) x.1.2)])) (fun x=>x.1.1.length))
  |_,_=>none) 600 ?_
 rintro s hc;have hc1:s.length<=1099511627776:=hc.1;refine VC.use (p:=
  ((∃ x1:{ p:List UInt8×List Int // runes s=List.map (fun r=>(r,true)) p.snd++runes p.fst },
    ((x1.1.2=[])/\
    (((0:Int)=(0:Int))/\
    ((s=x1.1.1)/\
    (x1.1.2=[])))))/\
  (∀ x1 : { p : List UInt8 × List Int // runes s = List.map (fun r => (r, true)) p.snd ++ runes p.fst },
   ((0 < (↑x1.val.fst.length:Int) →
     (((↑(dec x1.val.fst).fst:Int)=65533 →
       ((1 < (↑(dec x1.val.fst).snd:Int) →
         (((x1.1.2.length+[(↑(dec x1.1.1).1:Int)].length)*4<=140737488355328)/\
         ((0<=(↑(dec x1.1.1).2:Int)/\(↑(dec x1.1.1).2:Int)<=(x1.1.1.length:Int))/\
         (∃ x2 : { p : List UInt8 × List Int // runes s = List.map (fun r => (r, true)) p.snd ++ runes p.fst },
          ((x2.1.1.length<x1.1.1.length)/\
          (((0:Int)=(0:Int))/\
          ((sK x1.1.1 (some (↑(dec x1.1.1).2:Int)) none=x2.1.1)/\
          (x1.1.2++[(↑(dec x1.1.1).1:Int)]=x2.1.2))))))))/\
       (¬1 < (↑(dec x1.val.fst).snd : Int) →
        ((aG s=[])/\
        (3=eP s)))))/\
     (¬(↑(dec x1.val.fst).fst : Int) = 65533 →
      (((x1.1.2.length+[(↑(dec x1.1.1).1:Int)].length)*4<=140737488355328)/\
      ((0<=(↑(dec x1.1.1).2:Int)/\(↑(dec x1.1.1).2:Int)<=(x1.1.1.length:Int))/\
      (∃ x2 : { p : List UInt8 × List Int // runes s = List.map (fun r => (r, true)) p.snd ++ runes p.fst },
       ((x2.1.1.length<x1.1.1.length)/\
       (((0:Int)=(0:Int))/\
       ((sK x1.1.1 (some (↑(dec x1.1.1).2:Int)) none=x2.1.1)/\
       (x1.1.2++[(↑(dec x1.1.1).1:Int)]=x2.1.2))))))))))/\
   (¬0 < (↑x1.val.fst.length : Int) →
    ((x1.1.2=aG s)/\
    (0=eP s))))))) (by kernel_rfl) ?_
 refine⟨⟨⟨(s,[]),rfl⟩,rfl,rfl,rfl,rfl⟩,?_⟩;rintro⟨⟨t,o⟩,h⟩;dsimp only at h ⊢;have hl:=Dq h;have go:0<(t.length:Int)->isR t=true->(o.length+1)*4<=140737488355328/\(0<=((dec t).2:Int)/\((dec t).2:Int)<=(t.length:Int))/\∃x2:{ p:List UInt8×List Int // runes s=List.map (fun r=>(r,true)) p.2++runes p.1 },x2.1.1.length<t.length/\(0:Int)=0/\sK t (some ((dec t).2:Int)) none=x2.1.1/\o++[((dec t).1:Int)]=x2.1.2:=fun h0 hr=>by
  have hw:=dV (Ei h0);refine⟨by omega,by omega,⟨(t.drop (dec t).2,o++[((dec t).1:Int)]),DI h (Ei h0) hr⟩,?_,rfl,rfl,rfl⟩;show (t.drop _).length<_;rw[List.length_drop];omega
 refine⟨fun h0=>⟨fun h1=>⟨fun h2=>go h0 (KL (.inr h2)),fun h2=>?_⟩,fun h1=>go h0 (KL (.inl h1))⟩,fun h0=>?_⟩
 .obtain⟨e1,e2⟩:=GA h (Ei h0) (Rz h1 h2);exact⟨e1,e2.symm⟩
 .obtain rfl:=QO h0;obtain⟨e1,e2⟩:=QC h;exact⟨e1.symm,e2.symm⟩
def P20:List UInt8->List SV:=fun s=>[.one (.str s)]
def R20:List UInt8->SV×List Prop:=fun s=>(.tup [.o (.row (.int .i32) (qh s)),.o (.int .i64 (fQ s))],[s.length<=1099511627776])
def K20:Con:=⟨false,[none],fun xs=>match xs with | [.one (.str s)]=>some (R20 s) | _=>none⟩
noncomputable def G20:GP:=fH P20 R20
theorem QS:∀a b,(P20 a).map aH=(P20 b).map aH->a=b:=by
 rintro a0 b0 h;simp only[P20,zK,List.map_nil,aH,bi,zG,AV.one.injEq,AV.agg.injEq,Lf.int.injEq,Lf.str.injEq,Lf.bool.injEq,Lf.vrow.injEq,and_true,true_and] at h;exact h
theorem UY:gH G20 K20:=bP QS (fun _ _=>rfl) (fun _=>rfl) fun xs r h=>by
 simp only[K20] at h;split at h
 .cases h;rename_i s;exact⟨s,rfl,rfl⟩
 .cases h
theorem Xo {S:SC}(hB:SB S) (q17:aX S 17 (aI G17)) (h20:S.has 20 f20):aX S 20 (aI G20):=by
 refine prM hB [] [⟨17,G17,K17⟩] trivial ⟨⟨q17,DC⟩,trivial⟩ h20 (fun _=>⟨rfl,rfl,rfl⟩) (fun s=>fun _ _ _ _=>none) 400 ?_;rintro s hc;have hc1:s.length<=1099511627776:=hc.1;refine VC.use (p:=
  ((s.length<=1099511627776)/\
  ((eP   s=0 →
    (((↑(aG   s).length:Int)=0 →
      ((qh s=[])/\
      (4=fQ s)))/\
    (¬(↑(aG   s).length : Int) = 0 →
     ((64 < (↑(aG   s).length:Int) →
       ((qh s=[])/\
       (5=fQ s)))/\
     (¬64 < (↑(aG   s).length : Int) →
      ((aG s=qh s)/\
      (0=fQ s)))))))/\
  (¬eP   s = 0 →
   ((qh s=[])/\
   (eP s=fQ s)))))) (by kernel_rfl) ?_
 refine⟨hc1,fun h=>⟨fun h1=>?_,fun h1=>⟨fun h2=>?_,fun h2=>?_⟩⟩,fun h=>?_⟩
 .obtain⟨e1,e2⟩:=Vs h (by omega);exact⟨e1,e2.symm⟩
 .obtain⟨e1,e2⟩:=Xf h (by omega);exact⟨e1,e2.symm⟩
 .obtain⟨e1,e2⟩:=VX h (by omega) (by omega);exact⟨e1.symm,e2.symm⟩
 .obtain⟨e1,e2⟩:=Vu h;exact⟨e1,e2.symm⟩
end Go.EA
