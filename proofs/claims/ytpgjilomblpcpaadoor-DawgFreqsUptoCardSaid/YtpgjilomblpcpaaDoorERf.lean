/- Layer 1: the reference. Conditions: none. -/
import Derived.Test.YtpgjilomblpcpaaDoorEAf1
import Derived.Test.YtpgjilomblpcpaaDoorEK9
import Derived.Test.YtpgjilomblpcpaaDoorEMean6
import Derived.Test.YtpgjilomblpcpaaDoorERx
import Derived.Test.YtpgjilomblpcpaaDoorEMean1
import Derived.KernelRfl
set_option linter.unusedVariables false
set_option linter.unusedSimpArgs false
set_option maxRecDepth 100000
set_option maxHeartbeats 0
namespace Go.EA
open F
def P57:Int->List SV:=fun r=>[.one (.int .i32 r)]
def R57:Int->SV×List Prop:=fun r=>(.one (.bool (Utf8.valid r)),[])
def K57:Con:=⟨true,[none],fun xs=>match xs with | [.one (.int .i32 r)]=>some (R57 r) | _=>none⟩
noncomputable def G57:GP:=conG P57 R57
theorem P57_inj:∀ a b,(P57 a).map den0=(P57 b).map den0->a=b:=by
 rintro a0 b0 h
 simp only [P57,zK,List.map_nil,den0,den0L,zG,AV.one.injEq,AV.agg.injEq,Lf.int.injEq,Lf.str.injEq,Lf.bool.injEq,Lf.vrow.injEq,and_true,true_and] at h
 exact h
theorem K57_ok:ConG G57 K57:=conG_of P57_inj (fun _ _=>rfl) (fun _=>rfl) fun xs r h=>by
 simp only [K57] at h
 split at h
 ·cases h;rename_i r;exact ⟨r,rfl,rfl⟩
 ·cases h
theorem pr57 {S:SC} (hB:SB S)  (h57:S.has 57 f57):PrOk S 57 (pureP G57):=by
 refine prM hB [] [] trivial trivial h57 (fun _=>⟨rfl,rfl,rfl⟩) (fun r=>fun _ _ _ _=>none) 400 ?_
 rintro r hc
 refine VC.use (p:=
  ((0≤r →
    ((r≤1114111 →
      ((55296≤r →
        ((!decide (r<=57343))=Utf8.valid r))/\
      (¬55296 ≤ r →
       (true=Utf8.valid r))))/\
    (¬r ≤ 1114111 →
     (false=Utf8.valid r))))/\
  (¬0 ≤ r →
   (false=Utf8.valid r)))) (by kernel_rfl) ?_
 refine ⟨fun h=>⟨fun h1=>⟨fun h2=>?_,fun h2=>?_⟩,fun h1=>?_⟩,fun h=>?_⟩ <;> (rw [Bool.eq_iff_iff]; simp [valid_iff]; omega)
def P58:Int->List SV:=fun r=>[.one (.int .i32 r)]
def R58:Int->SV×List Prop:=fun r=>(.one (.row (.int .u8) (encI r)),[Utf8.valid r=true])
def K58:Con:=⟨false,[none],fun xs=>match xs with | [.one (.int .i32 r)]=>some (R58 r) | _=>none⟩
noncomputable def G58:GP:=conG P58 R58
theorem P58_inj:∀ a b,(P58 a).map den0=(P58 b).map den0->a=b:=by
 rintro a0 b0 h
 simp only [P58,zK,List.map_nil,den0,den0L,zG,AV.one.injEq,AV.agg.injEq,Lf.int.injEq,Lf.str.injEq,Lf.bool.injEq,Lf.vrow.injEq,and_true,true_and] at h
 exact h
theorem K58_ok:ConG G58 K58:=conG_of P58_inj (fun _ _=>rfl) (fun _=>rfl) fun xs r h=>by
 simp only [K58] at h
 split at h
 ·cases h;rename_i r;exact ⟨r,rfl,rfl⟩
 ·cases h
theorem pr58 {S:SC} (hB:SB S)  (h58:S.has 58 f58):PrOk S 58 (pureP G58):=by
 refine prM hB [] [] trivial trivial h58 (fun _=>⟨rfl,rfl,rfl⟩) (fun r=>fun _ _ _ _=>none) 400 ?_
 rintro r hc
 have hc1:Utf8.valid r=true:=hc.1
 refine VC.use (p:=
  ((r < 128 →
    ([IntKind.u8.wrap r]=encI r))/\
  (¬r < 128 →
   ((r < 2048 →
     (((64:Int)≠(0:Int))/\
     (((64:Int)≠(0:Int))/\
     ([IntKind.u8.wrap (IntKind.i32.wrap (192+IntKind.i32.wrap (r.tdiv 64))),IntKind.u8.wrap (IntKind.i32.wrap (128+r.tmod 64))]=encI r))))/\
   (¬r < 2048 →
    ((r < 65536 →
      (((4096:Int)≠(0:Int))/\
      (((64:Int)≠(0:Int))/\
      (((64:Int)≠(0:Int))/\
      (((64:Int)≠(0:Int))/\
      ([IntKind.u8.wrap (IntKind.i32.wrap (224+IntKind.i32.wrap (r.tdiv 4096))),IntKind.u8.wrap (IntKind.i32.wrap (128+(IntKind.i32.wrap (r.tdiv 64)).tmod 64)),IntKind.u8.wrap (IntKind.i32.wrap (128+r.tmod 64))]=encI r))))))/\
    (¬r < 65536 →
     (((262144:Int)≠(0:Int))/\
     (((4096:Int)≠(0:Int))/\
     (((64:Int)≠(0:Int))/\
     (((64:Int)≠(0:Int))/\
     (((64:Int)≠(0:Int))/\
     (((64:Int)≠(0:Int))/\
     ([IntKind.u8.wrap (IntKind.i32.wrap (240+IntKind.i32.wrap (r.tdiv 262144))),IntKind.u8.wrap (IntKind.i32.wrap (128+(IntKind.i32.wrap (r.tdiv 4096)).tmod 64)),IntKind.u8.wrap (IntKind.i32.wrap (128+(IntKind.i32.wrap (r.tdiv 64)).tmod 64)),IntKind.u8.wrap (IntKind.i32.wrap (128+r.tmod 64))]=encI r)))))))))))))) (by kernel_rfl) ?_
 have hv2:=valid_iff.1 hc1
 have e1:r.tdiv 64=r / 64:=Int.tdiv_eq_ediv_of_nonneg (by omega)
 have e2:r.tdiv 4096=r / 4096:=Int.tdiv_eq_ediv_of_nonneg (by omega)
 have e3:r.tdiv 262144=r / 262144:=Int.tdiv_eq_ediv_of_nonneg (by omega)
 have e4:r.tmod 64=r % 64:=Int.tmod_eq_emod_of_nonneg (by omega)
 have e5:(r / 64).tmod 64=r / 64 % 64:=Int.tmod_eq_emod_of_nonneg (by omega)
 have e6:(r / 4096).tmod 64=r / 4096 % 64:=Int.tmod_eq_emod_of_nonneg (by omega)
 have k:(64:Int)≠0:=by decide
 have k2:(4096:Int)≠0:=by decide
 have k3:(262144:Int)≠0:=by decide
 refine ⟨fun h=>?_,fun h=>⟨fun h1=>⟨k,k,?_⟩,fun h1=>⟨fun h2=>⟨k2,k,k,k,?_⟩,fun h2=>⟨k3,k2,k,k,k,k,?_⟩⟩⟩⟩
 ·rw [encI1 hc1 h,wrap8 (by omega)]
 ·rw [encI2 hc1 (by omega) h1];simp only [e1,e4];simp (disch:=omega) only [wrap32,wrap8]
 ·rw [encI3 hc1 (by omega) h2];simp only [e1,e2,e4];simp (disch:=omega) only [wrap32,e5];simp (disch:=omega) only [wrap32,wrap8]
 ·rw [encI4 hc1 (by omega)];simp only [e1,e2,e3,e4];simp (disch:=omega) only [wrap32,e5,e6];simp (disch:=omega) only [wrap32,wrap8]
def P46:List UInt8->List SV:=fun s=>[.one (.str s)]
def R46:List UInt8->SV×List Prop:=fun s=>(.tup [.o (.int .i32 (fstR s).1),.o (.int .i64 (fstR s).2)],[])
def K46:Con:=⟨true,[none],fun xs=>match xs with | [.one (.str s)]=>some (R46 s) | _=>none⟩
noncomputable def G46:GP:=conG P46 R46
theorem P46_inj:∀ a b,(P46 a).map den0=(P46 b).map den0->a=b:=by
 rintro a0 b0 h
 simp only [P46,zK,List.map_nil,den0,den0L,zG,AV.one.injEq,AV.agg.injEq,Lf.int.injEq,Lf.str.injEq,Lf.bool.injEq,Lf.vrow.injEq,and_true,true_and] at h
 exact h
theorem K46_ok:ConG G46 K46:=conG_of P46_inj (fun _ _=>rfl) (fun _=>rfl) fun xs r h=>by
 simp only [K46] at h
 split at h
 ·cases h;rename_i s;exact ⟨s,rfl,rfl⟩
 ·cases h
theorem pr46 {S:SC} (hB:SB S) (q57:PrOk S 57 (pureP G57)) (q58:PrOk S 58 (pureP G58)) (h46:S.has 46 f46):PrOk S 46 (pureP G46):=by
 refine prM hB [] [⟨57,G57,K57⟩,⟨58,G58,K58⟩] trivial ⟨⟨q57,K57_ok⟩,⟨q58,K58_ok⟩,trivial⟩ h46 (fun _=>⟨rfl,rfl,rfl⟩) (fun s=>fun f id T L=>match f,id with
  | 46,0=>some (.inv { n:Nat // 1<=n/\n<=5/\(s≠[]->isR s=true->n<=(dec s).2) } (fun x=>([(4,.one (.int .i64 x.1))],[])) (fun x=>5-x.1))
  | 46,2=>match T.getD 4 .junk with | .one (.int _ n)=>some (.cut Unit (fun _=>([(5,.one (.int .i32 (ax s n 1)))],[]))) | _=>none
  | 46,3=>match T.getD 4 .junk with | .one (.int _ n)=>some (.inv { p:Nat // 1<=p/\(p:Int)<=n } (fun x=>([(6,.one (.int .i64 x.1)),(5,.one (.int .i32 (ax s n x.1)))],[])) (fun x=>n.toNat-x.1)) | _=>none
  | _,_=>none) 400 ?_
 rintro s hc
 refine VC.use (p:=
  ((∃ x1:{ n:Nat // 1≤n∧n≤5∧(s≠[]→isR s=true→n≤(dec s).snd) },
    ((s=s)/\
    (1=(x1.1:Int))))/\
  (∀ x1 : { n : Nat // 1 ≤ n ∧ n ≤ 5 ∧ (s ≠ [] → isR s = true → n ≤ (dec s).snd) },
   (((↑x1.val:Int)≤4 →
     (((↑x1.val:Int)≤(↑s.length:Int) →
       (((0:Int)<=(0:Int)/\(0:Int)<(s.length:Int))/\
       ((((↑x1.val : Int) = 2 →
          (∃ x2 : Unit,
           ((s=s)/\
           (((x1.1:Int)=(x1.1:Int))/\
           (IntKind.i32.wrap (IntKind.i32.wrap (↑(s.getD 0 0).toNat:Int)-192)=ax s (x1.1:Int) 1)))))/\
        (¬(↑x1.val : Int) = 2 →
         (((↑x1.val:Int)=3 →
           (∃ x2 : Unit,
            ((s=s)/\
            (((x1.1:Int)=(x1.1:Int))/\
            (IntKind.i32.wrap (IntKind.i32.wrap (↑(s.getD 0 0).toNat:Int)-224)=ax s (x1.1:Int) 1)))))/\
         (¬(↑x1.val : Int) = 3 →
          (((↑x1.val:Int)=4 →
            (∃ x2 : Unit,
             ((s=s)/\
             (((x1.1:Int)=(x1.1:Int))/\
             (IntKind.i32.wrap (IntKind.i32.wrap (↑(s.getD 0 0).toNat:Int)-240)=ax s (x1.1:Int) 1)))))/\
          (¬(↑x1.val : Int) = 4 →
           (∃ x2 : Unit,
            ((s=s)/\
            (((x1.1:Int)=(x1.1:Int))/\
            (IntKind.i32.wrap (↑(s.getD 0 0).toNat:Int)=ax s (x1.1:Int) 1))))))))))/\
       (∀ x2 : Unit,
        ((∃ x3:{ p:Nat // 1≤p∧(↑p:Int)≤(↑x1.val:Int) },
          ((s=s)/\
          (((x1.1:Int)=(x1.1:Int))/\
          ((ax s (x1.1:Int) 1=ax s (x1.1:Int) x3.1)/\
          (1=(x3.1:Int))))))/\
        (∀ x3 : { p : Nat // 1 ≤ p ∧ (↑p : Int) ≤ (↑x1.val : Int) },
         (((↑x3.val:Int) < (↑x1.val:Int) →
           ((0<=(x3.1:Int)/\(x3.1:Int)<(s.length:Int))/\
           ((i64R ((x3.1:Int)+1))/\
           (∃ x4 : { p : Nat // 1 ≤ p ∧ (↑p : Int) ≤ (↑x1.val : Int) },
            ((x1.1-x4.1<x1.1-x3.1)/\
            ((s=s)/\
            (((x1.1:Int)=(x1.1:Int))/\
            ((IntKind.i32.wrap (IntKind.i32.wrap (IntKind.i32.wrap (ax s (x1.1:Int) x3.1*64)+IntKind.i32.wrap (↑(s.getD x3.1 0).toNat:Int))-128)=ax s (x1.1:Int) x4.1)/\
            ((x3.1:Int)+1=(x4.1:Int))))))))))/\
         (¬(↑x3.val : Int) < (↑x1.val : Int) →
          ((Utf8.valid (ax s (↑x1.val:Int) x3.val)=true →
            ((Utf8.valid (ax s (x1.1:Int) x3.1)=true)/\
            ((0<=(x1.1:Int)/\(x1.1:Int)<=(s.length:Int))/\
            ((List.map (fun z=>UInt8.ofNat (Int.toNat z)) (encI (ax s (↑x1.val:Int) x3.val))=cutR s none (some (↑x1.val:Int)) →
              ((ax s (x1.1:Int) x3.1=(fstR s).1)/\
              ((x1.1:Int)=(fstR s).2)))/\
            (¬List.map (fun z => UInt8.ofNat (Int.toNat z)) (encI (ax s (↑x1.val : Int) x3.val)) = cutR s none (some (↑x1.val : Int)) →
             ((i64R ((x1.1:Int)+1))/\
             (∃ x4 : { n : Nat // 1 ≤ n ∧ n ≤ 5 ∧ (s ≠ [] → isR s = true → n ≤ (dec s).snd) },
              ((5-x4.1<5-x1.1)/\
              ((s=s)/\
              ((x1.1:Int)+1=(x4.1:Int)))))))))))/\
          (¬Utf8.valid (ax s (↑x1.val : Int) x3.val) = true →
           ((i64R ((x1.1:Int)+1))/\
           (∃ x4 : { n : Nat // 1 ≤ n ∧ n ≤ 5 ∧ (s ≠ [] → isR s = true → n ≤ (dec s).snd) },
            ((5-x4.1<5-x1.1)/\
            ((s=s)/\
            ((x1.1:Int)+1=(x4.1:Int))))))))))))))))/\
     (¬(↑x1.val : Int) ≤ (↑s.length : Int) →
      ((0=(fstR s).1)/\
      (0=(fstR s).2)))))/\
   (¬(↑x1.val : Int) ≤ 4 →
    ((0=(fstR s).1)/\
    (0=(fstR s).2))))))) (by kernel_rfl) ?_
 refine ⟨⟨⟨1,by omega,by omega,fun a b=>(dec_width a).1⟩,rfl,rfl⟩,?_⟩
 rintro ⟨n,h1,h5,hn⟩
 dsimp only
 refine ⟨fun h4=>⟨fun hl=>⟨by omega,⟨fun e=>?_,fun e=>⟨fun e=>?_,fun e=>⟨fun e=>?_,fun e=>?_⟩⟩⟩,?_⟩,fun hl=>?_⟩,fun h4=>?_⟩
 ·exact ⟨(),rfl,rfl,by rw [e];rfl⟩
 ·exact ⟨(),rfl,rfl,by rw [e];rfl⟩
 ·exact ⟨(),rfl,rfl,by rw [e];rfl⟩
 ·refine ⟨(),rfl,rfl,?_⟩
  obtain rfl:n=1:=by omega
  rfl
 ·intro _
  refine ⟨⟨⟨1,by omega,by omega⟩,rfl,rfl,rfl,rfl⟩,?_⟩
  rintro ⟨p,p1,pn⟩
  dsimp only
  refine ⟨fun hp=>⟨by omega,by unfold i64R;omega,⟨⟨p+1,by omega,by omega⟩,by show n-(p+1)<n-p;omega,rfl,rfl,(ax_succ s n p1).symm,by show _=((p+1:Nat):Int);omega⟩⟩,fun hp=>?_⟩
  obtain rfl:p=n:=by omega
  rw [ax_rx s h1 (by omega),unB]
  have ec:cutR s none (some (p:Int))=s.take p:=rfl
  rw [ec]
  refine ⟨fun hv=>⟨hv,by omega,fun he=>?_,fun he=>⟨by unfold i64R;omega,⟨⟨p+1,by omega,by omega,fst_more hn fun _=>he⟩,by show 5-(p+1)<5-p;omega,rfl,by show _=((p+1:Nat):Int);omega⟩⟩⟩,fun hv=>⟨by unfold i64R;omega,⟨⟨p+1,by omega,by omega,fst_more hn fun h=>absurd h hv⟩,by show 5-(p+1)<5-p;omega,rfl,by show _=((p+1:Nat):Int);omega⟩⟩⟩
  rw [fst_hit hv (by omega) he]
  exact ⟨rfl,rfl⟩
 ·rw [fst_none hn (by omega)];exact ⟨rfl,rfl⟩
 ·rw [fst_none hn (by omega)];exact ⟨rfl,rfl⟩
def P19:List UInt8->List SV:=fun s=>[.one (.str s)]
def R19:List UInt8->SV×List Prop:=fun s=>(.tup [.o (.row (.int .i32) (decR s)),.o (.int .i64 (decE s))],[s.length<=1099511627776])
def K19:Con:=⟨false,[none],fun xs=>match xs with | [.one (.str s)]=>some (R19 s) | _=>none⟩
noncomputable def G19:GP:=conG P19 R19
theorem P19_inj:∀ a b,(P19 a).map den0=(P19 b).map den0->a=b:=by
 rintro a0 b0 h
 simp only [P19,zK,List.map_nil,den0,den0L,zG,AV.one.injEq,AV.agg.injEq,Lf.int.injEq,Lf.str.injEq,Lf.bool.injEq,Lf.vrow.injEq,and_true,true_and] at h
 exact h
theorem K19_ok:ConG G19 K19:=conG_of P19_inj (fun _ _=>rfl) (fun _=>rfl) fun xs r h=>by
 simp only [K19] at h
 split at h
 ·cases h;rename_i s;exact ⟨s,rfl,rfl⟩
 ·cases h
theorem pr19 {S:SC} (hB:SB S) (q46:PrOk S 46 (pureP G46)) (h19:S.has 19 f19):PrOk S 19 (pureP G19):=by
 refine prM hB [] [⟨46,G46,K46⟩] trivial ⟨⟨q46,K46_ok⟩,trivial⟩ h19 (fun _=>⟨rfl,rfl,rfl⟩) (fun s=>fun f id T L=>match f,id with
  | 19,0=>some (.inv { p:List UInt8×List Int // runes s=(p.2.map fun r=>(r,true))++runes p.1/\p.2.length+p.1.length<=s.length } (fun x=>([(0,.one (.str x.1.1)),(4,.one (.osl 0))],[(0,.row (.int .i32) x.1.2)])) (fun x=>x.1.1.length))
  | _,_=>none) 400 ?_
 rintro s hc
 have hc1:s.length<=1099511627776:=hc.1
 refine VC.use (p:=
  ((∃ x1:{ p:List UInt8×List Int // runes s=List.map (fun r=>(r,true)) p.snd++runes p.fst∧p.snd.length+p.fst.length≤s.length },
    ((s=x1.1.1)/\
    ((x1.1.2=[])/\
    (x1.1.2=[]))))/\
  (∀ x1 : { p : List UInt8 × List Int // runes s = List.map (fun r => (r, true)) p.snd ++ runes p.fst ∧ p.snd.length + p.fst.length ≤ s.length },
   ((0 < (↑x1.val.fst.length:Int) →
     (((fstR x1.val.fst).snd=0 →
       ((decR s=[])/\
       (3=decE s)))/\
     (¬(fstR x1.val.fst).snd = 0 →
      (((x1.1.2.length+[(fstR x1.1.1).1].length)*4<=140737488355328)/\
      ((0<=(fstR x1.1.1).2/\(fstR x1.1.1).2<=(x1.1.1.length:Int))/\
      (∃ x2 : { p : List UInt8 × List Int // runes s = List.map (fun r => (r, true)) p.snd ++ runes p.fst ∧ p.snd.length + p.fst.length ≤ s.length },
       ((x2.1.1.length<x1.1.1.length)/\
       ((cutR x1.1.1 (some (fstR x1.1.1).2) none=x2.1.1)/\
       (x1.1.2++[(fstR x1.1.1).1]=x2.1.2)))))))))/\
   (¬0 < (↑x1.val.fst.length : Int) →
    ((x1.1.2=decR s)/\
    (0=decE s))))))) (by kernel_rfl) ?_
 refine ⟨⟨⟨(s,[]),rfl,by simp⟩,rfl,rfl,rfl⟩,?_⟩
 rintro ⟨⟨t,o⟩,h,hl⟩
 dsimp only at h hl ⊢
 have hbd:=fst_bd t
 refine ⟨fun h0=>⟨fun h1=>?_,fun h1=>⟨?_,hbd,⟨(t.drop (fstR t).2.toNat,o++[(fstR t).1]),d19_step h h1,?_⟩,?_,rfl,rfl⟩⟩,fun h0=>?_⟩
 ·obtain ⟨e1,e2⟩:=d19_bad h (by rintro rfl;simp at h0) h1
  exact ⟨e1,e2.symm⟩
 ·simp;omega
 ·simp;omega
 ·simp;omega
 ·obtain rfl:t=[]:=zT (by omega)
  obtain ⟨e1,e2⟩:=d19_end h
  exact ⟨e1.symm,e2.symm⟩
def P21:List UInt8->List SV:=fun s=>[.one (.str s)]
def R21:List UInt8->SV×List Prop:=fun s=>(.tup [.o (.row (.int .i32) (tokR s)),.o (.int .i64 (tokE s))],[s.length<=1099511627776])
def K21:Con:=⟨false,[none],fun xs=>match xs with | [.one (.str s)]=>some (R21 s) | _=>none⟩
noncomputable def G21:GP:=conG P21 R21
theorem P21_inj:∀ a b,(P21 a).map den0=(P21 b).map den0->a=b:=by
 rintro a0 b0 h
 simp only [P21,zK,List.map_nil,den0,den0L,zG,AV.one.injEq,AV.agg.injEq,Lf.int.injEq,Lf.str.injEq,Lf.bool.injEq,Lf.vrow.injEq,and_true,true_and] at h
 exact h
theorem K21_ok:ConG G21 K21:=conG_of P21_inj (fun _ _=>rfl) (fun _=>rfl) fun xs r h=>by
 simp only [K21] at h
 split at h
 ·cases h;rename_i s;exact ⟨s,rfl,rfl⟩
 ·cases h
theorem pr21 {S:SC} (hB:SB S) (q19:PrOk S 19 (pureP G19)) (h21:S.has 21 f21):PrOk S 21 (pureP G21):=by
 refine prM hB [] [⟨19,G19,K19⟩] trivial ⟨⟨q19,K19_ok⟩,trivial⟩ h21 (fun _=>⟨rfl,rfl,rfl⟩) (fun s=>fun _ _ _ _=>none) 400 ?_
 rintro s hc
 have hc1:s.length<=1099511627776:=hc.1
 refine VC.use (p:=
  ((s.length<=1099511627776)/\
  ((decE s=0 →
    (((↑(decR s).length:Int)=0 →
      ((tokR s=[])/\
      (4=tokE s)))/\
    (¬(↑(decR s).length : Int) = 0 →
     ((64 < (↑(decR s).length:Int) →
       ((tokR s=[])/\
       (5=tokE s)))/\
     (¬64 < (↑(decR s).length : Int) →
      ((decR s=tokR s)/\
      (0=tokE s)))))))/\
  (¬decE s = 0 →
   ((tokR s=[])/\
   (decE s=tokE s)))))) (by kernel_rfl) ?_
 refine ⟨hc1,fun h=>⟨fun h1=>?_,fun h1=>⟨fun h2=>?_,fun h2=>?_⟩⟩,fun h=>?_⟩
 ·obtain ⟨e1,e2⟩:=tok_e h (by omega);exact ⟨e1,e2.symm⟩
 ·obtain ⟨e1,e2⟩:=tok_l h (by omega);exact ⟨e1,e2.symm⟩
 ·obtain ⟨e1,e2⟩:=tok_k h (by omega) (by omega);exact ⟨e1.symm,e2.symm⟩
 ·obtain ⟨e1,e2⟩:=tok_u h;exact ⟨e1,e2.symm⟩
end Go.EA
