/- Layer 10: what an automaton is asked. Conditions: none. -/
import Derived.Test.YtpgjilomblpcpaaDoorEK26
import Derived.Test.YtpgjilomblpcpaaDoorEK23
import Derived.KernelRfl
set_option linter.unusedVariables false
set_option linter.unusedSimpArgs false
set_option maxRecDepth 100000
set_option maxHeartbeats 0
namespace Go.EA
open F
def P281:(List ((List (Int×Int))×Bool×Int))×Int×List (Int)->List SV:=fun (d0,d1,d2)=>[.one (.vptr (.pair (.row (.pair (.row (.pair (.int .i32) (.int .i64))) (.pair .bool (.int .i64)))) (.pair (.int .i64) (.row (.int .i64)))) (d0,d1,d2) 0)]
def R281:(List ((List (Int×Int))×Bool×Int))×Int×List (Int)->SV×List Prop:=fun (d0,d1,d2)=>(.one (.int .i64 d0.length),[])
def K281:Con:=⟨true,[some (.pair (.row (.pair (.row (.pair (.int .i32) (.int .i64))) (.pair .bool (.int .i64)))) (.pair (.int .i64) (.row (.int .i64))))],fun xs=>match xs with | [.one (.vptr (.pair (.row (.pair (.row (.pair (.int .i32) (.int .i64))) (.pair .bool (.int .i64)))) (.pair (.int .i64) (.row (.int .i64)))) (d0,d1,d2) 0)]=>some (R281 (d0,d1,d2)) | _=>none⟩
noncomputable def G281:GP:=conG P281 R281
theorem P281_inj:∀ a b,(P281 a).map den0=(P281 b).map den0->a=b:=by
 rintro ⟨a0,a1,a2⟩ ⟨b0,b1,b2⟩ h
 simp only [P281,zK,List.map_nil,den0,den0L,List.drop_zero,zG,AV.one.injEq,AV.agg.injEq,Lf.int.injEq,Lf.str.injEq,Lf.bool.injEq,Lf.vrow.injEq,Lf.vptr.injEq,and_true,true_and,and_assoc] at h
 have h0:=h
 have h0:=Ty.enc_inj _ h0
 simp only [zF] at h0
 obtain ⟨rfl,rfl,rfl⟩:=h0
 rfl
theorem K281_ok:ConG G281 K281:=conG_of P281_inj (fun ⟨_,_,_⟩ ⟨_,_,_⟩=>rfl) (fun ⟨_,_,_⟩=>rfl) fun xs r h=>by
 simp only [K281] at h
 split at h
 ·cases h;rename_i d0 d1 d2;exact ⟨(d0,d1,d2),rfl,rfl⟩
 ·cases h
theorem pr281 {S:SC} (hB:SB S)  (h281:S.has 281 f281):PrOk S 281 (pureP G281):=by
 refine prM hB [] [] trivial trivial h281 (fun ⟨d0,d1,d2⟩=>⟨rfl,rfl,rfl⟩) (fun (d0,d1,d2)=>fun _ _ _ _=>none) 400 ?_
 rintro ⟨d0,d1,d2⟩ hc
 refine VC.use (p:=
  ((d0.length:Int)=(d0.length:Int))) (by kernel_rfl) ?_
 exact rfl
def P282:(List ((List (Int×Int))×Bool×Int))×Int×List (Int)->List SV:=fun (d0,d1,d2)=>[.one (.vptr (.pair (.row (.pair (.row (.pair (.int .i32) (.int .i64))) (.pair .bool (.int .i64)))) (.pair (.int .i64) (.row (.int .i64)))) (d0,d1,d2) 0)]
def R282:(List ((List (Int×Int))×Bool×Int))×Int×List (Int)->SV×List Prop:=fun (d0,d1,d2)=>(.one (.int .i64 d1),[])
def K282:Con:=⟨true,[some (.pair (.row (.pair (.row (.pair (.int .i32) (.int .i64))) (.pair .bool (.int .i64)))) (.pair (.int .i64) (.row (.int .i64))))],fun xs=>match xs with | [.one (.vptr (.pair (.row (.pair (.row (.pair (.int .i32) (.int .i64))) (.pair .bool (.int .i64)))) (.pair (.int .i64) (.row (.int .i64)))) (d0,d1,d2) 0)]=>some (R282 (d0,d1,d2)) | _=>none⟩
noncomputable def G282:GP:=conG P282 R282
theorem P282_inj:∀ a b,(P282 a).map den0=(P282 b).map den0->a=b:=by
 rintro ⟨a0,a1,a2⟩ ⟨b0,b1,b2⟩ h
 simp only [P282,zK,List.map_nil,den0,den0L,List.drop_zero,zG,AV.one.injEq,AV.agg.injEq,Lf.int.injEq,Lf.str.injEq,Lf.bool.injEq,Lf.vrow.injEq,Lf.vptr.injEq,and_true,true_and,and_assoc] at h
 have h0:=h
 have h0:=Ty.enc_inj _ h0
 simp only [zF] at h0
 obtain ⟨rfl,rfl,rfl⟩:=h0
 rfl
theorem K282_ok:ConG G282 K282:=conG_of P282_inj (fun ⟨_,_,_⟩ ⟨_,_,_⟩=>rfl) (fun ⟨_,_,_⟩=>rfl) fun xs r h=>by
 simp only [K282] at h
 split at h
 ·cases h;rename_i d0 d1 d2;exact ⟨(d0,d1,d2),rfl,rfl⟩
 ·cases h
theorem pr282 {S:SC} (hB:SB S)  (h282:S.has 282 f282):PrOk S 282 (pureP G282):=by
 refine prM hB [] [] trivial trivial h282 (fun ⟨d0,d1,d2⟩=>⟨rfl,rfl,rfl⟩) (fun (d0,d1,d2)=>fun _ _ _ _=>none) 400 ?_
 rintro ⟨d0,d1,d2⟩ hc
 refine VC.use (p:=
  ((d1,d2).1=d1)) (by kernel_rfl) ?_
 exact rfl
def P284:(List ((List (Int×Int))×Bool×Int))×Int×List (Int)->List SV:=fun (d0,d1,d2)=>[.one (.vptr (.pair (.row (.pair (.row (.pair (.int .i32) (.int .i64))) (.pair .bool (.int .i64)))) (.pair (.int .i64) (.row (.int .i64)))) (d0,d1,d2) 0)]
def R284:(List ((List (Int×Int))×Bool×Int))×Int×List (Int)->SV×List Prop:=fun (d0,d1,d2)=>(.one (.int .i64 d2.length),[])
def K284:Con:=⟨true,[some (.pair (.row (.pair (.row (.pair (.int .i32) (.int .i64))) (.pair .bool (.int .i64)))) (.pair (.int .i64) (.row (.int .i64))))],fun xs=>match xs with | [.one (.vptr (.pair (.row (.pair (.row (.pair (.int .i32) (.int .i64))) (.pair .bool (.int .i64)))) (.pair (.int .i64) (.row (.int .i64)))) (d0,d1,d2) 0)]=>some (R284 (d0,d1,d2)) | _=>none⟩
noncomputable def G284:GP:=conG P284 R284
theorem P284_inj:∀ a b,(P284 a).map den0=(P284 b).map den0->a=b:=by
 rintro ⟨a0,a1,a2⟩ ⟨b0,b1,b2⟩ h
 simp only [P284,zK,List.map_nil,den0,den0L,List.drop_zero,zG,AV.one.injEq,AV.agg.injEq,Lf.int.injEq,Lf.str.injEq,Lf.bool.injEq,Lf.vrow.injEq,Lf.vptr.injEq,and_true,true_and,and_assoc] at h
 have h0:=h
 have h0:=Ty.enc_inj _ h0
 simp only [zF] at h0
 obtain ⟨rfl,rfl,rfl⟩:=h0
 rfl
theorem K284_ok:ConG G284 K284:=conG_of P284_inj (fun ⟨_,_,_⟩ ⟨_,_,_⟩=>rfl) (fun ⟨_,_,_⟩=>rfl) fun xs r h=>by
 simp only [K284] at h
 split at h
 ·cases h;rename_i d0 d1 d2;exact ⟨(d0,d1,d2),rfl,rfl⟩
 ·cases h
theorem pr284 {S:SC} (hB:SB S)  (h284:S.has 284 f284):PrOk S 284 (pureP G284):=by
 refine prM hB [] [] trivial trivial h284 (fun ⟨d0,d1,d2⟩=>⟨rfl,rfl,rfl⟩) (fun (d0,d1,d2)=>fun _ _ _ _=>none) 400 ?_
 rintro ⟨d0,d1,d2⟩ hc
 refine VC.use (p:=
  ((↑(List.length (d1,d2).2):Int)=(d2.length:Int))) (by kernel_rfl) ?_
 exact rfl
def P316:(List (Int×Int))×Bool×Int×Int->List SV:=fun (s0,s1,s2,r)=>[.one (.vptr (.pair (.row (.pair (.int .i32) (.int .i64))) (.pair .bool (.int .i64))) (s0,s1,s2) 0),.one (.int .i32 r)]
def R316:(List (Int×Int))×Bool×Int×Int->SV×List Prop:=fun (s0,s1,s2,r)=>(.tup [.o (.int .i64 (fndI s0 r)),.o (.bool (nxtB s0 r))],[EdR s0,IR r])
def K316:Con:=⟨true,[some (.pair (.row (.pair (.int .i32) (.int .i64))) (.pair .bool (.int .i64))),none],fun xs=>match xs with | [.one (.vptr (.pair (.row (.pair (.int .i32) (.int .i64))) (.pair .bool (.int .i64))) (s0,s1,s2) 0),.one (.int .i32 r)]=>some (R316 (s0,s1,s2,r)) | _=>none⟩
noncomputable def G316:GP:=conG P316 R316
theorem P316_inj:∀ a b,(P316 a).map den0=(P316 b).map den0->a=b:=by
 rintro ⟨a0,a1,a2,a3⟩ ⟨b0,b1,b2,b3⟩ h
 simp only [P316,zK,List.map_nil,den0,den0L,List.drop_zero,zG,AV.one.injEq,AV.agg.injEq,Lf.int.injEq,Lf.str.injEq,Lf.bool.injEq,Lf.vrow.injEq,Lf.vptr.injEq,and_true,true_and,and_assoc] at h
 obtain ⟨h0,h1⟩:=h
 have h0:=Ty.enc_inj _ h0
 simp only [zF] at h0
 obtain ⟨rfl,rfl,rfl⟩:=h0
 subst h1
 rfl
theorem K316_ok:ConG G316 K316:=conG_of P316_inj (fun ⟨_,_,_,_⟩ ⟨_,_,_,_⟩=>rfl) (fun ⟨_,_,_,_⟩=>rfl) fun xs r h=>by
 simp only [K316] at h
 split at h
 ·cases h;rename_i s0 s1 s2 r;exact ⟨(s0,s1,s2,r),rfl,rfl⟩
 ·cases h
theorem pr316 {S:SC} (hB:SB S)  (h334:S.has 334 f334) (h335:S.has 335 f335) (h316:S.has 316 f316):PrOk S 316 (pureP G316):=by
 refine prM hB [(334,f334),(335,f335)] [] ⟨h334,h335,trivial⟩ trivial h316 (fun ⟨s0,s1,s2,r⟩=>⟨rfl,rfl,rfl⟩) (fun (s0,s1,s2,r)=>fun f id T L=>match f,id with
  | 334,0=>some (.inv { p:Nat×Nat // p.1<=p.2/\p.2<=s0.length/\(∀ j,j<p.1->(s0.getD j (0,0)).1<r)/\(∀ j,p.2<=j->j<s0.length->r<=(s0.getD j (0,0)).1) } (fun x=>([(9,.one (.int .i64 x.1.1)),(10,.one (.int .i64 x.1.2))],[])) (fun x=>x.1.2-x.1.1))
  | _,_=>none) 1000 ?_
 rintro ⟨s0,s1,s2,r⟩ hc
 have hc1:EdR s0:=hc.1
 have hc2:IR r:=hc.2.1
 refine VC.use (p:=
  ((∃ x1:{ p:Nat×Nat // p.fst≤p.snd∧p.snd≤s0.length∧(∀ (j:Nat),j < p.fst→(s0.getD j (0,0)).fst < r)∧∀ (j:Nat),p.snd≤j→j < s0.length→r≤(s0.getD j (0,0)).fst },
    ((s0=s0)/\
    ((r=r)/\
    (((s0.length:Int)=(s0.length:Int))/\
    ((0=(x1.1.1:Int))/\
    ((s0.length:Int)=(x1.1.2:Int)))))))/\
  (∀ x1 : { p : Nat × Nat // p.fst ≤ p.snd ∧ p.snd ≤ s0.length ∧ (∀ (j : Nat), j < p.fst → (s0.getD j (0, 0)).fst < r) ∧ ∀ (j : Nat), p.snd ≤ j → j < s0.length → r ≤ (s0.getD j (0, 0)).fst },
   (((↑x1.val.fst:Int) < (↑x1.val.snd:Int) →
     ((i64R ((x1.1.1:Int)+(x1.1.2:Int)))/\
     ((i64R ((IntKind.u64.wrap ((x1.1.1:Int)+(x1.1.2:Int))).fdiv 2))/\
     ((0<=(IntKind.u64.wrap ((x1.1.1:Int)+(x1.1.2:Int))).fdiv 2/\(IntKind.u64.wrap ((x1.1.1:Int)+(x1.1.2:Int))).fdiv 2<(s0.length:Int))/\
     ((i64R (s0.getD ((IntKind.u64.wrap ((x1.1.1:Int)+(x1.1.2:Int))).fdiv 2).toNat (0,0)).1)/\
     ((i64R r)/\
     ((i64R ((s0.getD ((IntKind.u64.wrap ((x1.1.1:Int)+(x1.1.2:Int))).fdiv 2).toNat (0,0)).1-r))/\
     (((s0.getD ((IntKind.u64.wrap ((↑x1.val.fst:Int)+(↑x1.val.snd:Int))).fdiv 2).toNat (0,0)).fst - r < 0 →
       ((i64R ((IntKind.u64.wrap ((x1.1.1:Int)+(x1.1.2:Int))).fdiv 2+1))/\
       (∃ x2 : { p : Nat × Nat // p.fst ≤ p.snd ∧ p.snd ≤ s0.length ∧ (∀ (j : Nat), j < p.fst → (s0.getD j (0, 0)).fst < r) ∧ ∀ (j : Nat), p.snd ≤ j → j < s0.length → r ≤ (s0.getD j (0, 0)).fst },
        ((x2.1.2-x2.1.1<x1.1.2-x1.1.1)/\
        ((s0=s0)/\
        ((r=r)/\
        (((s0.length:Int)=(s0.length:Int))/\
        (((IntKind.u64.wrap ((x1.1.1:Int)+(x1.1.2:Int))).fdiv 2+1=(x2.1.1:Int))/\
        ((x1.1.2:Int)=(x2.1.2:Int))))))))))/\
     (¬(s0.getD ((IntKind.u64.wrap ((↑x1.val.fst : Int) + (↑x1.val.snd : Int))).fdiv 2).toNat (0, 0)).fst - r < 0 →
      (∃ x2 : { p : Nat × Nat // p.fst ≤ p.snd ∧ p.snd ≤ s0.length ∧ (∀ (j : Nat), j < p.fst → (s0.getD j (0, 0)).fst < r) ∧ ∀ (j : Nat), p.snd ≤ j → j < s0.length → r ≤ (s0.getD j (0, 0)).fst },
       ((x2.1.2-x2.1.1<x1.1.2-x1.1.1)/\
       ((s0=s0)/\
       ((r=r)/\
       (((s0.length:Int)=(s0.length:Int))/\
       (((x1.1.1:Int)=(x2.1.1:Int))/\
       ((IntKind.u64.wrap ((x1.1.1:Int)+(x1.1.2:Int))).fdiv 2=(x2.1.2:Int)))))))))))))))))/\
   (¬(↑x1.val.fst : Int) < (↑x1.val.snd : Int) →
    (((↑x1.val.fst:Int) < (↑s0.length:Int) →
      ((0<=(x1.1.1:Int)/\(x1.1.1:Int)<(s0.length:Int))/\
      ((i64R (s0.getD x1.1.1 (0,0)).1)/\
      ((i64R r)/\
      ((i64R ((s0.getD x1.1.1 (0,0)).1-r))/\
      (((x1.1.1:Int)=fndI s0 r)/\
      (decide ((s0.getD x1.1.1 (0,0)).1-r=0)=nxtB s0 r)))))))/\
    (¬(↑x1.val.fst : Int) < (↑s0.length : Int) →
     (((x1.1.1:Int)=fndI s0 r)/\
     (false=nxtB s0 r))))))))) (by kernel_rfl) ?_
 have hl:=hc1.2.2
 have hr:i64R r:=by have:=hc2;unfold IR at this;unfold i64R;omega
 refine ⟨⟨⟨(0,s0.length),Nat.zero_le _,zJ _,fun j h=>absurd h (zS _),fun j h h'=>absurd h' (by omega)⟩,rfl,rfl,rfl,rfl,rfl⟩,?_⟩
 rintro ⟨⟨a,b⟩,hab,hb,h1,h2⟩
 dsimp only at hab hb h1 h2 ⊢
 rw [half_u64 a b (by omega)]
 have hm1:a<b->(a+b) / 2<b:=fun h=>by omega
 have hm2:a<=(a+b) / 2:=by omega
 generalize (a+b) / 2=m at hm1 hm2 ⊢
 have hi:=hc1.ir m
 have hia:=hc1.ir a
 have hr2:=hc2
 unfold IR at hi hia hr2
 refine ⟨fun h=>?_,fun h=>⟨fun h3=>⟨⟨by omega,h3⟩,by unfold i64R;omega,hr,by unfold i64R;omega,?_,?_⟩,fun h3=>⟨?_,?_⟩⟩⟩
 ·have hm1:=hm1 (by omega)
  rw [Int.toNat_natCast]
  refine ⟨by unfold i64R;omega,by unfold i64R;omega,⟨by omega,by omega⟩,by unfold i64R;omega,hr,by unfold i64R;omega,fun h4=>⟨by unfold i64R;omega,⟨(m+1,b),by dsimp only;omega,hb,fun j hj=>?_,h2⟩,by dsimp only;omega,rfl,rfl,rfl,by push_cast;rfl,rfl⟩,fun h4=>⟨⟨(a,m),hm2,by dsimp only;omega,h1,fun j hj hjl=>?_⟩,by dsimp only;omega,rfl,rfl,rfl,rfl,rfl⟩⟩
  ·by_cases e:j=m
   ·subst e;omega
   ·have:=hc1.mono (i:=j) (j:=m) (by dsimp only at hj;omega) (by omega);omega
  ·dsimp only at hj
   by_cases e:j=m
   ·subst e;omega
   ·have:=hc1.mono (i:=m) (j:=j) (by omega) hjl;omega
 all_goals obtain rfl:a=b:=by omega
 ·exact fndI_at hb h1 h2
 ·by_cases h4:(s0.getD a (0,0)).1=r
  ·have:=(nxt_yes (n:=a) (by omega) h1 (decide_eq_true (by omega))).1
   rw [this];exact decide_eq_true (by omega)
  ·rw [decide_eq_false (by omega)]
   refine (nxt_not hc1 hb h1 fun j hj hjl=>?_).1.symm
   have h5:=h2 a (zJ _) (by omega)
   by_cases e:j=a
   ·subst e;omega
   ·have:=hc1.mono (i:=a) (j:=j) (by omega) hjl;omega
 ·exact fndI_at hb h1 h2
 ·exact (nxt_not hc1 hb h1 fun j hj hjl=>absurd hjl (by omega)).1.symm
end Go.EA
