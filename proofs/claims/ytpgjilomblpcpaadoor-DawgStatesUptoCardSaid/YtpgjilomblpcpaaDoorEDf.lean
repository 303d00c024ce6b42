/- Layer 10: what an automaton is asked. Conditions: none. -/
import Derived.Test.YtpgjilomblpcpaaDoorEK26
import Derived.Test.YtpgjilomblpcpaaDoorEK23
import Derived.KernelRfl
set_option linter.unusedVariables false
set_option linter.unusedSimpArgs false
set_option maxRecDepth 100000
set_option maxHeartbeats 0
namespace Go.EA
open F
def P281:(List ((List (Int×Int))×Bool×Int))×Int×List (Int)->List SV:=fun (d0,d1,d2)=>[.one (.vptr (.pair (.row (.pair (.row (.pair (.int .i32) (.int .i64))) (.pair .bool (.int .i64)))) (.pair (.int .i64) (.row (.int .i64)))) (d0,d1,d2) 0)]
def R281:(List ((List (Int×Int))×Bool×Int))×Int×List (Int)->SV×List Prop:=fun (d0,d1,d2)=>(.one (.int .i64 d0.length),[])
def K281:Con:=⟨true,[some (.pair (.row (.pair (.row (.pair (.int .i32) (.int .i64))) (.pair .bool (.int .i64)))) (.pair (.int .i64) (.row (.int .i64))))],fun xs=>match xs with | [.one (.vptr (.pair (.row (.pair (.row (.pair (.int .i32) (.int .i64))) (.pair .bool (.int .i64)))) (.pair (.int .i64) (.row (.int .i64)))) (d0,d1,d2) 0)]=>some (R281 (d0,d1,d2)) | _=>none⟩
noncomputable def G281:GP:=conG P281 R281
theorem P281_inj:∀ a b,(P281 a).map den0=(P281 b).map den0->a=b:=by
 rintro ⟨a0,a1,a2⟩ ⟨b0,b1,b2⟩ h
 simp only [P281,zK,List.map_nil,den0,den0L,List.drop_zero,zG,AV.one.injEq,AV.agg.injEq,Lf.int.injEq,Lf.str.injEq,Lf.bool.injEq,Lf.vrow.injEq,Lf.vptr.injEq,and_true,true_and,and_assoc] at h
 have h0:=h
 have h0:=Ty.enc_inj _ h0
 simp only [zF] at h0
 obtain ⟨rfl,rfl,rfl⟩:=h0
 rfl
theorem K281_ok:ConG G281 K281:=conG_of P281_inj (fun ⟨_,_,_⟩ ⟨_,_,_⟩=>rfl) (fun ⟨_,_,_⟩=>rfl) fun xs r h=>by
 simp only [K281] at h
 split at h
 ·cases h;rename_i d0 d1 d2;exact ⟨(d0,d1,d2),rfl,rfl⟩
 ·cases h
theorem pr281 {S:SC} (hB:SB S)  (h281:S.has 281 f281):PrOk S 281 (pureP G281):=by
 refine prM hB [] [] trivial trivial h281 (fun ⟨d0,d1,d2⟩=>⟨rfl,rfl,rfl⟩) (fun (d0,d1,d2)=>fun _ _ _ _=>none) 400 ?_
 rintro ⟨d0,d1,d2⟩ hc
 refine VC.use (p:=
  ((d0.length:Int)=(d0.length:Int))) (by kernel_rfl) ?_
 exact rfl
def P282:(List ((List (Int×Int))×Bool×Int))×Int×List (Int)->List SV:=fun (d0,d1,d2)=>[.one (.vptr (.pair (.row (.pair (.row (.pair (.int .i32) (.int .i64))) (.pair .bool (.int .i64)))) (.pair (.int .i64) (.row (.int .i64)))) (d0,d1,d2) 0)]
def R282:(List ((List (Int×Int))×Bool×Int))×Int×List (Int)->SV×List Prop:=fun (d0,d1,d2)=>(.one (.int .i64 d1),[])
def K282:Con:=⟨true,[some (.pair (.row (.pair (.row (.pair (.int .i32) (.int .i64))) (.pair .bool (.int .i64)))) (.pair (.int .i64) (.row (.int .i64))))],fun xs=>match xs with | [.one (.vptr (.pair (.row (.pair (.row (.pair (.int .i32) (.int .i64))) (.pair .bool (.int .i64)))) (.pair (.int .i64) (.row (.int .i64)))) (d0,d1,d2) 0)]=>some (R282 (d0,d1,d2)) | _=>none⟩
noncomputable def G282:GP:=conG P282 R282
theorem P282_inj:∀ a b,(P282 a).map den0=(P282 b).map den0->a=b:=by
 rintro ⟨a0,a1,a2⟩ ⟨b0,b1,b2⟩ h
 simp only [P282,zK,List.map_nil,den0,den0L,List.drop_zero,zG,AV.one.injEq,AV.agg.injEq,Lf.int.injEq,Lf.str.injEq,Lf.bool.injEq,Lf.vrow.injEq,Lf.vptr.injEq,and_true,true_and,and_assoc] at h
 have h0:=h
 have h0:=Ty.enc_inj _ h0
 simp only [zF] at h0
 obtain ⟨rfl,rfl,rfl⟩:=h0
 rfl
theorem K282_ok:ConG G282 K282:=conG_of P282_inj (fun ⟨_,_,_⟩ ⟨_,_,_⟩=>rfl) (fun ⟨_,_,_⟩=>rfl) fun xs r h=>by
 simp only [K282] at h
 split at h
 ·cases h;rename_i d0 d1 d2;exact ⟨(d0,d1,d2),rfl,rfl⟩
 ·cases h
theorem pr282 {S:SC} (hB:SB S)  (h282:S.has 282 f282):PrOk S 282 (pureP G282):=by
 refine prM hB [] [] trivial trivial h282 (fun ⟨d0,d1,d2⟩=>⟨rfl,rfl,rfl⟩) (fun (d0,d1,d2)=>fun _ _ _ _=>none) 400 ?_
 rintro ⟨d0,d1,d2⟩ hc
 refine VC.use (p:=
  ((d1,d2).1=d1)) (by kernel_rfl) ?_
 exact rfl
def P284:(List ((List (Int×Int))×Bool×Int))×Int×List (Int)->List SV:=fun (d0,d1,d2)=>[.one (.vptr (.pair (.row (.pair (.row (.pair (.int .i32) (.int .i64))) (.pair .bool (.int .i64)))) (.pair (.int .i64) (.row (.int .i64)))) (d0,d1,d2) 0)]
def R284:(List ((List (Int×Int))×Bool×Int))×Int×List (Int)->SV×List Prop:=fun (d0,d1,d2)=>(.one (.int .i64 d2.length),[])
def K284:Con:=⟨true,[some (.pair (.row (.pair (.row (.pair (.int .i32) (.int .i64))) (.pair .bool (.int .i64)))) (.pair (.int .i64) (.row (.int .i64))))],fun xs=>match xs with | [.one (.vptr (.pair (.row (.pair (.row (.pair (.int .i32) (.int .i64))) (.pair .bool (.int .i64)))) (.pair (.int .i64) (.row (.int .i64)))) (d0,d1,d2) 0)]=>some (R284 (d0,d1,d2)) | _=>none⟩
noncomputable def G284:GP:=conG P284 R284
theorem P284_inj:∀ a b,(P284 a).map den0=(P284 b).map den0->a=b:=by
 rintro ⟨a0,a1,a2⟩ ⟨b0,b1,b2⟩ h
 simp only [P284,zK,List.map_nil,den0,den0L,List.drop_zero,zG,AV.one.injEq,AV.agg.injEq,Lf.int.injEq,Lf.str.injEq,Lf.bool.injEq,Lf.vrow.injEq,Lf.vptr.injEq,and_true,true_and,and_assoc] at h
 have h0:=h
 have h0:=Ty.enc_inj _ h0
 simp only [zF] at h0
 obtain ⟨rfl,rfl,rfl⟩:=h0
 rfl
theorem K284_ok:ConG G284 K284:=conG_of P284_inj (fun ⟨_,_,_⟩ ⟨_,_,_⟩=>rfl) (fun ⟨_,_,_⟩=>rfl) fun xs r h=>by
 simp only [K284] at h
 split at h
 ·cases h;rename_i d0 d1 d2;exact ⟨(d0,d1,d2),rfl,rfl⟩
 ·cases h
theorem pr284 {S:SC} (hB:SB S)  (h284:S.has 284 f284):PrOk S 284 (pureP G284):=by
 refine prM hB [] [] trivial trivial h284 (fun ⟨d0,d1,d2⟩=>⟨rfl,rfl,rfl⟩) (fun (d0,d1,d2)=>fun _ _ _ _=>none) 400 ?_
 rintro ⟨d0,d1,d2⟩ hc
 refine VC.use (p:=
  ((↑(List.length (d1,d2).2):Int)=(d2.length:Int))) (by kernel_rfl) ?_
 exact rfl
def P286:(List ((List (Int×Int))×Bool×Int))×Int×List (Int)×Int->List SV:=fun (d0,d1,d2,i)=>[.one (.vptr (.pair (.row (.pair (.row (.pair (.int .i32) (.int .i64))) (.pair .bool (.int .i64)))) (.pair (.int .i64) (.row (.int .i64)))) (d0,d1,d2) 0),.one (.int .i64 i)]
def R286:(List ((List (Int×Int))×Bool×Int))×Int×List (Int)×Int->SV×List Prop:=fun (d0,d1,d2,i)=>(.tup [.o (.bool (decide (0<=i/\i<d0.length)&&(stA d0 i.toNat).2.1)),.o (.int .i64 (if 0<=i/\i<d0.length then 0 else 2))],[])
def K286:Con:=⟨true,[some (.pair (.row (.pair (.row (.pair (.int .i32) (.int .i64))) (.pair .bool (.int .i64)))) (.pair (.int .i64) (.row (.int .i64)))),none],fun xs=>match xs with | [.one (.vptr (.pair (.row (.pair (.row (.pair (.int .i32) (.int .i64))) (.pair .bool (.int .i64)))) (.pair (.int .i64) (.row (.int .i64)))) (d0,d1,d2) 0),.one (.int .i64 i)]=>some (R286 (d0,d1,d2,i)) | _=>none⟩
noncomputable def G286:GP:=conG P286 R286
theorem P286_inj:∀ a b,(P286 a).map den0=(P286 b).map den0->a=b:=by
 rintro ⟨a0,a1,a2,a3⟩ ⟨b0,b1,b2,b3⟩ h
 simp only [P286,zK,List.map_nil,den0,den0L,List.drop_zero,zG,AV.one.injEq,AV.agg.injEq,Lf.int.injEq,Lf.str.injEq,Lf.bool.injEq,Lf.vrow.injEq,Lf.vptr.injEq,and_true,true_and,and_assoc] at h
 obtain ⟨h0,h1⟩:=h
 have h0:=Ty.enc_inj _ h0
 simp only [zF] at h0
 obtain ⟨rfl,rfl,rfl⟩:=h0
 subst h1
 rfl
theorem K286_ok:ConG G286 K286:=conG_of P286_inj (fun ⟨_,_,_,_⟩ ⟨_,_,_,_⟩=>rfl) (fun ⟨_,_,_,_⟩=>rfl) fun xs r h=>by
 simp only [K286] at h
 split at h
 ·cases h;rename_i d0 d1 d2 i;exact ⟨(d0,d1,d2,i),rfl,rfl⟩
 ·cases h
theorem pr286 {S:SC} (hB:SB S)  (h314:S.has 314 f314) (h286:S.has 286 f286):PrOk S 286 (pureP G286):=by
 refine prM hB [(314,f314)] [] ⟨h314,trivial⟩ trivial h286 (fun ⟨d0,d1,d2,i⟩=>⟨rfl,rfl,rfl⟩) (fun (d0,d1,d2,i)=>fun _ _ _ _=>none) 400 ?_
 rintro ⟨d0,d1,d2,i⟩ hc
 refine VC.use (p:=
  ((i < 0 →
    ((false=(decide (0<=i/\i<(d0.length:Int))&&(stA d0 i.toNat).2.1)) /\
    (2=if 0<=i/\i<(d0.length:Int) then (0:Int) else (2:Int)))) /\
  (¬i < 0 →
   (((↑d0.length:Int)≤i →
     ((false=(decide (0<=i/\i<(d0.length:Int))&&(stA d0 i.toNat).2.1)) /\
     (2=if 0<=i/\i<(d0.length:Int) then (0:Int) else (2:Int)))) /\
   (¬(↑d0.length : Int) ≤ i →
    ((0<=i/\i<(d0.length:Int)) /\
    (((d0.getD i.toNat ([],false,0)).2.1=(decide (0<=i/\i<(d0.length:Int))&&(stA d0 i.toNat).2.1)) /\
    (0=if 0<=i/\i<(d0.length:Int) then (0:Int) else (2:Int))))))))) (by kernel_rfl) ?_
 refine ⟨fun h=>⟨by rw [decide_eq_false (by omega)];rfl,by rw [if_neg (by omega)]⟩,fun h=>⟨fun h2=>⟨by rw [decide_eq_false (by omega)];rfl,by rw [if_neg (by omega)]⟩,fun h2=>⟨⟨by omega,by omega⟩,by rw [decide_eq_true ⟨by omega,by omega⟩];rfl,by rw [if_pos ⟨by omega,by omega⟩]⟩⟩⟩
def P285:(List ((List (Int×Int))×Bool×Int))×Int×List (Int)×Int->List SV:=fun (d0,d1,d2,i)=>[.one (.vptr (.pair (.row (.pair (.row (.pair (.int .i32) (.int .i64))) (.pair .bool (.int .i64)))) (.pair (.int .i64) (.row (.int .i64)))) (d0,d1,d2) 0),.one (.int .i64 i)]
def R285:(List ((List (Int×Int))×Bool×Int))×Int×List (Int)×Int->SV×List Prop:=fun (d0,d1,d2,i)=>(.tup [.o (.row (.pair (.int .i32) (.int .i64)) (if 0<=i/\i<d0.length then (stA d0 i.toNat).1 else [])),.o (.int .i64 (if 0<=i/\i<d0.length then 0 else 2))],[EdS d0])
def K285:Con:=⟨false,[some (.pair (.row (.pair (.row (.pair (.int .i32) (.int .i64))) (.pair .bool (.int .i64)))) (.pair (.int .i64) (.row (.int .i64)))),none],fun xs=>match xs with | [.one (.vptr (.pair (.row (.pair (.row (.pair (.int .i32) (.int .i64))) (.pair .bool (.int .i64)))) (.pair (.int .i64) (.row (.int .i64)))) (d0,d1,d2) 0),.one (.int .i64 i)]=>some (R285 (d0,d1,d2,i)) | _=>none⟩
noncomputable def G285:GP:=conG P285 R285
theorem P285_inj:∀ a b,(P285 a).map den0=(P285 b).map den0->a=b:=by
 rintro ⟨a0,a1,a2,a3⟩ ⟨b0,b1,b2,b3⟩ h
 simp only [P285,zK,List.map_nil,den0,den0L,List.drop_zero,zG,AV.one.injEq,AV.agg.injEq,Lf.int.injEq,Lf.str.injEq,Lf.bool.injEq,Lf.vrow.injEq,Lf.vptr.injEq,and_true,true_and,and_assoc] at h
 obtain ⟨h0,h1⟩:=h
 have h0:=Ty.enc_inj _ h0
 simp only [zF] at h0
 obtain ⟨rfl,rfl,rfl⟩:=h0
 subst h1
 rfl
theorem K285_ok:ConG G285 K285:=conG_of P285_inj (fun ⟨_,_,_,_⟩ ⟨_,_,_,_⟩=>rfl) (fun ⟨_,_,_,_⟩=>rfl) fun xs r h=>by
 simp only [K285] at h
 split at h
 ·cases h;rename_i d0 d1 d2 i;exact ⟨(d0,d1,d2,i),rfl,rfl⟩
 ·cases h
theorem pr285 {S:SC} (hB:SB S)  (h314:S.has 314 f314) (h315:S.has 315 f315) (h285:S.has 285 f285):PrOk S 285 (pureP G285):=by
 refine prI hB [(314,f314),(315,f315)] [] [] ⟨h314,h315,trivial⟩ trivial trivial h285 (fun ⟨d0,d1,d2,i⟩=>⟨rfl,rfl,rfl⟩) (fun (d0,d1,d2,i)=>fun _ _ _ _=>none) 400 ?_
 rintro ⟨d0,d1,d2,i⟩ hc
 have hc1:EdS d0:=hc.1
 refine VC.use (p:=
  ((i < 0 →
    (([]=if 0<=i/\i<(d0.length:Int) then (stA d0 i.toNat).1 else []) /\
    (2=if 0<=i/\i<(d0.length:Int) then (0:Int) else (2:Int)))) /\
  (¬i < 0 →
   (((↑d0.length:Int)≤i →
     (([]=if 0<=i/\i<(d0.length:Int) then (stA d0 i.toNat).1 else []) /\
     (2=if 0<=i/\i<(d0.length:Int) then (0:Int) else (2:Int)))) /\
   (¬(↑d0.length : Int) ≤ i →
    ((0<=i/\i<(d0.length:Int)) /\
    (((d0.getD i.toNat ([],false,0)).fst=[] →
      (([]=if 0<=i/\i<(d0.length:Int) then (stA d0 i.toNat).1 else []) /\
      (0=if 0<=i/\i<(d0.length:Int) then (0:Int) else (2:Int)))) /\
    (((0+List.length (d0.getD i.toNat ([],false,0)).1)*16<=140737488355328) /\
    (([]++(d0.getD i.toNat ([],false,0)).1=if 0<=i/\i<(d0.length:Int) then (stA d0 i.toNat).1 else []) /\
    (0=if 0<=i/\i<(d0.length:Int) then (0:Int) else (2:Int))))))))))) (by kernel_rfl) ?_
 refine ⟨fun h=>⟨by rw [if_neg (by omega)],by rw [if_neg (by omega)]⟩,fun h=>⟨fun h2=>⟨by rw [if_neg (by omega)],by rw [if_neg (by omega)]⟩,fun h2=>?_⟩⟩
 have h3:=(hc1.at i.toNat).2.2
 rw [if_pos ⟨by omega,by omega⟩,if_pos ⟨by omega,by omega⟩]
 exact ⟨⟨by omega,by omega⟩,fun h4=>⟨h4.symm,rfl⟩,by omega,rfl,rfl⟩
def P316:(List (Int×Int))×Bool×Int×Int->List SV:=fun (s0,s1,s2,r)=>[.one (.vptr (.pair (.row (.pair (.int .i32) (.int .i64))) (.pair .bool (.int .i64))) (s0,s1,s2) 0),.one (.int .i32 r)]
def R316:(List (Int×Int))×Bool×Int×Int->SV×List Prop:=fun (s0,s1,s2,r)=>(.tup [.o (.int .i64 (fndI s0 r)),.o (.bool (nxtB s0 r))],[EdR s0,IR r])
def K316:Con:=⟨true,[some (.pair (.row (.pair (.int .i32) (.int .i64))) (.pair .bool (.int .i64))),none],fun xs=>match xs with | [.one (.vptr (.pair (.row (.pair (.int .i32) (.int .i64))) (.pair .bool (.int .i64))) (s0,s1,s2) 0),.one (.int .i32 r)]=>some (R316 (s0,s1,s2,r)) | _=>none⟩
noncomputable def G316:GP:=conG P316 R316
theorem P316_inj:∀ a b,(P316 a).map den0=(P316 b).map den0->a=b:=by
 rintro ⟨a0,a1,a2,a3⟩ ⟨b0,b1,b2,b3⟩ h
 simp only [P316,zK,List.map_nil,den0,den0L,List.drop_zero,zG,AV.one.injEq,AV.agg.injEq,Lf.int.injEq,Lf.str.injEq,Lf.bool.injEq,Lf.vrow.injEq,Lf.vptr.injEq,and_true,true_and,and_assoc] at h
 obtain ⟨h0,h1⟩:=h
 have h0:=Ty.enc_inj _ h0
 simp only [zF] at h0
 obtain ⟨rfl,rfl,rfl⟩:=h0
 subst h1
 rfl
theorem K316_ok:ConG G316 K316:=conG_of P316_inj (fun ⟨_,_,_,_⟩ ⟨_,_,_,_⟩=>rfl) (fun ⟨_,_,_,_⟩=>rfl) fun xs r h=>by
 simp only [K316] at h
 split at h
 ·cases h;rename_i s0 s1 s2 r;exact ⟨(s0,s1,s2,r),rfl,rfl⟩
 ·cases h
theorem pr316 {S:SC} (hB:SB S)  (h334:S.has 334 f334) (h335:S.has 335 f335) (h316:S.has 316 f316):PrOk S 316 (pureP G316):=by
 refine prM hB [(334,f334),(335,f335)] [] ⟨h334,h335,trivial⟩ trivial h316 (fun ⟨s0,s1,s2,r⟩=>⟨rfl,rfl,rfl⟩) (fun (s0,s1,s2,r)=>fun f id T L=>match f,id with
  | 334,0=>some (.inv { p:Nat×Nat // p.1<=p.2/\p.2<=s0.length/\(∀ j,j<p.1->(s0.getD j (0,0)).1<r)/\(∀ j,p.2<=j->j<s0.length->r<=(s0.getD j (0,0)).1) } (fun x=>([(9,.one (.int .i64 x.1.1)),(10,.one (.int .i64 x.1.2))],[])) (fun x=>x.1.2-x.1.1))
  | _,_=>none) 1000 ?_
 rintro ⟨s0,s1,s2,r⟩ hc
 have hc1:EdR s0:=hc.1
 have hc2:IR r:=hc.2.1
 refine VC.use (p:=
  ((∃ x1:{ p:Nat×Nat // p.fst≤p.snd∧p.snd≤s0.length∧(∀ (j:Nat),j < p.fst→(s0.getD j (0,0)).fst < r)∧∀ (j:Nat),p.snd≤j→j < s0.length→r≤(s0.getD j (0,0)).fst },
    ((s0=s0) /\
    ((r=r) /\
    (((s0.length:Int)=(s0.length:Int)) /\
    ((0=(x1.1.1:Int)) /\
    ((s0.length:Int)=(x1.1.2:Int))))))) /\
  (∀ x1 : { p : Nat × Nat // p.fst ≤ p.snd ∧ p.snd ≤ s0.length ∧ (∀ (j : Nat), j < p.fst → (s0.getD j (0, 0)).fst < r) ∧ ∀ (j : Nat), p.snd ≤ j → j < s0.length → r ≤ (s0.getD j (0, 0)).fst },
   (((↑x1.val.fst:Int) < (↑x1.val.snd:Int) →
     ((i64R ((x1.1.1:Int)+(x1.1.2:Int))) /\
     ((i64R ((IntKind.u64.wrap ((x1.1.1:Int)+(x1.1.2:Int))).fdiv 2)) /\
     ((0<=(IntKind.u64.wrap ((x1.1.1:Int)+(x1.1.2:Int))).fdiv 2/\(IntKind.u64.wrap ((x1.1.1:Int)+(x1.1.2:Int))).fdiv 2<(s0.length:Int)) /\
     ((i64R (s0.getD ((IntKind.u64.wrap ((x1.1.1:Int)+(x1.1.2:Int))).fdiv 2).toNat (0,0)).1) /\
     ((i64R r) /\
     ((i64R ((s0.getD ((IntKind.u64.wrap ((x1.1.1:Int)+(x1.1.2:Int))).fdiv 2).toNat (0,0)).1-r)) /\
     (((s0.getD ((IntKind.u64.wrap ((↑x1.val.fst:Int)+(↑x1.val.snd:Int))).fdiv 2).toNat (0,0)).fst - r < 0 →
       ((i64R ((IntKind.u64.wrap ((x1.1.1:Int)+(x1.1.2:Int))).fdiv 2+1)) /\
       (∃ x2 : { p : Nat × Nat // p.fst ≤ p.snd ∧ p.snd ≤ s0.length ∧ (∀ (j : Nat), j < p.fst → (s0.getD j (0, 0)).fst < r) ∧ ∀ (j : Nat), p.snd ≤ j → j < s0.length → r ≤ (s0.getD j (0, 0)).fst },
        ((x2.1.2-x2.1.1<x1.1.2-x1.1.1) /\
        ((s0=s0) /\
        ((r=r) /\
        (((s0.length:Int)=(s0.length:Int)) /\
        (((IntKind.u64.wrap ((x1.1.1:Int)+(x1.1.2:Int))).fdiv 2+1=(x2.1.1:Int)) /\
        ((x1.1.2:Int)=(x2.1.2:Int)))))))))) /\
     (¬(s0.getD ((IntKind.u64.wrap ((↑x1.val.fst : Int) + (↑x1.val.snd : Int))).fdiv 2).toNat (0, 0)).fst - r < 0 →
      (∃ x2 : { p : Nat × Nat // p.fst ≤ p.snd ∧ p.snd ≤ s0.length ∧ (∀ (j : Nat), j < p.fst → (s0.getD j (0, 0)).fst < r) ∧ ∀ (j : Nat), p.snd ≤ j → j < s0.length → r ≤ (s0.getD j (0, 0)).fst },
       ((x2.1.2-x2.1.1<x1.1.2-x1.1.1) /\
       ((s0=s0) /\
       ((r=r) /\
       (((s0.length:Int)=(s0.length:Int)) /\
       (((x1.1.1:Int)=(x2.1.1:Int)) /\
       ((IntKind.u64.wrap ((x1.1.1:Int)+(x1.1.2:Int))).fdiv 2=(x2.1.2:Int))))))))))))))))) /\
   (¬(↑x1.val.fst : Int) < (↑x1.val.snd : Int) →
    (((↑x1.val.fst:Int) < (↑s0.length:Int) →
      ((0<=(x1.1.1:Int)/\(x1.1.1:Int)<(s0.length:Int)) /\
      ((i64R (s0.getD x1.1.1 (0,0)).1) /\
      ((i64R r) /\
      ((i64R ((s0.getD x1.1.1 (0,0)).1-r)) /\
      (((x1.1.1:Int)=fndI s0 r) /\
      (decide ((s0.getD x1.1.1 (0,0)).1-r=0)=nxtB s0 r))))))) /\
    (¬(↑x1.val.fst : Int) < (↑s0.length : Int) →
     (((x1.1.1:Int)=fndI s0 r) /\
     (false=nxtB s0 r))))))))) (by kernel_rfl) ?_
 have hl:=hc1.2.2
 have hr:i64R r:=by have:=hc2;unfold IR at this;unfold i64R;omega
 refine ⟨⟨⟨(0,s0.length),Nat.zero_le _,zJ _,fun j h=>absurd h (Nat.not_lt_zero _),fun j h h'=>absurd h' (by omega)⟩,rfl,rfl,rfl,rfl,rfl⟩,?_⟩
 rintro ⟨⟨a,b⟩,hab,hb,h1,h2⟩
 dsimp only at hab hb h1 h2 ⊢
 rw [half_u64 a b (by omega)]
 have hm1:a<b->(a+b) / 2<b:=fun h=>by omega
 have hm2:a<=(a+b) / 2:=by omega
 generalize (a+b) / 2=m at hm1 hm2 ⊢
 have hi:=hc1.ir m
 have hia:=hc1.ir a
 have hr2:=hc2
 unfold IR at hi hia hr2
 refine ⟨fun h=>?_,fun h=>⟨fun h3=>⟨⟨by omega,h3⟩,by unfold i64R;omega,hr,by unfold i64R;omega,?_,?_⟩,fun h3=>⟨?_,?_⟩⟩⟩
 ·have hm1:=hm1 (by omega)
  rw [Int.toNat_natCast]
  refine ⟨by unfold i64R;omega,by unfold i64R;omega,⟨by omega,by omega⟩,by unfold i64R;omega,hr,by unfold i64R;omega,fun h4=>⟨by unfold i64R;omega,⟨(m+1,b),by dsimp only;omega,hb,fun j hj=>?_,h2⟩,by dsimp only;omega,rfl,rfl,rfl,by push_cast;rfl,rfl⟩,fun h4=>⟨⟨(a,m),hm2,by dsimp only;omega,h1,fun j hj hjl=>?_⟩,by dsimp only;omega,rfl,rfl,rfl,rfl,rfl⟩⟩
  ·by_cases e:j=m
   ·subst e;omega
   ·have:=hc1.mono (i:=j) (j:=m) (by dsimp only at hj;omega) (by omega);omega
  ·dsimp only at hj
   by_cases e:j=m
   ·subst e;omega
   ·have:=hc1.mono (i:=m) (j:=j) (by omega) hjl;omega
 all_goals obtain rfl:a=b:=by omega
 ·exact fndI_at hb h1 h2
 ·by_cases h4:(s0.getD a (0,0)).1=r
  ·have:=(nxt_yes (n:=a) (by omega) h1 (decide_eq_true (by omega))).1
   rw [this];exact decide_eq_true (by omega)
  ·rw [decide_eq_false (by omega)]
   refine (nxt_not hc1 hb h1 fun j hj hjl=>?_).1.symm
   have h5:=h2 a (zJ _) (by omega)
   by_cases e:j=a
   ·subst e;omega
   ·have:=hc1.mono (i:=a) (j:=j) (by omega) hjl;omega
 ·exact fndI_at hb h1 h2
 ·exact (nxt_not hc1 hb h1 fun j hj hjl=>absurd hjl (by omega)).1.symm
def P289:(List ((List (Int×Int))×Bool×Int))×Int×List (Int)×Int×Int->List SV:=fun (d0,d1,d2,i,r)=>[.one (.vptr (.pair (.row (.pair (.row (.pair (.int .i32) (.int .i64))) (.pair .bool (.int .i64)))) (.pair (.int .i64) (.row (.int .i64)))) (d0,d1,d2) 0),.one (.int .i64 i),.one (.int .i32 r)]
def R289:(List ((List (Int×Int))×Bool×Int))×Int×List (Int)×Int×Int->SV×List Prop:=fun (d0,d1,d2,i,r)=>(.tup [.o (.int .i64 (if 0<=i/\i<d0.length then nxtV (stA d0 i.toNat).1 r else 0)),.o (.int .i64 (if 0<=i/\i<d0.length then (if nxtB (stA d0 i.toNat).1 r then 0 else 10) else 2))],[EdS d0,IR r])
def K289:Con:=⟨true,[some (.pair (.row (.pair (.row (.pair (.int .i32) (.int .i64))) (.pair .bool (.int .i64)))) (.pair (.int .i64) (.row (.int .i64)))),none,none],fun xs=>match xs with | [.one (.vptr (.pair (.row (.pair (.row (.pair (.int .i32) (.int .i64))) (.pair .bool (.int .i64)))) (.pair (.int .i64) (.row (.int .i64)))) (d0,d1,d2) 0),.one (.int .i64 i),.one (.int .i32 r)]=>some (R289 (d0,d1,d2,i,r)) | _=>none⟩
noncomputable def G289:GP:=conG P289 R289
theorem P289_inj:∀ a b,(P289 a).map den0=(P289 b).map den0->a=b:=by
 rintro ⟨a0,a1,a2,a3,a4⟩ ⟨b0,b1,b2,b3,b4⟩ h
 simp only [P289,zK,List.map_nil,den0,den0L,List.drop_zero,zG,AV.one.injEq,AV.agg.injEq,Lf.int.injEq,Lf.str.injEq,Lf.bool.injEq,Lf.vrow.injEq,Lf.vptr.injEq,and_true,true_and,and_assoc] at h
 obtain ⟨h0,h1,h2⟩:=h
 have h0:=Ty.enc_inj _ h0
 simp only [zF] at h0
 obtain ⟨rfl,rfl,rfl⟩:=h0
 subst h1
 subst h2
 rfl
theorem K289_ok:ConG G289 K289:=conG_of P289_inj (fun ⟨_,_,_,_,_⟩ ⟨_,_,_,_,_⟩=>rfl) (fun ⟨_,_,_,_,_⟩=>rfl) fun xs r h=>by
 simp only [K289] at h
 split at h
 ·cases h;rename_i d0 d1 d2 i r;exact ⟨(d0,d1,d2,i,r),rfl,rfl⟩
 ·cases h
theorem pr289 {S:SC} (hB:SB S) (q316:PrOk S 316 (pureP G316)) (h314:S.has 314 f314) (h289:S.has 289 f289):PrOk S 289 (pureP G289):=by
 refine prM hB [(314,f314)] [⟨316,G316,K316⟩] ⟨h314,trivial⟩ ⟨⟨q316,K316_ok⟩,trivial⟩ h289 (fun ⟨d0,d1,d2,i,r⟩=>⟨rfl,rfl,rfl⟩) (fun (d0,d1,d2,i,r)=>fun _ _ _ _=>none) 400 ?_
 rintro ⟨d0,d1,d2,i,r⟩ hc
 have hc1:EdS d0:=hc.1
 have hc2:IR r:=hc.2.1
 refine VC.use (p:=
  ((i < 0 →
    (((0:Int)=if 0<=i/\i<(d0.length:Int) then nxtV (stA d0 i.toNat).1 r else 0) /\
    ((2:Int)=if 0<=i/\i<(d0.length:Int) then if nxtB (stA d0 i.toNat).1 r=true then (0:Int) else (10:Int) else 2))) /\
  (¬i < 0 →
   (((↑d0.length:Int)≤i →
     (((0:Int)=if 0<=i/\i<(d0.length:Int) then nxtV (stA d0 i.toNat).1 r else 0) /\
     ((2:Int)=if 0<=i/\i<(d0.length:Int) then if nxtB (stA d0 i.toNat).1 r=true then (0:Int) else (10:Int) else 2))) /\
   (¬(↑d0.length : Int) ≤ i →
    ((0<=i/\i<(d0.length:Int)) /\
    ((EdR (d0.getD i.toNat ([],false,0)).1) /\
    ((IR r) /\
    (((!nxtB (d0.getD i.toNat ([],false,0)).1 r)=true →
      (((0:Int)=if 0<=i/\i<(d0.length:Int) then nxtV (stA d0 i.toNat).1 r else 0) /\
      ((10:Int)=if 0<=i/\i<(d0.length:Int) then if nxtB (stA d0 i.toNat).1 r=true then (0:Int) else (10:Int) else 2))) /\
    (¬(!nxtB (d0.getD i.toNat ([], false, 0)).1 r) = true →
     ((0<=fndI (d0.getD i.toNat ([],false,0)).1 r/\fndI (d0.getD i.toNat ([],false,0)).1 r<(↑(List.length (d0.getD i.toNat ([],false,0)).1):Int)) /\
     (((List.getD (d0.getD i.toNat ([],false,0)).1 (fndI (d0.getD i.toNat ([],false,0)).1 r).toNat (0,0)).2=if 0<=i/\i<(d0.length:Int) then nxtV (stA d0 i.toNat).1 r else 0) /\
     ((0:Int)=if 0<=i/\i<(d0.length:Int) then if nxtB (stA d0 i.toNat).1 r=true then (0:Int) else (10:Int) else 2))))))))))))) (by kernel_rfl) ?_
 refine ⟨fun h=>⟨by rw [if_neg (by omega)],by rw [if_neg (by omega)]⟩,fun h=>⟨fun h2=>⟨by rw [if_neg (by omega)],by rw [if_neg (by omega)]⟩,fun h2=>?_⟩⟩
 have hp:0<=i/\i<(d0.length:Int):=⟨by omega,by omega⟩
 have hE:=hc1.at i.toNat
 simp only [if_pos hp]
 unfold stA
 generalize (d0.getD i.toNat ([],false,0)).1=s at hE ⊢
 refine ⟨hp,hE,hc2,fun h3=>?_,fun h3=>?_⟩
 ·have h4:nxtB s r=false:=by simpa using h3
  exact ⟨(nxtV_no h4).symm,by rw [h4];rfl⟩
 ·have h4:nxtB s r=true:=by simpa using h3
  obtain ⟨g1,g2,_⟩:=nxt_at hE h4
  exact ⟨g1,g2,by rw [h4];rfl⟩
end Go.EA
