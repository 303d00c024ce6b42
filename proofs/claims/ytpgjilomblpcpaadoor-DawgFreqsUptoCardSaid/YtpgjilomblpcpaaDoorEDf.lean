/- Layer 10: what an automaton is asked. Conditions: none. -/
import Derived.Test.YtpgjilomblpcpaaDoorEK26
import Derived.Test.YtpgjilomblpcpaaDoorEK23
import Derived.KernelRfl
set_option linter.unusedVariables false
set_option linter.unusedSimpArgs false
set_option maxRecDepth 100000
set_option maxHeartbeats 0
namespace Go.EA
open F
def P281:(List ((List (Int×Int))×Bool×Int))×Int×List (Int)->List SV:=fun (d0,d1,d2)=>[.one (.vptr (.pair (.row (.pair (.row (.pair (.int .i32) (.int .i64))) (.pair .bool (.int .i64)))) (.pair (.int .i64) (.row (.int .i64)))) (d0,d1,d2) 0)]
def R281:(List ((List (Int×Int))×Bool×Int))×Int×List (Int)->SV×List Prop:=fun (d0,d1,d2)=>(.one (.int .i64 d0.length),[])
def K281:Con:=⟨true,[some (.pair (.row (.pair (.row (.pair (.int .i32) (.int .i64))) (.pair .bool (.int .i64)))) (.pair (.int .i64) (.row (.int .i64))))],fun xs=>match xs with | [.one (.vptr (.pair (.row (.pair (.row (.pair (.int .i32) (.int .i64))) (.pair .bool (.int .i64)))) (.pair (.int .i64) (.row (.int .i64)))) (d0,d1,d2) 0)]=>some (R281 (d0,d1,d2)) | _=>none⟩
noncomputable def G281:GP:=conG P281 R281
theorem P281_inj:∀ a b,(P281 a).map den0=(P281 b).map den0->a=b:=by
 rintro ⟨a0,a1,a2⟩ ⟨b0,b1,b2⟩ h
 simp only [P281,zK,List.map_nil,den0,den0L,List.drop_zero,zG,AV.one.injEq,AV.agg.injEq,Lf.int.injEq,Lf.str.injEq,Lf.bool.injEq,Lf.vrow.injEq,Lf.vptr.injEq,and_true,true_and,and_assoc] at h
 have h0:=h
 have h0:=Ty.enc_inj _ h0
 simp only [zF] at h0
 obtain ⟨rfl,rfl,rfl⟩:=h0
 rfl
theorem K281_ok:ConG G281 K281:=conG_of P281_inj (fun ⟨_,_,_⟩ ⟨_,_,_⟩=>rfl) (fun ⟨_,_,_⟩=>rfl) fun xs r h=>by
 simp only [K281] at h
 split at h
 ·cases h;rename_i d0 d1 d2;exact ⟨(d0,d1,d2),rfl,rfl⟩
 ·cases h
theorem pr281 {S:SC} (hB:SB S)  (h281:S.has 281 f281):PrOk S 281 (pureP G281):=by
 refine prM hB [] [] trivial trivial h281 (fun ⟨d0,d1,d2⟩=>⟨rfl,rfl,rfl⟩) (fun (d0,d1,d2)=>fun _ _ _ _=>none) 400 ?_
 rintro ⟨d0,d1,d2⟩ hc
 refine VC.use (p:=
  ((d0.length:Int)=(d0.length:Int))) (by kernel_rfl) ?_
 exact rfl
def P282:(List ((List (Int×Int))×Bool×Int))×Int×List (Int)->List SV:=fun (d0,d1,d2)=>[.one (.vptr (.pair (.row (.pair (.row (.pair (.int .i32) (.int .i64))) (.pair .bool (.int .i64)))) (.pair (.int .i64) (.row (.int .i64)))) (d0,d1,d2) 0)]
def R282:(List ((List (Int×Int))×Bool×Int))×Int×List (Int)->SV×List Prop:=fun (d0,d1,d2)=>(.one (.int .i64 d1),[])
def K282:Con:=⟨true,[some (.pair (.row (.pair (.row (.pair (.int .i32) (.int .i64))) (.pair .bool (.int .i64)))) (.pair (.int .i64) (.row (.int .i64))))],fun xs=>match xs with | [.one (.vptr (.pair (.row (.pair (.row (.pair (.int .i32) (.int .i64))) (.pair .bool (.int .i64)))) (.pair (.int .i64) (.row (.int .i64)))) (d0,d1,d2) 0)]=>some (R282 (d0,d1,d2)) | _=>none⟩
noncomputable def G282:GP:=conG P282 R282
theorem P282_inj:∀ a b,(P282 a).map den0=(P282 b).map den0->a=b:=by
 rintro ⟨a0,a1,a2⟩ ⟨b0,b1,b2⟩ h
 simp only [P282,zK,List.map_nil,den0,den0L,List.drop_zero,zG,AV.one.injEq,AV.agg.injEq,Lf.int.injEq,Lf.str.injEq,Lf.bool.injEq,Lf.vrow.injEq,Lf.vptr.injEq,and_true,true_and,and_assoc] at h
 have h0:=h
 have h0:=Ty.enc_inj _ h0
 simp only [zF] at h0
 obtain ⟨rfl,rfl,rfl⟩:=h0
 rfl
theorem K282_ok:ConG G282 K282:=conG_of P282_inj (fun ⟨_,_,_⟩ ⟨_,_,_⟩=>rfl) (fun ⟨_,_,_⟩=>rfl) fun xs r h=>by
 simp only [K282] at h
 split at h
 ·cases h;rename_i d0 d1 d2;exact ⟨(d0,d1,d2),rfl,rfl⟩
 ·cases h
theorem pr282 {S:SC} (hB:SB S)  (h282:S.has 282 f282):PrOk S 282 (pureP G282):=by
 refine prM hB [] [] trivial trivial h282 (fun ⟨d0,d1,d2⟩=>⟨rfl,rfl,rfl⟩) (fun (d0,d1,d2)=>fun _ _ _ _=>none) 400 ?_
 rintro ⟨d0,d1,d2⟩ hc
 refine VC.use (p:=
  ((d1,d2).1=d1)) (by kernel_rfl) ?_
 exact rfl
def P284:(List ((List (Int×Int))×Bool×Int))×Int×List (Int)->List SV:=fun (d0,d1,d2)=>[.one (.vptr (.pair (.row (.pair (.row (.pair (.int .i32) (.int .i64))) (.pair .bool (.int .i64)))) (.pair (.int .i64) (.row (.int .i64)))) (d0,d1,d2) 0)]
def R284:(List ((List (Int×Int))×Bool×Int))×Int×List (Int)->SV×List Prop:=fun (d0,d1,d2)=>(.one (.int .i64 d2.length),[])
def K284:Con:=⟨true,[some (.pair (.row (.pair (.row (.pair (.int .i32) (.int .i64))) (.pair .bool (.int .i64)))) (.pair (.int .i64) (.row (.int .i64))))],fun xs=>match xs with | [.one (.vptr (.pair (.row (.pair (.row (.pair (.int .i32) (.int .i64))) (.pair .bool (.int .i64)))) (.pair (.int .i64) (.row (.int .i64)))) (d0,d1,d2) 0)]=>some (R284 (d0,d1,d2)) | _=>none⟩
noncomputable def G284:GP:=conG P284 R284
theorem P284_inj:∀ a b,(P284 a).map den0=(P284 b).map den0->a=b:=by
 rintro ⟨a0,a1,a2⟩ ⟨b0,b1,b2⟩ h
 simp only [P284,zK,List.map_nil,den0,den0L,List.drop_zero,zG,AV.one.injEq,AV.agg.injEq,Lf.int.injEq,Lf.str.injEq,Lf.bool.injEq,Lf.vrow.injEq,Lf.vptr.injEq,and_true,true_and,and_assoc] at h
 have h0:=h
 have h0:=Ty.enc_inj _ h0
 simp only [zF] at h0
 obtain ⟨rfl,rfl,rfl⟩:=h0
 rfl
theorem K284_ok:ConG G284 K284:=conG_of P284_inj (fun ⟨_,_,_⟩ ⟨_,_,_⟩=>rfl) (fun ⟨_,_,_⟩=>rfl) fun xs r h=>by
 simp only [K284] at h
 split at h
 ·cases h;rename_i d0 d1 d2;exact ⟨(d0,d1,d2),rfl,rfl⟩
 ·cases h
theorem pr284 {S:SC} (hB:SB S)  (h284:S.has 284 f284):PrOk S 284 (pureP G284):=by
 refine prM hB [] [] trivial trivial h284 (fun ⟨d0,d1,d2⟩=>⟨rfl,rfl,rfl⟩) (fun (d0,d1,d2)=>fun _ _ _ _=>none) 400 ?_
 rintro ⟨d0,d1,d2⟩ hc
 refine VC.use (p:=
  ((↑(List.length (d1,d2).2):Int)=(d2.length:Int))) (by kernel_rfl) ?_
 exact rfl
def P285:(List ((List (Int×Int))×Bool×Int))×Int×List (Int)×Int->List SV:=fun (d0,d1,d2,i)=>[.one (.vptr (.pair (.row (.pair (.row (.pair (.int .i32) (.int .i64))) (.pair .bool (.int .i64)))) (.pair (.int .i64) (.row (.int .i64)))) (d0,d1,d2) 0),.one (.int .i64 i)]
def R285:(List ((List (Int×Int))×Bool×Int))×Int×List (Int)×Int->SV×List Prop:=fun (d0,d1,d2,i)=>(.tup [.o (.row (.pair (.int .i32) (.int .i64)) (if 0<=i/\i<d0.length then (stA d0 i.toNat).1 else [])),.o (.int .i64 (if 0<=i/\i<d0.length then 0 else 2))],[EdS d0])
def K285:Con:=⟨false,[some (.pair (.row (.pair (.row (.pair (.int .i32) (.int .i64))) (.pair .bool (.int .i64)))) (.pair (.int .i64) (.row (.int .i64)))),none],fun xs=>match xs with | [.one (.vptr (.pair (.row (.pair (.row (.pair (.int .i32) (.int .i64))) (.pair .bool (.int .i64)))) (.pair (.int .i64) (.row (.int .i64)))) (d0,d1,d2) 0),.one (.int .i64 i)]=>some (R285 (d0,d1,d2,i)) | _=>none⟩
noncomputable def G285:GP:=conG P285 R285
theorem P285_inj:∀ a b,(P285 a).map den0=(P285 b).map den0->a=b:=by
 rintro ⟨a0,a1,a2,a3⟩ ⟨b0,b1,b2,b3⟩ h
 simp only [P285,zK,List.map_nil,den0,den0L,List.drop_zero,zG,AV.one.injEq,AV.agg.injEq,Lf.int.injEq,Lf.str.injEq,Lf.bool.injEq,Lf.vrow.injEq,Lf.vptr.injEq,and_true,true_and,and_assoc] at h
 obtain ⟨h0,h1⟩:=h
 have h0:=Ty.enc_inj _ h0
 simp only [zF] at h0
 obtain ⟨rfl,rfl,rfl⟩:=h0
 subst h1
 rfl
theorem K285_ok:ConG G285 K285:=conG_of P285_inj (fun ⟨_,_,_,_⟩ ⟨_,_,_,_⟩=>rfl) (fun ⟨_,_,_,_⟩=>rfl) fun xs r h=>by
 simp only [K285] at h
 split at h
 ·cases h;rename_i d0 d1 d2 i;exact ⟨(d0,d1,d2,i),rfl,rfl⟩
 ·cases h
theorem pr285 {S:SC} (hB:SB S)  (h314:S.has 314 f314) (h315:S.has 315 f315) (h285:S.has 285 f285):PrOk S 285 (pureP G285):=by
 refine prI hB [(314,f314),(315,f315)] [] [] ⟨h314,h315,trivial⟩ trivial trivial h285 (fun ⟨d0,d1,d2,i⟩=>⟨rfl,rfl,rfl⟩) (fun (d0,d1,d2,i)=>fun _ _ _ _=>none) 400 ?_
 rintro ⟨d0,d1,d2,i⟩ hc
 have hc1:EdS d0:=hc.1
 refine VC.use (p:=
  ((i < 0 →
    (([]=if 0<=i/\i<(d0.length:Int) then (stA d0 i.toNat).1 else [])/\
    (2=if 0<=i/\i<(d0.length:Int) then (0:Int) else (2:Int))))/\
  (¬i < 0 →
   (((↑d0.length:Int)≤i →
     (([]=if 0<=i/\i<(d0.length:Int) then (stA d0 i.toNat).1 else [])/\
     (2=if 0<=i/\i<(d0.length:Int) then (0:Int) else (2:Int))))/\
   (¬(↑d0.length : Int) ≤ i →
    ((0<=i/\i<(d0.length:Int))/\
    (((d0.getD i.toNat ([],false,0)).fst=[] →
      (([]=if 0<=i/\i<(d0.length:Int) then (stA d0 i.toNat).1 else [])/\
      (0=if 0<=i/\i<(d0.length:Int) then (0:Int) else (2:Int))))/\
    (((0+List.length (d0.getD i.toNat ([],false,0)).1)*16<=140737488355328)/\
    (([]++(d0.getD i.toNat ([],false,0)).1=if 0<=i/\i<(d0.length:Int) then (stA d0 i.toNat).1 else [])/\
    (0=if 0<=i/\i<(d0.length:Int) then (0:Int) else (2:Int))))))))))) (by kernel_rfl) ?_
 refine ⟨fun h=>⟨by rw [if_neg (by omega)],by rw [if_neg (by omega)]⟩,fun h=>⟨fun h2=>⟨by rw [if_neg (by omega)],by rw [if_neg (by omega)]⟩,fun h2=>?_⟩⟩
 have h3:=(hc1.at i.toNat).2.2
 rw [if_pos ⟨by omega,by omega⟩,if_pos ⟨by omega,by omega⟩]
 exact ⟨⟨by omega,by omega⟩,fun h4=>⟨h4.symm,rfl⟩,by omega,rfl,rfl⟩
end Go.EA
