/- Layer 10: what an automaton is asked. Conditions: none. -/
import Derived.Test.YtpgjilomblpcpaaDoorEK26
import Derived.Test.YtpgjilomblpcpaaDoorEK23
import Derived.KernelRfl
set_option linter.unusedVariables false
set_option linter.unusedSimpArgs false
set_option maxRecDepth 100000
set_option maxHeartbeats 0
namespace Go.EA
open F
def Ol:(List ((List (Int×Int))×Bool×Int))×Int×List (Int)->List SV:=fun(d0,d1,d2)=>[.one (.vptr (.pair (.row (.pair (.row (.pair (.int .i32) (.int .i64))) (.pair .bool (.int .i64)))) (.pair (.int .i64) (.row (.int .i64)))) (d0,d1,d2) 0)]
def Wv:(List ((List (Int×Int))×Bool×Int))×Int×List (Int)->SV×List Prop:=fun(d0,d1,d2)=>(.one (.int .i64 d0.length),[])
def UI:Con:=⟨true,[some (.pair (.row (.pair (.row (.pair (.int .i32) (.int .i64))) (.pair .bool (.int .i64)))) (.pair (.int .i64) (.row (.int .i64))))],fun xs=>match xs with | [.one (.vptr (.pair (.row (.pair (.row (.pair (.int .i32) (.int .i64))) (.pair .bool (.int .i64)))) (.pair (.int .i64) (.row (.int .i64)))) (d0,d1,d2) 0)]=>some (Wv (d0,d1,d2)) | _=>none⟩
noncomputable def Jr:GP:=fH Ol Wv
theorem MH:∀a b,(Ol a).map aH=(Ol b).map aH->a=b:=by
 rintro⟨a0,a1,a2⟩ ⟨b0,b1,b2⟩ h;simp only[Ol,zK,List.map_nil,aH,bi,List.drop_zero,zG,AV.one.injEq,AV.agg.injEq,Lf.int.injEq,Lf.str.injEq,Lf.bool.injEq,Lf.vrow.injEq,Lf.vptr.injEq,and_true,true_and,and_assoc] at h;have h0:=h;have h0:=Ty.enc_inj _ h0;simp only[zF] at h0;obtain⟨rfl,rfl,rfl⟩:=h0
 rfl
theorem QE:gH Jr UI:=bP MH (fun⟨_,_,_⟩ ⟨_,_,_⟩=>rfl) (fun⟨_,_,_⟩=>rfl) fun xs r h=>by
 simp only[UI] at h;split at h
 .cases h;rename_i d0 d1 d2;exact⟨(d0,d1,d2),rfl,rfl⟩
 .cases h
theorem WT {S:SC}(hB:SB S)  (h281:S.has 281 f281):aX S 281 (aI Jr):=by
 refine prM hB [] [] trivial trivial h281 (fun⟨d0,d1,d2⟩=>⟨rfl,rfl,rfl⟩) (fun(d0,d1,d2)=>fun _ _ _ _=>none) 400 ?_;rintro⟨d0,d1,d2⟩ hc;refine VC.use (p:=
  ((d0.length:Int)=(d0.length:Int))) (by kernel_rfl) ?_
 exact rfl
def Pd:(List ((List (Int×Int))×Bool×Int))×Int×List (Int)->List SV:=fun(d0,d1,d2)=>[.one (.vptr (.pair (.row (.pair (.row (.pair (.int .i32) (.int .i64))) (.pair .bool (.int .i64)))) (.pair (.int .i64) (.row (.int .i64)))) (d0,d1,d2) 0)]
def VV:(List ((List (Int×Int))×Bool×Int))×Int×List (Int)->SV×List Prop:=fun(d0,d1,d2)=>(.one (.int .i64 d1),[])
def UM:Con:=⟨true,[some (.pair (.row (.pair (.row (.pair (.int .i32) (.int .i64))) (.pair .bool (.int .i64)))) (.pair (.int .i64) (.row (.int .i64))))],fun xs=>match xs with | [.one (.vptr (.pair (.row (.pair (.row (.pair (.int .i32) (.int .i64))) (.pair .bool (.int .i64)))) (.pair (.int .i64) (.row (.int .i64)))) (d0,d1,d2) 0)]=>some (VV (d0,d1,d2)) | _=>none⟩
noncomputable def Je:GP:=fH Pd VV
theorem Kj:∀a b,(Pd a).map aH=(Pd b).map aH->a=b:=by
 rintro⟨a0,a1,a2⟩ ⟨b0,b1,b2⟩ h;simp only[Pd,zK,List.map_nil,aH,bi,List.drop_zero,zG,AV.one.injEq,AV.agg.injEq,Lf.int.injEq,Lf.str.injEq,Lf.bool.injEq,Lf.vrow.injEq,Lf.vptr.injEq,and_true,true_and,and_assoc] at h;have h0:=h;have h0:=Ty.enc_inj _ h0;simp only[zF] at h0;obtain⟨rfl,rfl,rfl⟩:=h0
 rfl
theorem PR:gH Je UM:=bP Kj (fun⟨_,_,_⟩ ⟨_,_,_⟩=>rfl) (fun⟨_,_,_⟩=>rfl) fun xs r h=>by
 simp only[UM] at h;split at h
 .cases h;rename_i d0 d1 d2;exact⟨(d0,d1,d2),rfl,rfl⟩
 .cases h
theorem VL {S:SC}(hB:SB S)  (h282:S.has 282 f282):aX S 282 (aI Je):=by
 refine prM hB [] [] trivial trivial h282 (fun⟨d0,d1,d2⟩=>⟨rfl,rfl,rfl⟩) (fun(d0,d1,d2)=>fun _ _ _ _=>none) 400 ?_;rintro⟨d0,d1,d2⟩ hc;refine VC.use (p:=
  ((d1,d2).1=d1)) (by kernel_rfl) ?_
 exact rfl
def OC:(List ((List (Int×Int))×Bool×Int))×Int×List (Int)->List SV:=fun(d0,d1,d2)=>[.one (.vptr (.pair (.row (.pair (.row (.pair (.int .i32) (.int .i64))) (.pair .bool (.int .i64)))) (.pair (.int .i64) (.row (.int .i64)))) (d0,d1,d2) 0)]
def VN:(List ((List (Int×Int))×Bool×Int))×Int×List (Int)->SV×List Prop:=fun(d0,d1,d2)=>(.one (.int .i64 d2.length),[])
def UE:Con:=⟨true,[some (.pair (.row (.pair (.row (.pair (.int .i32) (.int .i64))) (.pair .bool (.int .i64)))) (.pair (.int .i64) (.row (.int .i64))))],fun xs=>match xs with | [.one (.vptr (.pair (.row (.pair (.row (.pair (.int .i32) (.int .i64))) (.pair .bool (.int .i64)))) (.pair (.int .i64) (.row (.int .i64)))) (d0,d1,d2) 0)]=>some (VN (d0,d1,d2)) | _=>none⟩
noncomputable def LG:GP:=fH OC VN
theorem IK:∀a b,(OC a).map aH=(OC b).map aH->a=b:=by
 rintro⟨a0,a1,a2⟩ ⟨b0,b1,b2⟩ h;simp only[OC,zK,List.map_nil,aH,bi,List.drop_zero,zG,AV.one.injEq,AV.agg.injEq,Lf.int.injEq,Lf.str.injEq,Lf.bool.injEq,Lf.vrow.injEq,Lf.vptr.injEq,and_true,true_and,and_assoc] at h;have h0:=h;have h0:=Ty.enc_inj _ h0;simp only[zF] at h0;obtain⟨rfl,rfl,rfl⟩:=h0
 rfl
theorem OU:gH LG UE:=bP IK (fun⟨_,_,_⟩ ⟨_,_,_⟩=>rfl) (fun⟨_,_,_⟩=>rfl) fun xs r h=>by
 simp only[UE] at h;split at h
 .cases h;rename_i d0 d1 d2;exact⟨(d0,d1,d2),rfl,rfl⟩
 .cases h
theorem Vt {S:SC}(hB:SB S)  (h284:S.has 284 f284):aX S 284 (aI LG):=by
 refine prM hB [] [] trivial trivial h284 (fun⟨d0,d1,d2⟩=>⟨rfl,rfl,rfl⟩) (fun(d0,d1,d2)=>fun _ _ _ _=>none) 400 ?_;rintro⟨d0,d1,d2⟩ hc;refine VC.use (p:=
  ((↑(List.length (d1,d2).2):Int)=(d2.length:Int))) (by kernel_rfl) ?_
 exact rfl
def NY:(List (Int×Int))×Bool×Int×Int->List SV:=fun(s0,s1,s2,r)=>[.one (.vptr (.pair (.row (.pair (.int .i32) (.int .i64))) (.pair .bool (.int .i64))) (s0,s1,s2) 0),.one (.int .i32 r)]
def Xg:(List (Int×Int))×Bool×Int×Int->SV×List Prop:=fun(s0,s1,s2,r)=>(.tup [.o (.int .i64 (gZ s0 r)),.o (.bool (iT s0 r))],[EdR s0,IR r])
def Ux:Con:=⟨true,[some (.pair (.row (.pair (.int .i32) (.int .i64))) (.pair .bool (.int .i64))),none],fun xs=>match xs with | [.one (.vptr (.pair (.row (.pair (.int .i32) (.int .i64))) (.pair .bool (.int .i64))) (s0,s1,s2) 0),.one (.int .i32 r)]=>some (Xg (s0,s1,s2,r)) | _=>none⟩
noncomputable def NB:GP:=fH NY Xg
theorem Lu:∀a b,(NY a).map aH=(NY b).map aH->a=b:=by
 rintro⟨a0,a1,a2,a3⟩ ⟨b0,b1,b2,b3⟩ h;simp only[NY,zK,List.map_nil,aH,bi,List.drop_zero,zG,AV.one.injEq,AV.agg.injEq,Lf.int.injEq,Lf.str.injEq,Lf.bool.injEq,Lf.vrow.injEq,Lf.vptr.injEq,and_true,true_and,and_assoc] at h;obtain⟨h0,h1⟩:=h;have h0:=Ty.enc_inj _ h0;simp only[zF] at h0;obtain⟨rfl,rfl,rfl⟩:=h0;subst h1
 rfl
theorem NL:gH NB Ux:=bP Lu (fun⟨_,_,_,_⟩ ⟨_,_,_,_⟩=>rfl) (fun⟨_,_,_,_⟩=>rfl) fun xs r h=>by
 simp only[Ux] at h;split at h
 .cases h;rename_i s0 s1 s2 r;exact⟨(s0,s1,s2,r),rfl,rfl⟩
 .cases h
theorem VK {S:SC}(hB:SB S)  (h334:S.has 334 f334) (h335:S.has 335 f335) (h316:S.has 316 f316):aX S 316 (aI NB):=by
 refine prM hB [(334,f334),(335,f335)] [] ⟨h334,h335,trivial⟩ trivial h316 (fun⟨s0,s1,s2,r⟩=>⟨rfl,rfl,rfl⟩) (fun(s0,s1,s2,r)=>fun f id T L=>match f,id with
  |334,0=>some (.inv { p:Nat×Nat // p.1<=p.2/\p.2<=s0.length/\(∀j,j<p.1->(s0.getD j (0,0)).1<r)/\(∀j,p.2<=j->j<s0.length->r<=(s0.getD j (0,0)).1) } (fun x=>([(9,.one (.int .i64 x.1.1)),(10,.one (.int .i64 x.1.2))],[])) (fun x=>x.1.2-x.1.1))
  |_,_=>none) 1000 ?_
 rintro⟨s0,s1,s2,r⟩ hc;have hc1:EdR s0:=hc.1;have hc2:IR r:=hc.2.1;refine VC.use (p:=
  ((∃ x1:{ p:Nat×Nat // p.fst≤p.snd∧p.snd≤s0.length∧(∀ (j:Nat),j < p.fst→(s0.getD j (0,0)).fst < r)∧∀ (j:Nat),p.snd≤j→j < s0.length→r≤(s0.getD j (0,0)).fst },
    ((s0=s0)/\
    ((r=r)/\
    (((s0.length:Int)=(s0.length:Int))/\
    ((0=(x1.1.1:Int))/\
    ((s0.length:Int)=(x1.1.2:Int)))))))/\
  (∀ x1 : { p : Nat × Nat // p.fst ≤ p.snd ∧ p.snd ≤ s0.length ∧ (∀ (j : Nat), j < p.fst → (s0.getD j (0, 0)).fst < r) ∧ ∀ (j : Nat), p.snd ≤ j → j < s0.length → r ≤ (s0.getD j (0, 0)).fst },
   (((↑x1.val.fst:Int) < (↑x1.val.snd:Int) →
     ((ak ((x1.1.1:Int)+(x1.1.2:Int)))/\
     ((ak ((IntKind.u64.wrap ((x1.1.1:Int)+(x1.1.2:Int))).fdiv 2))/\
     ((0<=(IntKind.u64.wrap ((x1.1.1:Int)+(x1.1.2:Int))).fdiv 2/\(IntKind.u64.wrap ((x1.1.1:Int)+(x1.1.2:Int))).fdiv 2<(s0.length:Int))/\
     ((ak (s0.getD ((IntKind.u64.wrap ((x1.1.1:Int)+(x1.1.2:Int))).fdiv 2).toNat (0,0)).1)/\
     ((ak r)/\
     ((ak ((s0.getD ((IntKind.u64.wrap ((x1.1.1:Int)+(x1.1.2:Int))).fdiv 2).toNat (0,0)).1-r))/\
     (((s0.getD ((IntKind.u64.wrap ((↑x1.val.fst:Int)+(↑x1.val.snd:Int))).fdiv 2).toNat (0,0)).fst - r < 0 →
       ((ak ((IntKind.u64.wrap ((x1.1.1:Int)+(x1.1.2:Int))).fdiv 2+1))/\
       (∃ x2 : { p : Nat × Nat // p.fst ≤ p.snd ∧ p.snd ≤ s0.length ∧ (∀ (j : Nat), j < p.fst → (s0.getD j (0, 0)).fst < r) ∧ ∀ (j : Nat), p.snd ≤ j → j < s0.length → r ≤ (s0.getD j (0, 0)).fst },
        ((x2.1.2-x2.1.1<x1.1.2-x1.1.1)/\
        ((s0=s0)/\
        ((r=r)/\
        (((s0.length:Int)=(s0.length:Int))/\
        (((IntKind.u64.wrap ((x1.1.1:Int)+(x1.1.2:Int))).fdiv 2+1=(x2.1.1:Int))/\
        ((x1.1.2:Int)=(x2.1.2:Int))))))))))/\
     (¬(s0.getD ((IntKind.u64.wrap ((↑x1.val.fst : Int) + (↑x1.val.snd : Int))).fdiv 2).toNat (0, 0)).fst - r < 0 →
      (∃ x2 : { p : Nat × Nat // p.fst ≤ p.snd ∧ p.snd ≤ s0.length ∧ (∀ (j : Nat), j < p.fst → (s0.getD j (0, 0)).fst < r) ∧ ∀ (j : Nat), p.snd ≤ j → j < s0.length → r ≤ (s0.getD j (0, 0)).fst },
       ((x2.1.2-x2.1.1<x1.1.2-x1.1.1)/\
       ((s0=s0)/\
       ((r=r)/\
       (((s0.length:Int)=(s0.length:Int))/\
       (((x1.1.1:Int)=(x2.1.1:Int))/\
       ((IntKind.u64.wrap ((x1.1.1:Int)+(x1.1.2:Int))).fdiv 2=(x2.1.2:Int)))))))))))))))))/\
   (¬(↑x1.val.fst : Int) < (↑x1.val.snd : Int) →
    (((↑x1.val.fst:Int) < (↑s0.length:Int) →
      ((0<=(x1.1.1:Int)/\(x1.1.1:Int)<(s0.length:Int))/\
      ((ak (s0.getD x1.1.1 (0,0)).1)/\
      ((ak r)/\
      ((ak ((s0.getD x1.1.1 (0,0)).1-r))/\
      (((x1.1.1:Int)=gZ s0 r)/\
      (decide ((s0.getD x1.1.1 (0,0)).1-r=0)=iT s0 r)))))))/\
    (¬(↑x1.val.fst : Int) < (↑s0.length : Int) →
     (((x1.1.1:Int)=gZ s0 r)/\
     (false=iT s0 r))))))))) (by kernel_rfl) ?_
 have hl:=hc1.2.2;have hr:ak r:=by have:=hc2;unfold IR at this;unfold ak;omega
 refine⟨⟨⟨(0,s0.length),Nat.zero_le _,zJ _,fun j h=>absurd h (zS _),fun j h h'=>absurd h' (by omega)⟩,rfl,rfl,rfl,rfl,rfl⟩,?_⟩;rintro⟨⟨a,b⟩,hab,hb,h1,h2⟩;dsimp only at hab hb h1 h2 ⊢;rw[lW a b (by omega)];have hm1:a<b->(a+b) / 2<b:=fun h=>by omega
 have hm2:a<=(a+b) / 2:=by omega
 generalize (a+b) / 2=m at hm1 hm2 ⊢;have hi:=hc1.ir m;have hia:=hc1.ir a;have hr2:=hc2;unfold IR at hi hia hr2;refine⟨fun h=>?_,fun h=>⟨fun h3=>⟨⟨by omega,h3⟩,by unfold ak;omega,hr,by unfold ak;omega,?_,?_⟩,fun h3=>⟨?_,?_⟩⟩⟩
 .have hm1:=hm1 (by omega);rw[Int.toNat_natCast];refine⟨by unfold ak;omega,by unfold ak;omega,⟨by omega,by omega⟩,by unfold ak;omega,hr,by unfold ak;omega,fun h4=>⟨by unfold ak;omega,⟨(m+1,b),by dsimp only;omega,hb,fun j hj=>?_,h2⟩,by dsimp only;omega,rfl,rfl,rfl,by push_cast;rfl,rfl⟩,fun h4=>⟨⟨(a,m),hm2,by dsimp only;omega,h1,fun j hj hjl=>?_⟩,by dsimp only;omega,rfl,rfl,rfl,rfl,rfl⟩⟩
  .by_cases e:j=m
   .subst e;omega
   .have:=hc1.mono (i:=j) (j:=m) (by dsimp only at hj;omega) (by omega);omega
  .dsimp only at hj;by_cases e:j=m
   .subst e;omega
   .have:=hc1.mono (i:=m) (j:=j) (by omega) hjl;omega
 all_goals obtain rfl:a=b:=by omega
 .exact nY hb h1 h2
 .by_cases h4:(s0.getD a (0,0)).1=r
  .have:=(OJ (n:=a) (by omega) h1 (decide_eq_true (by omega))).1;rw[this];exact decide_eq_true (by omega)
  .rw[decide_eq_false (by omega)];refine(FL hc1 hb h1 fun j hj hjl=>?_).1.symm;have h5:=h2 a (zJ _) (by omega);by_cases e:j=a
   .subst e;omega
   .have:=hc1.mono (i:=a) (j:=j) (by omega) hjl;omega
 .exact nY hb h1 h2
 .exact(FL hc1 hb h1 fun j hj hjl=>absurd hjl (by omega)).1.symm
end Go.EA
