/- Layer 10: what an automaton is asked. Conditions: none. -/
import Derived.Test.YtgkhohpekfjlmaaDoorEK26
import Derived.Test.YtgkhohpekfjlmaaDoorEK23
import Derived.KernelRfl
set_option linter.unusedVariables false
set_option linter.unusedSimpArgs false
set_option maxRecDepth 100000
set_option maxHeartbeats 0
namespace Go.EA
open F
def QW:(List ((List (Int×Int))×Bool×Int))×Int×List (Int)->List SV:=fun(d0,d1,d2)=>[.one (.vptr (.pair (.row (.pair (.row (.pair (.int .i32) (.int .i64))) (.pair .bool (.int .i64)))) (.pair (.int .i64) (.row (.int .i64)))) (d0,d1,d2) 0)]
def aaF:(List ((List (Int×Int))×Bool×Int))×Int×List (Int)->SV×List Prop:=fun(d0,d1,d2)=>(.one (.int .i64 d2.length),[])
def VV:Con:=⟨true,[some (.pair (.row (.pair (.row (.pair (.int .i32) (.int .i64))) (.pair .bool (.int .i64)))) (.pair (.int .i64) (.row (.int .i64))))],fun xs=>match xs with | [.one (.vptr (.pair (.row (.pair (.row (.pair (.int .i32) (.int .i64))) (.pair .bool (.int .i64)))) (.pair (.int .i64) (.row (.int .i64)))) (d0,d1,d2) 0)]=>some (aaF (d0,d1,d2)) | _=>none⟩
noncomputable def PE:GP:=bZ QW aaF
theorem NF:∀a b,(QW a).map aB=(QW b).map aB->a=b:=by
 rintro⟨a0,a1,a2⟩ ⟨b0,b1,b2⟩ h;simp only[QW,zK,List.map_nil,aB,aS,List.drop_zero,zG,AV.one.injEq,AV.agg.injEq,Lf.int.injEq,Lf.str.injEq,Lf.bool.injEq,Lf.vrow.injEq,Lf.vptr.injEq,and_true,true_and,and_assoc] at h;have h0:=h;have h0:=Ty.enc_inj _ h0;simp only[zF] at h0;obtain⟨rfl,rfl,rfl⟩:=h0
 rfl
theorem Qu:df PE VV:=aR NF (fun⟨_,_,_⟩ ⟨_,_,_⟩=>rfl) (fun⟨_,_,_⟩=>rfl) fun xs r h=>by
 simp only[VV] at h;split at h
 .cases h;rename_i d0 d1 d2;exact⟨(d0,d1,d2),rfl,rfl⟩
 .cases h
theorem Zm {S:SC}(hB:SB S)  (h284:S.has 284 f284):aG S 284 (az PE):=by
 refine prM hB [] [] trivial trivial h284 (fun⟨d0,d1,d2⟩=>⟨rfl,rfl,rfl⟩) (fun(d0,d1,d2)=>fun _ _ _ _=>none) 400 ?_;rintro⟨d0,d1,d2⟩ hc;refine VC.use (p:=(↑(List.length (d1,d2).2):Int)=(d2.length:Int)) (by kernel_rfl) ?_;exact rfl
def RF:(List ((List (Int×Int))×Bool×Int))×Int×List (Int)×Int->List SV:=fun(d0,d1,d2,i)=>[.one (.vptr (.pair (.row (.pair (.row (.pair (.int .i32) (.int .i64))) (.pair .bool (.int .i64)))) (.pair (.int .i64) (.row (.int .i64)))) (d0,d1,d2) 0),.one (.int .i64 i)]
def Zp:(List ((List (Int×Int))×Bool×Int))×Int×List (Int)×Int->SV×List Prop:=fun(d0,d1,d2,i)=>(.tup [.o (.bool (decide (0<=i/\i<d0.length)&&(stA d0 i.toNat).2.1)),.o (.int .i64 (if 0<=i/\i<d0.length then 0 else 2))],[])
def VO:Con:=⟨true,[some (.pair (.row (.pair (.row (.pair (.int .i32) (.int .i64))) (.pair .bool (.int .i64)))) (.pair (.int .i64) (.row (.int .i64)))),none],fun xs=>match xs with | [.one (.vptr (.pair (.row (.pair (.row (.pair (.int .i32) (.int .i64))) (.pair .bool (.int .i64)))) (.pair (.int .i64) (.row (.int .i64)))) (d0,d1,d2) 0),.one (.int .i64 i)]=>some (Zp (d0,d1,d2,i)) | _=>none⟩
noncomputable def Nn:GP:=bZ RF Zp
theorem Od:∀a b,(RF a).map aB=(RF b).map aB->a=b:=by
 rintro⟨a0,a1,a2,a3⟩ ⟨b0,b1,b2,b3⟩ h;simp only[RF,zK,List.map_nil,aB,aS,List.drop_zero,zG,AV.one.injEq,AV.agg.injEq,Lf.int.injEq,Lf.str.injEq,Lf.bool.injEq,Lf.vrow.injEq,Lf.vptr.injEq,and_true,true_and,and_assoc] at h;obtain⟨h0,h1⟩:=h;have h0:=Ty.enc_inj _ h0;simp only[zF] at h0;obtain⟨rfl,rfl,rfl⟩:=h0;subst h1
 rfl
theorem Ri:df Nn VO:=aR Od (fun⟨_,_,_,_⟩ ⟨_,_,_,_⟩=>rfl) (fun⟨_,_,_,_⟩=>rfl) fun xs r h=>by
 simp only[VO] at h;split at h
 .cases h;rename_i d0 d1 d2 i;exact⟨(d0,d1,d2,i),rfl,rfl⟩
 .cases h
theorem ZL {S:SC}(hB:SB S)  (h314:S.has 314 f314) (h286:S.has 286 f286):aG S 286 (az Nn):=by
 refine prM hB [(314,f314)] [] ⟨h314,trivial⟩ trivial h286 (fun⟨d0,d1,d2,i⟩=>⟨rfl,rfl,rfl⟩) (fun(d0,d1,d2,i)=>fun _ _ _ _=>none) 400 ?_;rintro⟨d0,d1,d2,i⟩ hc;refine VC.use (p:=(i<0->false=(decide (0<=i/\i<(d0.length:Int))&&(stA d0 i.toNat).2.1)/\(2=if 0<=i/\i<(d0.length:Int) then (0:Int) else (2:Int)))/\(¬i<0->((d0.length:Int)<=i->false=(decide (0<=i/\i<(d0.length:Int))&&(stA d0 i.toNat).2.1)/\(2=if 0<=i/\i<(d0.length:Int) then (0:Int) else (2:Int)))/\(¬(d0.length:Int)<=i->(0<=i/\i<(d0.length:Int))/\(d0.getD i.toNat ([],false,0)).2.1=(decide (0<=i/\i<(d0.length:Int))&&(stA d0 i.toNat).2.1)/\(0=if 0<=i/\i<(d0.length:Int) then (0:Int) else (2:Int))))) (by kernel_rfl) ?_;refine⟨fun h=>⟨by rw[decide_eq_false (by omega)];rfl,by rw[if_neg (by omega)]⟩,fun h=>⟨fun h2=>⟨by rw[decide_eq_false (by omega)];rfl,by rw[if_neg (by omega)]⟩,fun h2=>⟨⟨by omega,by omega⟩,by rw[decide_eq_true ⟨by omega,by omega⟩];rfl,by rw[if_pos ⟨by omega,by omega⟩]⟩⟩⟩
def Qf:(List (Int×Int))×Bool×Int×Int->List SV:=fun(s0,s1,s2,r)=>[.one (.vptr (.pair (.row (.pair (.int .i32) (.int .i64))) (.pair .bool (.int .i64))) (s0,s1,s2) 0),.one (.int .i32 r)]
def aaK:(List (Int×Int))×Bool×Int×Int->SV×List Prop:=fun(s0,s1,s2,r)=>(.tup [.o (.int .i64 (nV s0 r)),.o (.bool (dD s0 r))],[EdR s0,IR r])
def Xy:Con:=⟨true,[some (.pair (.row (.pair (.int .i32) (.int .i64))) (.pair .bool (.int .i64))),none],fun xs=>match xs with | [.one (.vptr (.pair (.row (.pair (.int .i32) (.int .i64))) (.pair .bool (.int .i64))) (s0,s1,s2) 0),.one (.int .i32 r)]=>some (aaK (s0,s1,s2,r)) | _=>none⟩
noncomputable def PL:GP:=bZ Qf aaK
theorem KE:∀a b,(Qf a).map aB=(Qf b).map aB->a=b:=by
 rintro⟨a0,a1,a2,a3⟩ ⟨b0,b1,b2,b3⟩ h;simp only[Qf,zK,List.map_nil,aB,aS,List.drop_zero,zG,AV.one.injEq,AV.agg.injEq,Lf.int.injEq,Lf.str.injEq,Lf.bool.injEq,Lf.vrow.injEq,Lf.vptr.injEq,and_true,true_and,and_assoc] at h;obtain⟨h0,h1⟩:=h;have h0:=Ty.enc_inj _ h0;simp only[zF] at h0;obtain⟨rfl,rfl,rfl⟩:=h0;subst h1
 rfl
theorem Re:df PL Xy:=aR KE (fun⟨_,_,_,_⟩ ⟨_,_,_,_⟩=>rfl) (fun⟨_,_,_,_⟩=>rfl) fun xs r h=>by
 simp only[Xy] at h;split at h
 .cases h;rename_i s0 s1 s2 r;exact⟨(s0,s1,s2,r),rfl,rfl⟩
 .cases h
theorem aaj {S:SC}(hB:SB S)  (h334:S.has 334 f334) (h335:S.has 335 f335) (h316:S.has 316 f316):aG S 316 (az PL):=by
 refine prM hB [(334,f334),(335,f335)] [] ⟨h334,h335,trivial⟩ trivial h316 (fun⟨s0,s1,s2,r⟩=>⟨rfl,rfl,rfl⟩) (fun(s0,s1,s2,r)=>fun f id T L=>match f,id with
  |334,0=>some (.inv { p:Nat×Nat // p.1<=p.2/\p.2<=s0.length/\(∀j,j<p.1->(s0.getD j (0,0)).1<r)/\(∀j,p.2<=j->j<s0.length->r<=(s0.getD j (0,0)).1) } (fun x=>([(9,.one (.int .i64 x.1.1)),(10,.one (.int .i64 x.1.2))],[])) (fun x=>x.1.2-x.1.1))
  |_,_=>none) 1000 ?_
 rintro⟨s0,s1,s2,r⟩ hc;have hc1:EdR s0:=hc.1;have hc2:IR r:=hc.2.1;refine VC.use (p:=(∃x1:{ p:Nat×Nat // p.1<=p.2/\p.2<=s0.length/\(∀(j:Nat),j<p.1->(s0.getD j (0,0)).1<r)/\∀(j:Nat),p.2<=j->j<s0.length->r<=(s0.getD j (0,0)).1 },s0=s0/\r=r/\(s0.length:Int)=(s0.length:Int)/\0=(x1.1.1:Int)/\(s0.length:Int)=(x1.1.2:Int))/\(∀x1:{ p:Nat×Nat // p.1<=p.2/\p.2<=s0.length/\(∀(j:Nat),j<p.1->(s0.getD j (0,0)).1<r)/\∀(j:Nat),p.2<=j->j<s0.length->r<=(s0.getD j (0,0)).1 },((x1.1.1:Int)<(x1.1.2:Int)->aA ((x1.1.1:Int)+(x1.1.2:Int))/\aA ((IntKind.u64.wrap ((x1.1.1:Int)+(x1.1.2:Int))).fdiv 2)/\(0<=(IntKind.u64.wrap ((x1.1.1:Int)+(x1.1.2:Int))).fdiv 2/\(IntKind.u64.wrap ((x1.1.1:Int)+(x1.1.2:Int))).fdiv 2<(s0.length:Int))/\aA (s0.getD ((IntKind.u64.wrap ((x1.1.1:Int)+(x1.1.2:Int))).fdiv 2).toNat (0,0)).1/\aA r/\aA ((s0.getD ((IntKind.u64.wrap ((x1.1.1:Int)+(x1.1.2:Int))).fdiv 2).toNat (0,0)).1-r)/\((s0.getD ((IntKind.u64.wrap ((x1.1.1:Int)+(x1.1.2:Int))).fdiv 2).toNat (0,0)).1-r<0->aA ((IntKind.u64.wrap ((x1.1.1:Int)+(x1.1.2:Int))).fdiv 2+1)/\(∃x2:{ p:Nat×Nat // p.1<=p.2/\p.2<=s0.length/\(∀(j:Nat),j<p.1->(s0.getD j (0,0)).1<r)/\∀(j:Nat),p.2<=j->j<s0.length->r<=(s0.getD j (0,0)).1 },x2.1.2-x2.1.1<x1.1.2-x1.1.1/\s0=s0/\r=r/\(s0.length:Int)=(s0.length:Int)/\(IntKind.u64.wrap ((x1.1.1:Int)+(x1.1.2:Int))).fdiv 2+1=(x2.1.1:Int)/\(x1.1.2:Int)=(x2.1.2:Int)))/\(¬(s0.getD ((IntKind.u64.wrap ((x1.1.1:Int)+(x1.1.2:Int))).fdiv 2).toNat (0,0)).1-r<0->∃x2:{ p:Nat×Nat // p.1<=p.2/\p.2<=s0.length/\(∀(j:Nat),j<p.1->(s0.getD j (0,0)).1<r)/\∀(j:Nat),p.2<=j->j<s0.length->r<=(s0.getD j (0,0)).1 },x2.1.2-x2.1.1<x1.1.2-x1.1.1/\s0=s0/\r=r/\(s0.length:Int)=(s0.length:Int)/\(x1.1.1:Int)=(x2.1.1:Int)/\(IntKind.u64.wrap ((x1.1.1:Int)+(x1.1.2:Int))).fdiv 2=(x2.1.2:Int)))/\(¬(x1.1.1:Int)<(x1.1.2:Int)->((x1.1.1:Int)<(s0.length:Int)->(0<=(x1.1.1:Int)/\(x1.1.1:Int)<(s0.length:Int))/\aA (s0.getD x1.1.1 (0,0)).1/\aA r/\aA ((s0.getD x1.1.1 (0,0)).1-r)/\(x1.1.1:Int)=nV s0 r/\decide ((s0.getD x1.1.1 (0,0)).1-r=0)=dD s0 r)/\(¬(x1.1.1:Int)<(s0.length:Int)->(x1.1.1:Int)=nV s0 r/\false=dD s0 r)))) (by kernel_rfl) ?_;have hl:=hc1.2.2;have hr:aA r:=by have:=hc2;unfold IR at this;unfold aA;omega
 refine⟨⟨⟨(0,s0.length),Nat.zero_le _,zJ _,fun j h=>absurd h (zS _),fun j h h'=>absurd h' (by omega)⟩,rfl,rfl,rfl,rfl,rfl⟩,?_⟩;rintro⟨⟨a,b⟩,hab,hb,h1,h2⟩;dsimp only at hab hb h1 h2 ⊢;rw[uk a b (by omega)];have hm1:a<b->(a+b) / 2<b:=fun h=>by omega
 have hm2:a<=(a+b) / 2:=by omega
 generalize (a+b) / 2=m at hm1 hm2 ⊢;have hi:=hc1.ir m;have hia:=hc1.ir a;have hr2:=hc2;unfold IR at hi hia hr2;refine⟨fun h=>?_,fun h=>⟨fun h3=>⟨⟨by omega,h3⟩,by unfold aA;omega,hr,by unfold aA;omega,?_,?_⟩,fun h3=>⟨?_,?_⟩⟩⟩
 .have hm1:=hm1 (by omega);rw[Int.toNat_natCast];refine⟨by unfold aA;omega,by unfold aA;omega,⟨by omega,by omega⟩,by unfold aA;omega,hr,by unfold aA;omega,fun h4=>⟨by unfold aA;omega,⟨(m+1,b),by dsimp only;omega,hb,fun j hj=>?_,h2⟩,by dsimp only;omega,rfl,rfl,rfl,by push_cast;rfl,rfl⟩,fun h4=>⟨⟨(a,m),hm2,by dsimp only;omega,h1,fun j hj hjl=>?_⟩,by dsimp only;omega,rfl,rfl,rfl,rfl,rfl⟩⟩
  .by_cases e:j=m
   .subst e;omega
   .have:=hc1.mono (i:=j) (j:=m) (by dsimp only at hj;omega) (by omega);omega
  .dsimp only at hj;by_cases e:j=m
   .subst e;omega
   .have:=hc1.mono (i:=m) (j:=j) (by omega) hjl;omega
 all_goals obtain rfl:a=b:=by omega
 .exact oz hb h1 h2
 .by_cases h4:(s0.getD a (0,0)).1=r
  .have:=(TF (n:=a) (by omega) h1 (decide_eq_true (by omega))).1;rw[this];exact decide_eq_true (by omega)
  .rw[decide_eq_false (by omega)];refine(GQ hc1 hb h1 fun j hj hjl=>?_).1.symm;have h5:=h2 a (zJ _) (by omega);by_cases e:j=a
   .subst e;omega
   .have:=hc1.mono (i:=a) (j:=j) (by omega) hjl;omega
 .exact oz hb h1 h2
 .exact(GQ hc1 hb h1 fun j hj hjl=>absurd hjl (by omega)).1.symm
def Sg:(List ((List (Int×Int))×Bool×Int))×Int×List (Int)×Int×Int->List SV:=fun(d0,d1,d2,i,r)=>[.one (.vptr (.pair (.row (.pair (.row (.pair (.int .i32) (.int .i64))) (.pair .bool (.int .i64)))) (.pair (.int .i64) (.row (.int .i64)))) (d0,d1,d2) 0),.one (.int .i64 i),.one (.int .i32 r)]
def YN:(List ((List (Int×Int))×Bool×Int))×Int×List (Int)×Int×Int->SV×List Prop:=fun(d0,d1,d2,i,r)=>(.tup [.o (.int .i64 (if 0<=i/\i<d0.length then gM (stA d0 i.toNat).1 r else 0)),.o (.int .i64 (if 0<=i/\i<d0.length then (if dD (stA d0 i.toNat).1 r then 0 else 10) else 2))],[EdS d0,IR r])
def VW:Con:=⟨true,[some (.pair (.row (.pair (.row (.pair (.int .i32) (.int .i64))) (.pair .bool (.int .i64)))) (.pair (.int .i64) (.row (.int .i64)))),none,none],fun xs=>match xs with | [.one (.vptr (.pair (.row (.pair (.row (.pair (.int .i32) (.int .i64))) (.pair .bool (.int .i64)))) (.pair (.int .i64) (.row (.int .i64)))) (d0,d1,d2) 0),.one (.int .i64 i),.one (.int .i32 r)]=>some (YN (d0,d1,d2,i,r)) | _=>none⟩
noncomputable def OP:GP:=bZ Sg YN
theorem Kc:∀a b,(Sg a).map aB=(Sg b).map aB->a=b:=by
 rintro⟨a0,a1,a2,a3,a4⟩ ⟨b0,b1,b2,b3,b4⟩ h;simp only[Sg,zK,List.map_nil,aB,aS,List.drop_zero,zG,AV.one.injEq,AV.agg.injEq,Lf.int.injEq,Lf.str.injEq,Lf.bool.injEq,Lf.vrow.injEq,Lf.vptr.injEq,and_true,true_and,and_assoc] at h;obtain⟨h0,h1,h2⟩:=h;have h0:=Ty.enc_inj _ h0;simp only[zF] at h0;obtain⟨rfl,rfl,rfl⟩:=h0;subst h1;subst h2
 rfl
theorem QI:df OP VW:=aR Kc (fun⟨_,_,_,_,_⟩ ⟨_,_,_,_,_⟩=>rfl) (fun⟨_,_,_,_,_⟩=>rfl) fun xs r h=>by
 simp only[VW] at h;split at h
 .cases h;rename_i d0 d1 d2 i r;exact⟨(d0,d1,d2,i,r),rfl,rfl⟩
 .cases h
theorem YQ {S:SC}(hB:SB S) (Wv:aG S 316 (az PL)) (h314:S.has 314 f314) (h289:S.has 289 f289):aG S 289 (az OP):=by
 refine prM hB [(314,f314)] [⟨316,PL,Xy⟩] ⟨h314,trivial⟩ ⟨⟨Wv,Re⟩,trivial⟩ h289 (fun⟨d0,d1,d2,i,r⟩=>⟨rfl,rfl,rfl⟩) (fun(d0,d1,d2,i,r)=>fun _ _ _ _=>none) 400 ?_;rintro⟨d0,d1,d2,i,r⟩ hc;have hc1:EdS d0:=hc.1;have hc2:IR r:=hc.2.1;refine VC.use (p:=(i<0->((0:Int)=if 0<=i/\i<(d0.length:Int) then gM (stA d0 i.toNat).1 r else 0)/\((2:Int)=if 0<=i/\i<(d0.length:Int) then if dD (stA d0 i.toNat).1 r=true then (0:Int) else (10:Int) else 2))/\(¬i<0->((d0.length:Int)<=i->((0:Int)=if 0<=i/\i<(d0.length:Int) then gM (stA d0 i.toNat).1 r else 0)/\((2:Int)=if 0<=i/\i<(d0.length:Int) then if dD (stA d0 i.toNat).1 r=true then (0:Int) else (10:Int) else 2))/\(¬(d0.length:Int)<=i->(0<=i/\i<(d0.length:Int))/\EdR (d0.getD i.toNat ([],false,0)).1/\IR r/\((!dD (d0.getD i.toNat ([],false,0)).1 r)=true->((0:Int)=if 0<=i/\i<(d0.length:Int) then gM (stA d0 i.toNat).1 r else 0)/\((10:Int)=if 0<=i/\i<(d0.length:Int) then if dD (stA d0 i.toNat).1 r=true then (0:Int) else (10:Int) else 2))/\(¬(!dD (d0.getD i.toNat ([],false,0)).1 r)=true->(0<=nV (d0.getD i.toNat ([],false,0)).1 r/\nV (d0.getD i.toNat ([],false,0)).1 r<(↑(List.length (d0.getD i.toNat ([],false,0)).1):Int))/\((List.getD (d0.getD i.toNat ([],false,0)).1 (nV (d0.getD i.toNat ([],false,0)).1 r).toNat (0,0)).2=if 0<=i/\i<(d0.length:Int) then gM (stA d0 i.toNat).1 r else 0)/\((0:Int)=if 0<=i/\i<(d0.length:Int) then if dD (stA d0 i.toNat).1 r=true then (0:Int) else (10:Int) else 2))))) (by kernel_rfl) ?_;refine⟨fun h=>⟨by rw[if_neg (by omega)],by rw[if_neg (by omega)]⟩,fun h=>⟨fun h2=>⟨by rw[if_neg (by omega)],by rw[if_neg (by omega)]⟩,fun h2=>?_⟩⟩;have hp:0<=i/\i<(d0.length:Int):=⟨by omega,by omega⟩;have hE:=hc1.at i.toNat;simp only[if_pos hp];unfold stA;generalize (d0.getD i.toNat ([],false,0)).1=s at hE ⊢;refine⟨hp,hE,hc2,fun h3=>?_,fun h3=>?_⟩
 .have h4:dD s r=false:=by simpa using h3
  exact⟨(TN h4).symm,by rw[h4];rfl⟩
 .have h4:dD s r=true:=by simpa using h3
  obtain⟨g1,g2,_⟩:=Wy hE h4;exact⟨g1,g2,by rw[h4];rfl⟩
end Go.EA
