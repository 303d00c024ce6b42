/- Layer 10: what an automaton is asked. Conditions: none. -/
import Derived.Test.YtgkhohpekfjlmaaDoorEK26
import Derived.Test.YtgkhohpekfjlmaaDoorEK23
import Derived.KernelRfl
set_option linter.unusedVariables false
set_option linter.unusedSimpArgs false
set_option maxRecDepth 100000
set_option maxHeartbeats 0
namespace Go.EA
open F
def Qj:(List ((List (Int×Int))×Bool×Int))×Int×List (Int)->List SV:=fun(d0,d1,d2)=>[.one (.vptr (.pair (.row (.pair (.row (.pair (.int .i32) (.int .i64))) (.pair .bool (.int .i64)))) (.pair (.int .i64) (.row (.int .i64)))) (d0,d1,d2) 0)]
def YJ:(List ((List (Int×Int))×Bool×Int))×Int×List (Int)->SV×List Prop:=fun(d0,d1,d2)=>(.one (.int .i64 d2.length),[])
def UU:Con:=⟨true,[some (.pair (.row (.pair (.row (.pair (.int .i32) (.int .i64))) (.pair .bool (.int .i64)))) (.pair (.int .i64) (.row (.int .i64))))],fun xs=>match xs with | [.one (.vptr (.pair (.row (.pair (.row (.pair (.int .i32) (.int .i64))) (.pair .bool (.int .i64)))) (.pair (.int .i64) (.row (.int .i64)))) (d0,d1,d2) 0)]=>some (YJ (d0,d1,d2)) | _=>none⟩
noncomputable def NI:GP:=bX Qj YJ
theorem KC:∀a b,(Qj a).map aA=(Qj b).map aA->a=b:=by
 rintro⟨a0,a1,a2⟩ ⟨b0,b1,b2⟩ h;simp only[Qj,zK,List.map_nil,aA,aV,List.drop_zero,zG,AV.one.injEq,AV.agg.injEq,Lf.int.injEq,Lf.str.injEq,Lf.bool.injEq,Lf.vrow.injEq,Lf.vptr.injEq,and_true,true_and,and_assoc] at h;have h0:=h;have h0:=Ty.enc_inj _ h0;simp only[zF] at h0;obtain⟨rfl,rfl,rfl⟩:=h0
 rfl
theorem TG:cK NI UU:=aS KC (fun⟨_,_,_⟩ ⟨_,_,_⟩=>rfl) (fun⟨_,_,_⟩=>rfl) fun xs r h=>by
 simp only[UU] at h;split at h
 .cases h;rename_i d0 d1 d2;exact⟨(d0,d1,d2),rfl,rfl⟩
 .cases h
theorem aab {S:SC}(hB:SB S)  (h284:S.has 284 f284):aF S 284 (az NI):=by
 refine prM hB [] [] trivial trivial h284 (fun⟨d0,d1,d2⟩=>⟨rfl,rfl,rfl⟩) (fun(d0,d1,d2)=>fun _ _ _ _=>none) 400 ?_;rintro⟨d0,d1,d2⟩ hc;refine VC.use (p:=(↑(List.length (d1,d2).2):Int)=(d2.length:Int)) (by kernel_rfl) ?_;exact rfl
def Rx:(List ((List (Int×Int))×Bool×Int))×Int×List (Int)×Int->List SV:=fun(d0,d1,d2,i)=>[.one (.vptr (.pair (.row (.pair (.row (.pair (.int .i32) (.int .i64))) (.pair .bool (.int .i64)))) (.pair (.int .i64) (.row (.int .i64)))) (d0,d1,d2) 0),.one (.int .i64 i)]
def YS:(List ((List (Int×Int))×Bool×Int))×Int×List (Int)×Int->SV×List Prop:=fun(d0,d1,d2,i)=>(.tup [.o (.bool (decide (0<=i/\i<d0.length)&&(stA d0 i.toNat).2.1)),.o (.int .i64 (if 0<=i/\i<d0.length then 0 else 2))],[])
def VT:Con:=⟨true,[some (.pair (.row (.pair (.row (.pair (.int .i32) (.int .i64))) (.pair .bool (.int .i64)))) (.pair (.int .i64) (.row (.int .i64)))),none],fun xs=>match xs with | [.one (.vptr (.pair (.row (.pair (.row (.pair (.int .i32) (.int .i64))) (.pair .bool (.int .i64)))) (.pair (.int .i64) (.row (.int .i64)))) (d0,d1,d2) 0),.one (.int .i64 i)]=>some (YS (d0,d1,d2,i)) | _=>none⟩
noncomputable def Ow:GP:=bX Rx YS
theorem JL:∀a b,(Rx a).map aA=(Rx b).map aA->a=b:=by
 rintro⟨a0,a1,a2,a3⟩ ⟨b0,b1,b2,b3⟩ h;simp only[Rx,zK,List.map_nil,aA,aV,List.drop_zero,zG,AV.one.injEq,AV.agg.injEq,Lf.int.injEq,Lf.str.injEq,Lf.bool.injEq,Lf.vrow.injEq,Lf.vptr.injEq,and_true,true_and,and_assoc] at h;obtain⟨h0,h1⟩:=h;have h0:=Ty.enc_inj _ h0;simp only[zF] at h0;obtain⟨rfl,rfl,rfl⟩:=h0;subst h1
 rfl
theorem Uf:cK Ow VT:=aS JL (fun⟨_,_,_,_⟩ ⟨_,_,_,_⟩=>rfl) (fun⟨_,_,_,_⟩=>rfl) fun xs r h=>by
 simp only[VT] at h;split at h
 .cases h;rename_i d0 d1 d2 i;exact⟨(d0,d1,d2,i),rfl,rfl⟩
 .cases h
theorem Zc {S:SC}(hB:SB S)  (h314:S.has 314 f314) (h286:S.has 286 f286):aF S 286 (az Ow):=by
 refine prM hB [(314,f314)] [] ⟨h314,trivial⟩ trivial h286 (fun⟨d0,d1,d2,i⟩=>⟨rfl,rfl,rfl⟩) (fun(d0,d1,d2,i)=>fun _ _ _ _=>none) 400 ?_;rintro⟨d0,d1,d2,i⟩ hc;refine VC.use (p:=(i<0->false=(decide (0<=i/\i<(d0.length:Int))&&(stA d0 i.toNat).2.1)/\(2=if 0<=i/\i<(d0.length:Int) then (0:Int) else (2:Int)))/\(¬i<0->((d0.length:Int)<=i->false=(decide (0<=i/\i<(d0.length:Int))&&(stA d0 i.toNat).2.1)/\(2=if 0<=i/\i<(d0.length:Int) then (0:Int) else (2:Int)))/\(¬(d0.length:Int)<=i->(0<=i/\i<(d0.length:Int))/\(d0.getD i.toNat ([],false,0)).2.1=(decide (0<=i/\i<(d0.length:Int))&&(stA d0 i.toNat).2.1)/\(0=if 0<=i/\i<(d0.length:Int) then (0:Int) else (2:Int))))) (by kernel_rfl) ?_;refine⟨fun h=>⟨by rw[decide_eq_false (by omega)];rfl,by rw[if_neg (by omega)]⟩,fun h=>⟨fun h2=>⟨by rw[decide_eq_false (by omega)];rfl,by rw[if_neg (by omega)]⟩,fun h2=>⟨⟨by omega,by omega⟩,by rw[decide_eq_true ⟨by omega,by omega⟩];rfl,by rw[if_pos ⟨by omega,by omega⟩]⟩⟩⟩
def Tc:(List (Int×Int))×Bool×Int×Int->List SV:=fun(s0,s1,s2,r)=>[.one (.vptr (.pair (.row (.pair (.int .i32) (.int .i64))) (.pair .bool (.int .i64))) (s0,s1,s2) 0),.one (.int .i32 r)]
def Zg:(List (Int×Int))×Bool×Int×Int->SV×List Prop:=fun(s0,s1,s2,r)=>(.tup [.o (.int .i64 (nC s0 r)),.o (.bool (cB s0 r))],[EdR s0,IR r])
def Vx:Con:=⟨true,[some (.pair (.row (.pair (.int .i32) (.int .i64))) (.pair .bool (.int .i64))),none],fun xs=>match xs with | [.one (.vptr (.pair (.row (.pair (.int .i32) (.int .i64))) (.pair .bool (.int .i64))) (s0,s1,s2) 0),.one (.int .i32 r)]=>some (Zg (s0,s1,s2,r)) | _=>none⟩
noncomputable def Kl:GP:=bX Tc Zg
theorem Mq:∀a b,(Tc a).map aA=(Tc b).map aA->a=b:=by
 rintro⟨a0,a1,a2,a3⟩ ⟨b0,b1,b2,b3⟩ h;simp only[Tc,zK,List.map_nil,aA,aV,List.drop_zero,zG,AV.one.injEq,AV.agg.injEq,Lf.int.injEq,Lf.str.injEq,Lf.bool.injEq,Lf.vrow.injEq,Lf.vptr.injEq,and_true,true_and,and_assoc] at h;obtain⟨h0,h1⟩:=h;have h0:=Ty.enc_inj _ h0;simp only[zF] at h0;obtain⟨rfl,rfl,rfl⟩:=h0;subst h1
 rfl
theorem RD:cK Kl Vx:=aS Mq (fun⟨_,_,_,_⟩ ⟨_,_,_,_⟩=>rfl) (fun⟨_,_,_,_⟩=>rfl) fun xs r h=>by
 simp only[Vx] at h;split at h
 .cases h;rename_i s0 s1 s2 r;exact⟨(s0,s1,s2,r),rfl,rfl⟩
 .cases h
theorem YV {S:SC}(hB:SB S)  (h334:S.has 334 f334) (h335:S.has 335 f335) (h316:S.has 316 f316):aF S 316 (az Kl):=by
 refine prM hB [(334,f334),(335,f335)] [] ⟨h334,h335,trivial⟩ trivial h316 (fun⟨s0,s1,s2,r⟩=>⟨rfl,rfl,rfl⟩) (fun(s0,s1,s2,r)=>fun f id T L=>match f,id with
  |334,0=>some (.inv { p:Nat×Nat // p.1<=p.2/\p.2<=s0.length/\(∀j,j<p.1->(s0.getD j (0,0)).1<r)/\(∀j,p.2<=j->j<s0.length->r<=(s0.getD j (0,0)).1) } (fun x=>([(9,.one (.int .i64 x.1.1)),(10,.one (.int .i64 x.1.2))],[])) (fun x=>x.1.2-x.1.1))
  |_,_=>none) 1000 ?_
 rintro⟨s0,s1,s2,r⟩ hc;have hc1:EdR s0:=hc.1;have hc2:IR r:=hc.2.1;refine VC.use (p:=(∃x1:{ p:Nat×Nat // p.1<=p.2/\p.2<=s0.length/\(∀(j:Nat),j<p.1->(s0.getD j (0,0)).1<r)/\∀(j:Nat),p.2<=j->j<s0.length->r<=(s0.getD j (0,0)).1 },s0=s0/\r=r/\(s0.length:Int)=(s0.length:Int)/\0=(x1.1.1:Int)/\(s0.length:Int)=(x1.1.2:Int))/\(∀x1:{ p:Nat×Nat // p.1<=p.2/\p.2<=s0.length/\(∀(j:Nat),j<p.1->(s0.getD j (0,0)).1<r)/\∀(j:Nat),p.2<=j->j<s0.length->r<=(s0.getD j (0,0)).1 },((x1.1.1:Int)<(x1.1.2:Int)->aB ((x1.1.1:Int)+(x1.1.2:Int))/\aB ((IntKind.u64.wrap ((x1.1.1:Int)+(x1.1.2:Int))).fdiv 2)/\(0<=(IntKind.u64.wrap ((x1.1.1:Int)+(x1.1.2:Int))).fdiv 2/\(IntKind.u64.wrap ((x1.1.1:Int)+(x1.1.2:Int))).fdiv 2<(s0.length:Int))/\aB (s0.getD ((IntKind.u64.wrap ((x1.1.1:Int)+(x1.1.2:Int))).fdiv 2).toNat (0,0)).1/\aB r/\aB ((s0.getD ((IntKind.u64.wrap ((x1.1.1:Int)+(x1.1.2:Int))).fdiv 2).toNat (0,0)).1-r)/\((s0.getD ((IntKind.u64.wrap ((x1.1.1:Int)+(x1.1.2:Int))).fdiv 2).toNat (0,0)).1-r<0->aB ((IntKind.u64.wrap ((x1.1.1:Int)+(x1.1.2:Int))).fdiv 2+1)/\(∃x2:{ p:Nat×Nat // p.1<=p.2/\p.2<=s0.length/\(∀(j:Nat),j<p.1->(s0.getD j (0,0)).1<r)/\∀(j:Nat),p.2<=j->j<s0.length->r<=(s0.getD j (0,0)).1 },x2.1.2-x2.1.1<x1.1.2-x1.1.1/\s0=s0/\r=r/\(s0.length:Int)=(s0.length:Int)/\(IntKind.u64.wrap ((x1.1.1:Int)+(x1.1.2:Int))).fdiv 2+1=(x2.1.1:Int)/\(x1.1.2:Int)=(x2.1.2:Int)))/\(¬(s0.getD ((IntKind.u64.wrap ((x1.1.1:Int)+(x1.1.2:Int))).fdiv 2).toNat (0,0)).1-r<0->∃x2:{ p:Nat×Nat // p.1<=p.2/\p.2<=s0.length/\(∀(j:Nat),j<p.1->(s0.getD j (0,0)).1<r)/\∀(j:Nat),p.2<=j->j<s0.length->r<=(s0.getD j (0,0)).1 },x2.1.2-x2.1.1<x1.1.2-x1.1.1/\s0=s0/\r=r/\(s0.length:Int)=(s0.length:Int)/\(x1.1.1:Int)=(x2.1.1:Int)/\(IntKind.u64.wrap ((x1.1.1:Int)+(x1.1.2:Int))).fdiv 2=(x2.1.2:Int)))/\(¬(x1.1.1:Int)<(x1.1.2:Int)->((x1.1.1:Int)<(s0.length:Int)->(0<=(x1.1.1:Int)/\(x1.1.1:Int)<(s0.length:Int))/\aB (s0.getD x1.1.1 (0,0)).1/\aB r/\aB ((s0.getD x1.1.1 (0,0)).1-r)/\(x1.1.1:Int)=nC s0 r/\decide ((s0.getD x1.1.1 (0,0)).1-r=0)=cB s0 r)/\(¬(x1.1.1:Int)<(s0.length:Int)->(x1.1.1:Int)=nC s0 r/\false=cB s0 r)))) (by kernel_rfl) ?_;have hl:=hc1.2.2;have hr:aB r:=by have:=hc2;unfold IR at this;unfold aB;omega
 refine⟨⟨⟨(0,s0.length),Nat.zero_le _,zJ _,fun j h=>absurd h (zS _),fun j h h'=>absurd h' (by omega)⟩,rfl,rfl,rfl,rfl,rfl⟩,?_⟩;rintro⟨⟨a,b⟩,hab,hb,h1,h2⟩;dsimp only at hab hb h1 h2 ⊢;rw[oo a b (by omega)];have hm1:a<b->(a+b) / 2<b:=fun h=>by omega
 have hm2:a<=(a+b) / 2:=by omega
 generalize (a+b) / 2=m at hm1 hm2 ⊢;have hi:=hc1.ir m;have hia:=hc1.ir a;have hr2:=hc2;unfold IR at hi hia hr2;refine⟨fun h=>?_,fun h=>⟨fun h3=>⟨⟨by omega,h3⟩,by unfold aB;omega,hr,by unfold aB;omega,?_,?_⟩,fun h3=>⟨?_,?_⟩⟩⟩
 .have hm1:=hm1 (by omega);rw[Int.toNat_natCast];refine⟨by unfold aB;omega,by unfold aB;omega,⟨by omega,by omega⟩,by unfold aB;omega,hr,by unfold aB;omega,fun h4=>⟨by unfold aB;omega,⟨(m+1,b),by dsimp only;omega,hb,fun j hj=>?_,h2⟩,by dsimp only;omega,rfl,rfl,rfl,by push_cast;rfl,rfl⟩,fun h4=>⟨⟨(a,m),hm2,by dsimp only;omega,h1,fun j hj hjl=>?_⟩,by dsimp only;omega,rfl,rfl,rfl,rfl,rfl⟩⟩
  .by_cases e:j=m
   .subst e;omega
   .have:=hc1.mono (i:=j) (j:=m) (by dsimp only at hj;omega) (by omega);omega
  .dsimp only at hj;by_cases e:j=m
   .subst e;omega
   .have:=hc1.mono (i:=m) (j:=j) (by omega) hjl;omega
 all_goals obtain rfl:a=b:=by omega
 .exact pO hb h1 h2
 .by_cases h4:(s0.getD a (0,0)).1=r
  .have:=(QG (n:=a) (by omega) h1 (decide_eq_true (by omega))).1;rw[this];exact decide_eq_true (by omega)
  .rw[decide_eq_false (by omega)];refine(FQ hc1 hb h1 fun j hj hjl=>?_).1.symm;have h5:=h2 a (zJ _) (by omega);by_cases e:j=a
   .subst e;omega
   .have:=hc1.mono (i:=a) (j:=j) (by omega) hjl;omega
 .exact pO hb h1 h2
 .exact(FQ hc1 hb h1 fun j hj hjl=>absurd hjl (by omega)).1.symm
def Tf:(List ((List (Int×Int))×Bool×Int))×Int×List (Int)×Int×Int->List SV:=fun(d0,d1,d2,i,r)=>[.one (.vptr (.pair (.row (.pair (.row (.pair (.int .i32) (.int .i64))) (.pair .bool (.int .i64)))) (.pair (.int .i64) (.row (.int .i64)))) (d0,d1,d2) 0),.one (.int .i64 i),.one (.int .i32 r)]
def ZC:(List ((List (Int×Int))×Bool×Int))×Int×List (Int)×Int×Int->SV×List Prop:=fun(d0,d1,d2,i,r)=>(.tup [.o (.int .i64 (if 0<=i/\i<d0.length then fK (stA d0 i.toNat).1 r else 0)),.o (.int .i64 (if 0<=i/\i<d0.length then (if cB (stA d0 i.toNat).1 r then 0 else 10) else 2))],[EdS d0,IR r])
def Ua:Con:=⟨true,[some (.pair (.row (.pair (.row (.pair (.int .i32) (.int .i64))) (.pair .bool (.int .i64)))) (.pair (.int .i64) (.row (.int .i64)))),none,none],fun xs=>match xs with | [.one (.vptr (.pair (.row (.pair (.row (.pair (.int .i32) (.int .i64))) (.pair .bool (.int .i64)))) (.pair (.int .i64) (.row (.int .i64)))) (d0,d1,d2) 0),.one (.int .i64 i),.one (.int .i32 r)]=>some (ZC (d0,d1,d2,i,r)) | _=>none⟩
noncomputable def Ei:GP:=bX Tf ZC
theorem Nt:∀a b,(Tf a).map aA=(Tf b).map aA->a=b:=by
 rintro⟨a0,a1,a2,a3,a4⟩ ⟨b0,b1,b2,b3,b4⟩ h;simp only[Tf,zK,List.map_nil,aA,aV,List.drop_zero,zG,AV.one.injEq,AV.agg.injEq,Lf.int.injEq,Lf.str.injEq,Lf.bool.injEq,Lf.vrow.injEq,Lf.vptr.injEq,and_true,true_and,and_assoc] at h;obtain⟨h0,h1,h2⟩:=h;have h0:=Ty.enc_inj _ h0;simp only[zF] at h0;obtain⟨rfl,rfl,rfl⟩:=h0;subst h1;subst h2
 rfl
theorem Gg:cK Ei Ua:=aS Nt (fun⟨_,_,_,_,_⟩ ⟨_,_,_,_,_⟩=>rfl) (fun⟨_,_,_,_,_⟩=>rfl) fun xs r h=>by
 simp only[Ua] at h;split at h
 .cases h;rename_i d0 d1 d2 i r;exact⟨(d0,d1,d2,i,r),rfl,rfl⟩
 .cases h
theorem aaI {S:SC}(hB:SB S) (Wv:aF S 316 (az Kl)) (h314:S.has 314 f314) (h289:S.has 289 f289):aF S 289 (az Ei):=by
 refine prM hB [(314,f314)] [⟨316,Kl,Vx⟩] ⟨h314,trivial⟩ ⟨⟨Wv,RD⟩,trivial⟩ h289 (fun⟨d0,d1,d2,i,r⟩=>⟨rfl,rfl,rfl⟩) (fun(d0,d1,d2,i,r)=>fun _ _ _ _=>none) 400 ?_;rintro⟨d0,d1,d2,i,r⟩ hc;have hc1:EdS d0:=hc.1;have hc2:IR r:=hc.2.1;refine VC.use (p:=(i<0->((0:Int)=if 0<=i/\i<(d0.length:Int) then fK (stA d0 i.toNat).1 r else 0)/\((2:Int)=if 0<=i/\i<(d0.length:Int) then if cB (stA d0 i.toNat).1 r=true then (0:Int) else (10:Int) else 2))/\(¬i<0->((d0.length:Int)<=i->((0:Int)=if 0<=i/\i<(d0.length:Int) then fK (stA d0 i.toNat).1 r else 0)/\((2:Int)=if 0<=i/\i<(d0.length:Int) then if cB (stA d0 i.toNat).1 r=true then (0:Int) else (10:Int) else 2))/\(¬(d0.length:Int)<=i->(0<=i/\i<(d0.length:Int))/\EdR (d0.getD i.toNat ([],false,0)).1/\IR r/\((!cB (d0.getD i.toNat ([],false,0)).1 r)=true->((0:Int)=if 0<=i/\i<(d0.length:Int) then fK (stA d0 i.toNat).1 r else 0)/\((10:Int)=if 0<=i/\i<(d0.length:Int) then if cB (stA d0 i.toNat).1 r=true then (0:Int) else (10:Int) else 2))/\(¬(!cB (d0.getD i.toNat ([],false,0)).1 r)=true->(0<=nC (d0.getD i.toNat ([],false,0)).1 r/\nC (d0.getD i.toNat ([],false,0)).1 r<(↑(List.length (d0.getD i.toNat ([],false,0)).1):Int))/\((List.getD (d0.getD i.toNat ([],false,0)).1 (nC (d0.getD i.toNat ([],false,0)).1 r).toNat (0,0)).2=if 0<=i/\i<(d0.length:Int) then fK (stA d0 i.toNat).1 r else 0)/\((0:Int)=if 0<=i/\i<(d0.length:Int) then if cB (stA d0 i.toNat).1 r=true then (0:Int) else (10:Int) else 2))))) (by kernel_rfl) ?_;refine⟨fun h=>⟨by rw[if_neg (by omega)],by rw[if_neg (by omega)]⟩,fun h=>⟨fun h2=>⟨by rw[if_neg (by omega)],by rw[if_neg (by omega)]⟩,fun h2=>?_⟩⟩;have hp:0<=i/\i<(d0.length:Int):=⟨by omega,by omega⟩;have hE:=hc1.at i.toNat;simp only[if_pos hp];unfold stA;generalize (d0.getD i.toNat ([],false,0)).1=s at hE ⊢;refine⟨hp,hE,hc2,fun h3=>?_,fun h3=>?_⟩
 .have h4:cB s r=false:=by simpa using h3
  exact⟨(Ra h4).symm,by rw[h4];rfl⟩
 .have h4:cB s r=true:=by simpa using h3
  obtain⟨g1,g2,_⟩:=Vy hE h4;exact⟨g1,g2,by rw[h4];rfl⟩
end Go.EA
