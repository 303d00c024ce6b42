/- Layer 10: what an automaton is asked. Conditions: none. -/
import Derived.Test.YtgkhohpekfjlmaaDoorEK26
import Derived.Test.YtgkhohpekfjlmaaDoorEK23
import Derived.KernelRfl
set_option linter.unusedVariables false
set_option linter.unusedSimpArgs false
set_option maxRecDepth 100000
set_option maxHeartbeats 0
namespace Go.EA
open F
def Ru:(List ((List (Int×Int))×Bool×Int))×Int×List (Int)×Int->List SV:=fun(d0,d1,d2,i)=>[.one (.vptr (.pair (.row (.pair (.row (.pair (.int .i32) (.int .i64))) (.pair .bool (.int .i64)))) (.pair (.int .i64) (.row (.int .i64)))) (d0,d1,d2) 0),.one (.int .i64 i)]
def XQ:(List ((List (Int×Int))×Bool×Int))×Int×List (Int)×Int->SV×List Prop:=fun(d0,d1,d2,i)=>(.tup [.o (.bool (decide (0<=i/\i<d0.length)&&(stA d0 i.toNat).2.1)),.o (.int .i64 (if 0<=i/\i<d0.length then 0 else 2))],[])
def UE:Con:=⟨true,[some (.pair (.row (.pair (.row (.pair (.int .i32) (.int .i64))) (.pair .bool (.int .i64)))) (.pair (.int .i64) (.row (.int .i64)))),none],fun xs=>match xs with | [.one (.vptr (.pair (.row (.pair (.row (.pair (.int .i32) (.int .i64))) (.pair .bool (.int .i64)))) (.pair (.int .i64) (.row (.int .i64)))) (d0,d1,d2) 0),.one (.int .i64 i)]=>some (XQ (d0,d1,d2,i)) | _=>none⟩
noncomputable def Na:GP:=dx Ru XQ
theorem NW:∀a b,(Ru a).map aB=(Ru b).map aB->a=b:=by
 rintro⟨a0,a1,a2,a3⟩ ⟨b0,b1,b2,b3⟩ h;simp only[Ru,zK,List.map_nil,aB,aX,List.drop_zero,zG,AV.one.injEq,AV.agg.injEq,Lf.int.injEq,Lf.str.injEq,Lf.bool.injEq,Lf.vrow.injEq,Lf.vptr.injEq,and_true,true_and,and_assoc] at h;obtain⟨h0,h1⟩:=h;have h0:=Ty.enc_inj _ h0;simp only[zF] at h0;obtain⟨rfl,rfl,rfl⟩:=h0;subst h1
 rfl
theorem Qt:dG Na UE:=aY NW (fun⟨_,_,_,_⟩ ⟨_,_,_,_⟩=>rfl) (fun⟨_,_,_,_⟩=>rfl) fun xs r h=>by
 simp only[UE] at h;split at h
 .cases h;rename_i d0 d1 d2 i;exact⟨(d0,d1,d2,i),rfl,rfl⟩
 .cases h
theorem ZJ {S:SC}(hB:SB S)  (h314:S.has 314 f314) (h286:S.has 286 f286):aN S 286 (az Na):=by
 refine prM hB [(314,f314)] [] ⟨h314,trivial⟩ trivial h286 (fun⟨d0,d1,d2,i⟩=>⟨rfl,rfl,rfl⟩) (fun(d0,d1,d2,i)=>fun _ _ _ _=>none) 400 ?_;rintro⟨d0,d1,d2,i⟩ hc;refine VC.use (p:=(i<0->false=(decide (0<=i/\i<(d0.length:Int))&&(stA d0 i.toNat).2.1)/\(2=if 0<=i/\i<(d0.length:Int) then (0:Int) else (2:Int)))/\(¬i<0->((d0.length:Int)<=i->false=(decide (0<=i/\i<(d0.length:Int))&&(stA d0 i.toNat).2.1)/\(2=if 0<=i/\i<(d0.length:Int) then (0:Int) else (2:Int)))/\(¬(d0.length:Int)<=i->(0<=i/\i<(d0.length:Int))/\(d0.getD i.toNat ([],false,0)).2.1=(decide (0<=i/\i<(d0.length:Int))&&(stA d0 i.toNat).2.1)/\(0=if 0<=i/\i<(d0.length:Int) then (0:Int) else (2:Int))))) (by kernel_rfl) ?_;refine⟨fun h=>⟨by rw[decide_eq_false (by omega)];rfl,by rw[if_neg (by omega)]⟩,fun h=>⟨fun h2=>⟨by rw[decide_eq_false (by omega)];rfl,by rw[if_neg (by omega)]⟩,fun h2=>⟨⟨by omega,by omega⟩,by rw[decide_eq_true ⟨by omega,by omega⟩];rfl,by rw[if_pos ⟨by omega,by omega⟩]⟩⟩⟩
def QL:(List (Int×Int))×Bool×Int×Int->List SV:=fun(s0,s1,s2,r)=>[.one (.vptr (.pair (.row (.pair (.int .i32) (.int .i64))) (.pair .bool (.int .i64))) (s0,s1,s2) 0),.one (.int .i32 r)]
def YQ:(List (Int×Int))×Bool×Int×Int->SV×List Prop:=fun(s0,s1,s2,r)=>(.tup [.o (.int .i64 (nC s0 r)),.o (.bool (dz s0 r))],[EdR s0,IR r])
def Wq:Con:=⟨true,[some (.pair (.row (.pair (.int .i32) (.int .i64))) (.pair .bool (.int .i64))),none],fun xs=>match xs with | [.one (.vptr (.pair (.row (.pair (.int .i32) (.int .i64))) (.pair .bool (.int .i64))) (s0,s1,s2) 0),.one (.int .i32 r)]=>some (YQ (s0,s1,s2,r)) | _=>none⟩
noncomputable def MN:GP:=dx QL YQ
theorem OM:∀a b,(QL a).map aB=(QL b).map aB->a=b:=by
 rintro⟨a0,a1,a2,a3⟩ ⟨b0,b1,b2,b3⟩ h;simp only[QL,zK,List.map_nil,aB,aX,List.drop_zero,zG,AV.one.injEq,AV.agg.injEq,Lf.int.injEq,Lf.str.injEq,Lf.bool.injEq,Lf.vrow.injEq,Lf.vptr.injEq,and_true,true_and,and_assoc] at h;obtain⟨h0,h1⟩:=h;have h0:=Ty.enc_inj _ h0;simp only[zF] at h0;obtain⟨rfl,rfl,rfl⟩:=h0;subst h1
 rfl
theorem Su:dG MN Wq:=aY OM (fun⟨_,_,_,_⟩ ⟨_,_,_,_⟩=>rfl) (fun⟨_,_,_,_⟩=>rfl) fun xs r h=>by
 simp only[Wq] at h;split at h
 .cases h;rename_i s0 s1 s2 r;exact⟨(s0,s1,s2,r),rfl,rfl⟩
 .cases h
theorem Zq {S:SC}(hB:SB S)  (h334:S.has 334 f334) (h335:S.has 335 f335) (h316:S.has 316 f316):aN S 316 (az MN):=by
 refine prM hB [(334,f334),(335,f335)] [] ⟨h334,h335,trivial⟩ trivial h316 (fun⟨s0,s1,s2,r⟩=>⟨rfl,rfl,rfl⟩) (fun(s0,s1,s2,r)=>fun f id T L=>match f,id with
  |334,0=>some (.inv { p:Nat×Nat // p.1<=p.2/\p.2<=s0.length/\(∀j,j<p.1->(s0.getD j (0,0)).1<r)/\(∀j,p.2<=j->j<s0.length->r<=(s0.getD j (0,0)).1) } (fun x=>([(9,.one (.int .i64 x.1.1)),(10,.one (.int .i64 x.1.2))],[])) (fun x=>x.1.2-x.1.1))
  |_,_=>none) 1000 ?_
 rintro⟨s0,s1,s2,r⟩ hc;have hc1:EdR s0:=hc.1;have hc2:IR r:=hc.2.1;refine VC.use (p:=(∃x1:{ p:Nat×Nat // p.1<=p.2/\p.2<=s0.length/\(∀(j:Nat),j<p.1->(s0.getD j (0,0)).1<r)/\∀(j:Nat),p.2<=j->j<s0.length->r<=(s0.getD j (0,0)).1 },s0=s0/\r=r/\(s0.length:Int)=(s0.length:Int)/\0=(x1.1.1:Int)/\(s0.length:Int)=(x1.1.2:Int))/\(∀x1:{ p:Nat×Nat // p.1<=p.2/\p.2<=s0.length/\(∀(j:Nat),j<p.1->(s0.getD j (0,0)).1<r)/\∀(j:Nat),p.2<=j->j<s0.length->r<=(s0.getD j (0,0)).1 },((x1.1.1:Int)<(x1.1.2:Int)->aG ((x1.1.1:Int)+(x1.1.2:Int))/\aG ((IntKind.u64.wrap ((x1.1.1:Int)+(x1.1.2:Int))).fdiv 2)/\(0<=(IntKind.u64.wrap ((x1.1.1:Int)+(x1.1.2:Int))).fdiv 2/\(IntKind.u64.wrap ((x1.1.1:Int)+(x1.1.2:Int))).fdiv 2<(s0.length:Int))/\aG (s0.getD ((IntKind.u64.wrap ((x1.1.1:Int)+(x1.1.2:Int))).fdiv 2).toNat (0,0)).1/\aG r/\aG ((s0.getD ((IntKind.u64.wrap ((x1.1.1:Int)+(x1.1.2:Int))).fdiv 2).toNat (0,0)).1-r)/\((s0.getD ((IntKind.u64.wrap ((x1.1.1:Int)+(x1.1.2:Int))).fdiv 2).toNat (0,0)).1-r<0->aG ((IntKind.u64.wrap ((x1.1.1:Int)+(x1.1.2:Int))).fdiv 2+1)/\(∃x2:{ p:Nat×Nat // p.1<=p.2/\p.2<=s0.length/\(∀(j:Nat),j<p.1->(s0.getD j (0,0)).1<r)/\∀(j:Nat),p.2<=j->j<s0.length->r<=(s0.getD j (0,0)).1 },x2.1.2-x2.1.1<x1.1.2-x1.1.1/\s0=s0/\r=r/\(s0.length:Int)=(s0.length:Int)/\(IntKind.u64.wrap ((x1.1.1:Int)+(x1.1.2:Int))).fdiv 2+1=(x2.1.1:Int)/\(x1.1.2:Int)=(x2.1.2:Int)))/\(¬(s0.getD ((IntKind.u64.wrap ((x1.1.1:Int)+(x1.1.2:Int))).fdiv 2).toNat (0,0)).1-r<0->∃x2:{ p:Nat×Nat // p.1<=p.2/\p.2<=s0.length/\(∀(j:Nat),j<p.1->(s0.getD j (0,0)).1<r)/\∀(j:Nat),p.2<=j->j<s0.length->r<=(s0.getD j (0,0)).1 },x2.1.2-x2.1.1<x1.1.2-x1.1.1/\s0=s0/\r=r/\(s0.length:Int)=(s0.length:Int)/\(x1.1.1:Int)=(x2.1.1:Int)/\(IntKind.u64.wrap ((x1.1.1:Int)+(x1.1.2:Int))).fdiv 2=(x2.1.2:Int)))/\(¬(x1.1.1:Int)<(x1.1.2:Int)->((x1.1.1:Int)<(s0.length:Int)->(0<=(x1.1.1:Int)/\(x1.1.1:Int)<(s0.length:Int))/\aG (s0.getD x1.1.1 (0,0)).1/\aG r/\aG ((s0.getD x1.1.1 (0,0)).1-r)/\(x1.1.1:Int)=nC s0 r/\decide ((s0.getD x1.1.1 (0,0)).1-r=0)=dz s0 r)/\(¬(x1.1.1:Int)<(s0.length:Int)->(x1.1.1:Int)=nC s0 r/\false=dz s0 r)))) (by kernel_rfl) ?_;have hl:=hc1.2.2;have hr:aG r:=by have:=hc2;unfold IR at this;unfold aG;omega
 refine⟨⟨⟨(0,s0.length),Nat.zero_le _,zJ _,fun j h=>absurd h (zS _),fun j h h'=>absurd h' (by omega)⟩,rfl,rfl,rfl,rfl,rfl⟩,?_⟩;rintro⟨⟨a,b⟩,hab,hb,h1,h2⟩;dsimp only at hab hb h1 h2 ⊢;rw[CR a b (by omega)];have hm1:a<b->(a+b) / 2<b:=fun h=>by omega
 have hm2:a<=(a+b) / 2:=by omega
 generalize (a+b) / 2=m at hm1 hm2 ⊢;have hi:=hc1.ir m;have hia:=hc1.ir a;have hr2:=hc2;unfold IR at hi hia hr2;refine⟨fun h=>?_,fun h=>⟨fun h3=>⟨⟨by omega,h3⟩,by unfold aG;omega,hr,by unfold aG;omega,?_,?_⟩,fun h3=>⟨?_,?_⟩⟩⟩
 .have hm1:=hm1 (by omega);rw[Int.toNat_natCast];refine⟨by unfold aG;omega,by unfold aG;omega,⟨by omega,by omega⟩,by unfold aG;omega,hr,by unfold aG;omega,fun h4=>⟨by unfold aG;omega,⟨(m+1,b),by dsimp only;omega,hb,fun j hj=>?_,h2⟩,by dsimp only;omega,rfl,rfl,rfl,by push_cast;rfl,rfl⟩,fun h4=>⟨⟨(a,m),hm2,by dsimp only;omega,h1,fun j hj hjl=>?_⟩,by dsimp only;omega,rfl,rfl,rfl,rfl,rfl⟩⟩
  .by_cases e:j=m
   .subst e;omega
   .have:=hc1.mono (i:=j) (j:=m) (by dsimp only at hj;omega) (by omega);omega
  .dsimp only at hj;by_cases e:j=m
   .subst e;omega
   .have:=hc1.mono (i:=m) (j:=j) (by omega) hjl;omega
 all_goals obtain rfl:a=b:=by omega
 .exact oU hb h1 h2
 .by_cases h4:(s0.getD a (0,0)).1=r
  .have:=(Qy (n:=a) (by omega) h1 (decide_eq_true (by omega))).1;rw[this];exact decide_eq_true (by omega)
  .rw[decide_eq_false (by omega)];refine(GU hc1 hb h1 fun j hj hjl=>?_).1.symm;have h5:=h2 a (zJ _) (by omega);by_cases e:j=a
   .subst e;omega
   .have:=hc1.mono (i:=a) (j:=j) (by omega) hjl;omega
 .exact oU hb h1 h2
 .exact(GU hc1 hb h1 fun j hj hjl=>absurd hjl (by omega)).1.symm
def Pz:(List ((List (Int×Int))×Bool×Int))×Int×List (Int)×Int×Int->List SV:=fun(d0,d1,d2,i,r)=>[.one (.vptr (.pair (.row (.pair (.row (.pair (.int .i32) (.int .i64))) (.pair .bool (.int .i64)))) (.pair (.int .i64) (.row (.int .i64)))) (d0,d1,d2) 0),.one (.int .i64 i),.one (.int .i32 r)]
def YU:(List ((List (Int×Int))×Bool×Int))×Int×List (Int)×Int×Int->SV×List Prop:=fun(d0,d1,d2,i,r)=>(.tup [.o (.int .i64 (if 0<=i/\i<d0.length then gM (stA d0 i.toNat).1 r else 0)),.o (.int .i64 (if 0<=i/\i<d0.length then (if dz (stA d0 i.toNat).1 r then 0 else 10) else 2))],[EdS d0,IR r])
def Wt:Con:=⟨true,[some (.pair (.row (.pair (.row (.pair (.int .i32) (.int .i64))) (.pair .bool (.int .i64)))) (.pair (.int .i64) (.row (.int .i64)))),none,none],fun xs=>match xs with | [.one (.vptr (.pair (.row (.pair (.row (.pair (.int .i32) (.int .i64))) (.pair .bool (.int .i64)))) (.pair (.int .i64) (.row (.int .i64)))) (d0,d1,d2) 0),.one (.int .i64 i),.one (.int .i32 r)]=>some (YU (d0,d1,d2,i,r)) | _=>none⟩
noncomputable def NR:GP:=dx Pz YU
theorem MV:∀a b,(Pz a).map aB=(Pz b).map aB->a=b:=by
 rintro⟨a0,a1,a2,a3,a4⟩ ⟨b0,b1,b2,b3,b4⟩ h;simp only[Pz,zK,List.map_nil,aB,aX,List.drop_zero,zG,AV.one.injEq,AV.agg.injEq,Lf.int.injEq,Lf.str.injEq,Lf.bool.injEq,Lf.vrow.injEq,Lf.vptr.injEq,and_true,true_and,and_assoc] at h;obtain⟨h0,h1,h2⟩:=h;have h0:=Ty.enc_inj _ h0;simp only[zF] at h0;obtain⟨rfl,rfl,rfl⟩:=h0;subst h1;subst h2
 rfl
theorem Qh:dG NR Wt:=aY MV (fun⟨_,_,_,_,_⟩ ⟨_,_,_,_,_⟩=>rfl) (fun⟨_,_,_,_,_⟩=>rfl) fun xs r h=>by
 simp only[Wt] at h;split at h
 .cases h;rename_i d0 d1 d2 i r;exact⟨(d0,d1,d2,i,r),rfl,rfl⟩
 .cases h
theorem YV {S:SC}(hB:SB S) (XJ:aN S 316 (az MN)) (h314:S.has 314 f314) (h289:S.has 289 f289):aN S 289 (az NR):=by
 refine prM hB [(314,f314)] [⟨316,MN,Wq⟩] ⟨h314,trivial⟩ ⟨⟨XJ,Su⟩,trivial⟩ h289 (fun⟨d0,d1,d2,i,r⟩=>⟨rfl,rfl,rfl⟩) (fun(d0,d1,d2,i,r)=>fun _ _ _ _=>none) 400 ?_;rintro⟨d0,d1,d2,i,r⟩ hc;have hc1:EdS d0:=hc.1;have hc2:IR r:=hc.2.1;refine VC.use (p:=(i<0->((0:Int)=if 0<=i/\i<(d0.length:Int) then gM (stA d0 i.toNat).1 r else 0)/\((2:Int)=if 0<=i/\i<(d0.length:Int) then if dz (stA d0 i.toNat).1 r=true then (0:Int) else (10:Int) else 2))/\(¬i<0->((d0.length:Int)<=i->((0:Int)=if 0<=i/\i<(d0.length:Int) then gM (stA d0 i.toNat).1 r else 0)/\((2:Int)=if 0<=i/\i<(d0.length:Int) then if dz (stA d0 i.toNat).1 r=true then (0:Int) else (10:Int) else 2))/\(¬(d0.length:Int)<=i->(0<=i/\i<(d0.length:Int))/\EdR (d0.getD i.toNat ([],false,0)).1/\IR r/\((!dz (d0.getD i.toNat ([],false,0)).1 r)=true->((0:Int)=if 0<=i/\i<(d0.length:Int) then gM (stA d0 i.toNat).1 r else 0)/\((10:Int)=if 0<=i/\i<(d0.length:Int) then if dz (stA d0 i.toNat).1 r=true then (0:Int) else (10:Int) else 2))/\(¬(!dz (d0.getD i.toNat ([],false,0)).1 r)=true->(0<=nC (d0.getD i.toNat ([],false,0)).1 r/\nC (d0.getD i.toNat ([],false,0)).1 r<(↑(List.length (d0.getD i.toNat ([],false,0)).1):Int))/\((List.getD (d0.getD i.toNat ([],false,0)).1 (nC (d0.getD i.toNat ([],false,0)).1 r).toNat (0,0)).2=if 0<=i/\i<(d0.length:Int) then gM (stA d0 i.toNat).1 r else 0)/\((0:Int)=if 0<=i/\i<(d0.length:Int) then if dz (stA d0 i.toNat).1 r=true then (0:Int) else (10:Int) else 2))))) (by kernel_rfl) ?_;refine⟨fun h=>⟨by rw[if_neg (by omega)],by rw[if_neg (by omega)]⟩,fun h=>⟨fun h2=>⟨by rw[if_neg (by omega)],by rw[if_neg (by omega)]⟩,fun h2=>?_⟩⟩;have hp:0<=i/\i<(d0.length:Int):=⟨by omega,by omega⟩;have hE:=hc1.at i.toNat;simp only[if_pos hp];unfold stA;generalize (d0.getD i.toNat ([],false,0)).1=s at hE ⊢;refine⟨hp,hE,hc2,fun h3=>?_,fun h3=>?_⟩
 .have h4:dz s r=false:=by simpa using h3
  exact⟨(TJ h4).symm,by rw[h4];rfl⟩
 .have h4:dz s r=true:=by simpa using h3
  obtain⟨g1,g2,_⟩:=Va hE h4;exact⟨g1,g2,by rw[h4];rfl⟩
end Go.EA
