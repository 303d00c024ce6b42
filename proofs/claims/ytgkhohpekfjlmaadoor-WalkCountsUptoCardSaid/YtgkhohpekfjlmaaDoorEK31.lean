/- Texts. Conditions: none. -/
import Derived.Test.YtgkhohpekfjlmaaDoorEK30
import Derived.Test.YtgkhohpekfjlmaaDoorELx2
import Derived.Test.YtgkhohpekfjlmaaDoorERu
import Derived.Test.YtgkhohpekfjlmaaDoorEAf11
import Derived.KernelRfl
import Derived.Test.YtgkhohpekfjlmaaDoorEDf
import Derived.Test.YtgkhohpekfjlmaaDoorEK23
import Derived.Test.YtgkhohpekfjlmaaDoorELx5
import Derived.Test.YtgkhohpekfjlmaaDoorEK32
set_option linter.unusedVariables false
set_option linter.unusedSimpArgs false
section
set_option maxRecDepth 100000
set_option maxHeartbeats 0
namespace Go.EA
open F
def Sm:(List ((List (Int×Int))×Bool×Int))×Int×List (Int)×List UInt8->List SV:=fun(d0,d1,d2,s)=>[.one (.vptr (.pair (.row (.pair (.row (.pair (.int .i32) (.int .i64))) (.pair .bool (.int .i64)))) (.pair (.int .i64) (.row (.int .i64)))) (d0,d1,d2) 0),.one (.str s)]
def YP:(List ((List (Int×Int))×Bool×Int))×Int×List (Int)×List UInt8->SV×List Prop:=fun(d0,d1,d2,s)=>(.tup [.o (.row (.int .i32) (tkL s)),.o (.int .i64 (tkE s))],[s.length<=1099511627776])
def Eb:Con:=⟨false,[some (.pair (.row (.pair (.row (.pair (.int .i32) (.int .i64))) (.pair .bool (.int .i64)))) (.pair (.int .i64) (.row (.int .i64)))),none],fun xs=>match xs with | [.one (.vptr (.pair (.row (.pair (.row (.pair (.int .i32) (.int .i64))) (.pair .bool (.int .i64)))) (.pair (.int .i64) (.row (.int .i64)))) (d0,d1,d2) 0),.one (.str s)]=>some (YP (d0,d1,d2,s)) | _=>none⟩
noncomputable def qy:GP:=bX Sm YP
theorem MX:∀a b,(Sm a).map aA=(Sm b).map aA->a=b:=by
 rintro⟨a0,a1,a2,a3⟩ ⟨b0,b1,b2,b3⟩ h;simp only[Sm,zK,List.map_nil,aA,aV,List.drop_zero,zG,AV.one.injEq,AV.agg.injEq,Lf.int.injEq,Lf.str.injEq,Lf.bool.injEq,Lf.vrow.injEq,Lf.vptr.injEq,and_true,true_and,and_assoc] at h;obtain⟨h0,h1⟩:=h;have h0:=Ty.enc_inj _ h0;simp only[zF] at h0;obtain⟨rfl,rfl,rfl⟩:=h0;subst h1
 rfl
theorem oM:cK qy Eb:=aS MX (fun⟨_,_,_,_⟩ ⟨_,_,_,_⟩=>rfl) (fun⟨_,_,_,_⟩=>rfl) fun xs r h=>by
 simp only[Eb] at h;split at h
 .cases h;rename_i d0 d1 d2 s;exact⟨(d0,d1,d2,s),rfl,rfl⟩
 .cases h
theorem ZP {S:SC}(hB:SB S) (q17:aF S 17 (az G17)) (h500:S.has 500 f500):aF S 500 (az qy):=by
 refine prM hB [] [⟨17,G17,K17⟩] trivial ⟨⟨q17,Eh⟩,trivial⟩ h500 (fun⟨d0,d1,d2,s⟩=>⟨rfl,rfl,rfl⟩) (fun(d0,d1,d2,s)=>fun _ _ _ _=>none) 400 ?_;rintro⟨d0,d1,d2,s⟩ hc;have hc1:s.length<=1099511627776:=hc.1;refine VC.use (p:=s.length<=1099511627776/\(bG s=0->(64<(↑(aL s).length:Int)->tkL s=[]/\5=tkE s)/\(¬64<(↑(aL s).length:Int)->aL s=tkL s/\bG s=tkE s))/\(¬bG s=0->aL s=tkL s/\bG s=tkE s)) (by kernel_rfl) ?_;refine⟨hc1,fun h=>⟨fun h2=>?_,fun h2=>?_⟩,fun h=>?_⟩
 .exact⟨(Ch h h2).1.symm,(Ch h h2).2⟩
 .exact Qz h h2
 .exact TP h
def Rh:(List ((List (Int×Int))×Bool×Int))×Int×List (Int)×Int->List SV:=fun(d0,d1,d2,i)=>[.one (.vptr (.pair (.row (.pair (.row (.pair (.int .i32) (.int .i64))) (.pair .bool (.int .i64)))) (.pair (.int .i64) (.row (.int .i64)))) (d0,d1,d2) 0),.one (.int .i64 i)]
def aal:(List ((List (Int×Int))×Bool×Int))×Int×List (Int)×Int->SV×List Prop:=fun(d0,d1,d2,i)=>(.agg [.str ((wdA d0 d2).getD i.toNat ([],0)).1,.int .i64 ((wdA d0 d2).getD i.toNat ([],0)).2],[NwD d0 d2,0<=i/\i<d2.length])
def Ti:Con:=⟨true,[some (.pair (.row (.pair (.row (.pair (.int .i32) (.int .i64))) (.pair .bool (.int .i64)))) (.pair (.int .i64) (.row (.int .i64)))),none],fun xs=>match xs with | [.one (.vptr (.pair (.row (.pair (.row (.pair (.int .i32) (.int .i64))) (.pair .bool (.int .i64)))) (.pair (.int .i64) (.row (.int .i64)))) (d0,d1,d2) 0),.one (.int .i64 i)]=>some (aal (d0,d1,d2,i)) | _=>none⟩
noncomputable def EK:GP:=bX Rh aal
theorem Om:∀a b,(Rh a).map aA=(Rh b).map aA->a=b:=by
 rintro⟨a0,a1,a2,a3⟩ ⟨b0,b1,b2,b3⟩ h;simp only[Rh,zK,List.map_nil,aA,aV,List.drop_zero,zG,AV.one.injEq,AV.agg.injEq,Lf.int.injEq,Lf.str.injEq,Lf.bool.injEq,Lf.vrow.injEq,Lf.vptr.injEq,and_true,true_and,and_assoc] at h;obtain⟨h0,h1⟩:=h;have h0:=Ty.enc_inj _ h0;simp only[zF] at h0;obtain⟨rfl,rfl,rfl⟩:=h0;subst h1
 rfl
theorem Fy:cK EK Ti:=aS Om (fun⟨_,_,_,_⟩ ⟨_,_,_,_⟩=>rfl) (fun⟨_,_,_,_⟩=>rfl) fun xs r h=>by
 simp only[Ti] at h;split at h
 .cases h;rename_i d0 d1 d2 i;exact⟨(d0,d1,d2,i),rfl,rfl⟩
 .cases h
theorem Zw {S:SC}(hB:SB S) (UW:aF S 302 (az OZ)) (h507:S.has 507 f507):aF S 507 (az EK):=by
 refine prM hB [] [⟨302,OZ,XP⟩] trivial ⟨⟨UW,QF⟩,trivial⟩ h507 (fun⟨d0,d1,d2,i⟩=>⟨rfl,rfl,rfl⟩) (fun(d0,d1,d2,i)=>fun _ _ _ _=>none) 400 ?_;rintro⟨d0,d1,d2,i⟩ hc;have hc1:NwD d0 d2:=hc.1;have hc2:0<=i/\i<d2.length:=hc.2.1;refine VC.use (p:=DwS d0/\(d2.length:Int)=(stA d0 0).2.2/\(if 0<=i/\i<(d2.length:Int) then uN d0 i else [])=((wdA d0 d2).getD i.toNat ([],0)).1/\(if 0<=i/\i<(d2.length:Int) then d2.getD i.toNat 0 else 0)=((wdA d0 d2).getD i.toNat ([],0)).2) (by kernel_rfl) ?_;have h:=hc1.p;have e:=XZ (d0:=d0) (d2:=d2) (i:=i.toNat) (by omega);rw[if_pos hc2,if_pos hc2,e,Int.toNat_of_nonneg hc2.1];exact⟨h.s,h.ct,rfl,rfl⟩
def Qh:List Int->List SV:=fun l=>[.one (.row (.int .i32) l)]
def Zd:List Int->SV×List Prop:=fun l=>(.one (.str (kw l)),[l.length<=1099511627776])
def PW:Con:=⟨true,[some (.int .i32)],fun xs=>match xs with | [.one (.row (.int .i32) l)]=>some (Zd l) | _=>none⟩
noncomputable def Dt:GP:=bX Qh Zd
theorem MB:∀a b,(Qh a).map aA=(Qh b).map aA->a=b:=by
 rintro a0 b0 h;simp only[Qh,zK,List.map_nil,aA,aV,zG,AV.one.injEq,AV.agg.injEq,Lf.int.injEq,Lf.str.injEq,Lf.bool.injEq,Lf.vrow.injEq,and_true,true_and] at h;exact cZ h
theorem FX:cK Dt PW:=aS MB (fun _ _=>rfl) (fun _=>rfl) fun xs r h=>by
 simp only[PW] at h;split at h
 .cases h;rename_i l;exact⟨l,rfl,rfl⟩
 .cases h
theorem YR {S:SC}(hB:SB S) (q33:aF S 33 (az G33)) (h506:S.has 506 f506):aF S 506 (az Dt):=by
 refine prM hB [] [⟨33,G33,K33⟩] trivial ⟨⟨q33,VX⟩,trivial⟩ h506 (fun _=>⟨rfl,rfl,rfl⟩) (fun l=>fun _ _ _ _=>none) 400 ?_;rintro l hc;have hc1:l.length<=1099511627776:=hc.1;refine VC.use (p:=l.length<=1099511627776/\kw l=kw l) (by kernel_rfl) ?_;exact⟨hc1,rfl⟩
def Ug:(List ((List (Int×Int))×Bool×Int))×Int×List (Int)×List UInt8->List SV:=fun(d0,d1,d2,s)=>[.one (.vptr (.pair (.row (.pair (.row (.pair (.int .i32) (.int .i64))) (.pair .bool (.int .i64)))) (.pair (.int .i64) (.row (.int .i64)))) (d0,d1,d2) 0),.one (.str s)]
def YW:(List ((List (Int×Int))×Bool×Int))×Int×List (Int)×List UInt8->SV×List Prop:=fun(d0,d1,d2,s)=>(.tup [.o (.int .i64 (aO (wdA d0 d2) s)),.o (.int .i64 (bV (wdA d0 d2) s))],[NwD d0 d2,s.length<=1099511627776])
def Qy:Con:=⟨true,[some (.pair (.row (.pair (.row (.pair (.int .i32) (.int .i64))) (.pair .bool (.int .i64)))) (.pair (.int .i64) (.row (.int .i64)))),none],fun xs=>match xs with | [.one (.vptr (.pair (.row (.pair (.row (.pair (.int .i32) (.int .i64))) (.pair .bool (.int .i64)))) (.pair (.int .i64) (.row (.int .i64)))) (d0,d1,d2) 0),.one (.str s)]=>some (YW (d0,d1,d2,s)) | _=>none⟩
noncomputable def Eg:GP:=bX Ug YW
theorem OJ:∀a b,(Ug a).map aA=(Ug b).map aA->a=b:=by
 rintro⟨a0,a1,a2,a3⟩ ⟨b0,b1,b2,b3⟩ h;simp only[Ug,zK,List.map_nil,aA,aV,List.drop_zero,zG,AV.one.injEq,AV.agg.injEq,Lf.int.injEq,Lf.str.injEq,Lf.bool.injEq,Lf.vrow.injEq,Lf.vptr.injEq,and_true,true_and,and_assoc] at h;obtain⟨h0,h1⟩:=h;have h0:=Ty.enc_inj _ h0;simp only[zF] at h0;obtain⟨rfl,rfl,rfl⟩:=h0;subst h1
 rfl
theorem FN:cK Eg Qy:=aS OJ (fun⟨_,_,_,_⟩ ⟨_,_,_,_⟩=>rfl) (fun⟨_,_,_,_⟩=>rfl) fun xs r h=>by
 simp only[Qy] at h;split at h
 .cases h;rename_i d0 d1 d2 s;exact⟨(d0,d1,d2,s),rfl,rfl⟩
 .cases h
theorem aaF {S:SC}(hB:SB S) (XD:aF S 284 (az NI)) (IW:aF S 507 (az EK)) (q65:aF S 65 (az G65)) (h511:S.has 511 f511) (h512:S.has 512 f512) (h513:S.has 513 f513) (h503:S.has 503 f503):aF S 503 (az Eg):=by
 refine prM hB [(511,f511),(512,f512),(513,f513)] [⟨284,NI,UU⟩,⟨507,EK,Ti⟩,⟨65,G65,K65⟩] ⟨h511,h512,h513,trivial⟩ ⟨⟨XD,TG⟩,⟨IW,Fy⟩,⟨q65,JY⟩,trivial⟩ h503 (fun⟨d0,d1,d2,s⟩=>⟨rfl,rfl,rfl⟩) (fun(d0,d1,d2,s)=>fun f id T L=>match f,id with
  |511,0=>match T.getD 1 .junk with | .one (.fn 512 _)=>some (.inv { x:Nat×Nat // x.1<=aO (wdA d0 d2) s/\aO (wdA d0 d2) s<=x.2/\x.2<=d2.length } (fun x=>([(5,.one (.int .i64 x.1.1)),(6,.one (.int .i64 x.1.2))],[])) (fun x=>x.1.2-x.1.1)) | .one (.fn 513 _)=>some (.inv { x:Nat×Nat // x.1<=bV (wdA d0 d2) s-aO (wdA d0 d2) s/\bV (wdA d0 d2) s-aO (wdA d0 d2) s<=x.2/\x.2<=d2.length-aO (wdA d0 d2) s } (fun x=>([(5,.one (.int .i64 x.1.1)),(6,.one (.int .i64 x.1.2))],[])) (fun x=>x.1.2-x.1.1)) | _=>none
  |_,_=>none) 2000 ?_
 rintro⟨d0,d1,d2,s⟩ hc;have hc1:NwD d0 d2:=hc.1;have hc2:s.length<=1099511627776:=hc.2.1;refine VC.use (p:=(∃x1:{ x:Nat×Nat // x.1<=aO (wdA d0 d2) s/\aO (wdA d0 d2) s<=x.2/\x.2<=d2.length },0=(x1.1.1:Int)/\(d2.length:Int)=(x1.1.2:Int)/\(d0,d1,d2)=(d0,d1,d2)/\s=s)/\(∀x1:{ x:Nat×Nat // x.1<=aO (wdA d0 d2) s/\aO (wdA d0 d2) s<=x.2/\x.2<=d2.length },((x1.1.1:Int)<(x1.1.2:Int)->aB ((x1.1.1:Int)+(x1.1.2:Int))/\aB ((IntKind.u64.wrap ((x1.1.1:Int)+(x1.1.2:Int))).fdiv 2)/\NwD d0 d2/\(0<=(IntKind.u64.wrap ((x1.1.1:Int)+(x1.1.2:Int))).fdiv 2/\(IntKind.u64.wrap ((x1.1.1:Int)+(x1.1.2:Int))).fdiv 2<(d2.length:Int))/\((!!aM ((wdA d0 d2).getD ((IntKind.u64.wrap ((x1.1.1:Int)+(x1.1.2:Int))).fdiv 2).toNat ([],0)).1 s)=true->aB ((IntKind.u64.wrap ((x1.1.1:Int)+(x1.1.2:Int))).fdiv 2+1)/\(∃x2:{ x:Nat×Nat // x.1<=aO (wdA d0 d2) s/\aO (wdA d0 d2) s<=x.2/\x.2<=d2.length },x2.1.2-x2.1.1<x1.1.2-x1.1.1/\(IntKind.u64.wrap ((x1.1.1:Int)+(x1.1.2:Int))).fdiv 2+1=(x2.1.1:Int)/\(x1.1.2:Int)=(x2.1.2:Int)/\(d0,d1,d2)=(d0,d1,d2)/\s=s))/\(¬(!!aM ((wdA d0 d2).getD ((IntKind.u64.wrap ((x1.1.1:Int)+(x1.1.2:Int))).fdiv 2).toNat ([],0)).1 s)=true->∃x2:{ x:Nat×Nat // x.1<=aO (wdA d0 d2) s/\aO (wdA d0 d2) s<=x.2/\x.2<=d2.length },x2.1.2-x2.1.1<x1.1.2-x1.1.1/\(x1.1.1:Int)=(x2.1.1:Int)/\(IntKind.u64.wrap ((x1.1.1:Int)+(x1.1.2:Int))).fdiv 2=(x2.1.2:Int)/\(d0,d1,d2)=(d0,d1,d2)/\s=s))/\(¬(x1.1.1:Int)<(x1.1.2:Int)->aB ((d2.length:Int)-(x1.1.1:Int))/\(∃x2:{ x:Nat×Nat // x.1<=bV (wdA d0 d2) s-aO (wdA d0 d2) s/\bV (wdA d0 d2) s-aO (wdA d0 d2) s<=x.2/\x.2<=d2.length-aO (wdA d0 d2) s },0=(x2.1.1:Int)/\(d2.length:Int)-(x1.1.1:Int)=(x2.1.2:Int)/\(d0,d1,d2)=(d0,d1,d2)/\s=s/\(x1.1.1:Int)=(x1.1.1:Int))/\(∀x2:{ x:Nat×Nat // x.1<=bV (wdA d0 d2) s-aO (wdA d0 d2) s/\bV (wdA d0 d2) s-aO (wdA d0 d2) s<=x.2/\x.2<=d2.length-aO (wdA d0 d2) s },((x2.1.1:Int)<(x2.1.2:Int)->aB ((x2.1.1:Int)+(x2.1.2:Int))/\aB ((IntKind.u64.wrap ((x2.1.1:Int)+(x2.1.2:Int))).fdiv 2)/\aB ((x1.1.1:Int)+(IntKind.u64.wrap ((x2.1.1:Int)+(x2.1.2:Int))).fdiv 2)/\NwD d0 d2/\(0<=(x1.1.1:Int)+(IntKind.u64.wrap ((x2.1.1:Int)+(x2.1.2:Int))).fdiv 2/\(x1.1.1:Int)+(IntKind.u64.wrap ((x2.1.1:Int)+(x2.1.2:Int))).fdiv 2<(d2.length:Int))/\((!!preB ((wdA d0 d2).getD ((x1.1.1:Int)+(IntKind.u64.wrap ((x2.1.1:Int)+(x2.1.2:Int))).fdiv 2).toNat ([],0)).1 s)=true->aB ((IntKind.u64.wrap ((x2.1.1:Int)+(x2.1.2:Int))).fdiv 2+1)/\(∃x3:{ x:Nat×Nat // x.1<=bV (wdA d0 d2) s-aO (wdA d0 d2) s/\bV (wdA d0 d2) s-aO (wdA d0 d2) s<=x.2/\x.2<=d2.length-aO (wdA d0 d2) s },x3.1.2-x3.1.1<x2.1.2-x2.1.1/\(IntKind.u64.wrap ((x2.1.1:Int)+(x2.1.2:Int))).fdiv 2+1=(x3.1.1:Int)/\(x2.1.2:Int)=(x3.1.2:Int)/\(d0,d1,d2)=(d0,d1,d2)/\s=s/\(x1.1.1:Int)=(x1.1.1:Int)))/\(¬(!!preB ((wdA d0 d2).getD ((x1.1.1:Int)+(IntKind.u64.wrap ((x2.1.1:Int)+(x2.1.2:Int))).fdiv 2).toNat ([],0)).1 s)=true->∃x3:{ x:Nat×Nat // x.1<=bV (wdA d0 d2) s-aO (wdA d0 d2) s/\bV (wdA d0 d2) s-aO (wdA d0 d2) s<=x.2/\x.2<=d2.length-aO (wdA d0 d2) s },x3.1.2-x3.1.1<x2.1.2-x2.1.1/\(x2.1.1:Int)=(x3.1.1:Int)/\(IntKind.u64.wrap ((x2.1.1:Int)+(x2.1.2:Int))).fdiv 2=(x3.1.2:Int)/\(d0,d1,d2)=(d0,d1,d2)/\s=s/\(x1.1.1:Int)=(x1.1.1:Int)))/\(¬(x2.1.1:Int)<(x2.1.2:Int)->aB ((x1.1.1:Int)+(x2.1.1:Int))/\(x1.1.1:Int)=(↑(aO (wdA d0 d2) s):Int)/\(x1.1.1:Int)+(x2.1.1:Int)=(↑(bV (wdA d0 d2) s):Int)))))) (by kernel_rfl) ?_;have hw:=hc1.p;have hr:jF (wdA d0 d2):=(ma.1 hw.e).2.1;have hpl:=xn (wdA d0 d2) s;obtain⟨q1,q2,q3,q4⟩:=gy (wdA d0 d2) s;rw[hw.len] at hpl q2;have hfew:=hw.few;refine⟨⟨⟨(0,d2.length),Nat.zero_le _,hpl,zJ _⟩,rfl,rfl,rfl,rfl⟩,?_⟩;rintro⟨⟨a,b⟩,h1,h2,h3⟩;dsimp only at h1 h2 h3 ⊢;rw[oo a b (by omega)];refine⟨fun h=>?_,fun h=>?_⟩
 .have hm1:(a+b) / 2<b:=by omega
  have hm2:a<=(a+b) / 2:=by omega
  generalize (a+b) / 2=m at hm1 hm2 ⊢;rw[Int.toNat_natCast];refine⟨by unfold aB;omega,by unfold aB;omega,hc1,⟨by omega,by omega⟩,fun h4=>?_,fun h4=>?_⟩
  .have h6:m<aO (wdA d0 d2) s:=by
    rcases Nat.lt_or_ge m (aO (wdA d0 d2) s) with h5 | h5
    .exact h5
    .have:=Gz hr h5 (by rw[hw.len];omega);rw[this] at h4;cases h4
   exact⟨by unfold aB;omega,⟨(m+1,b),h6,h2,h3⟩,by dsimp only;omega,by push_cast;rfl,rfl,rfl,rfl⟩
  .have h6:aO (wdA d0 d2) s<=m:=by
    rcases Nat.lt_or_ge m (aO (wdA d0 d2) s) with h5 | h5
    .have:=Fb h5;rw[this] at h4;exact absurd rfl h4
    .exact h5
   exact⟨⟨(a,m),h1,h6,by dsimp only;omega⟩,by dsimp only;omega,rfl,rfl,rfl,rfl⟩
 .obtain rfl:a=aO (wdA d0 d2) s:=by omega
  refine⟨by unfold aB;omega,⟨⟨(0,d2.length-aO (wdA d0 d2) s),Nat.zero_le _,by dsimp only;omega,zJ _⟩,rfl,by dsimp only;omega,rfl,rfl,rfl⟩,?_⟩;rintro⟨⟨a2,b2⟩,g1,g2,g3⟩;dsimp only at g1 g2 g3 ⊢;rw[oo a2 b2 (by omega)];refine⟨fun h5=>?_,fun h5=>?_⟩
  .have hm1:(a2+b2) / 2<b2:=by omega
   have hm2:a2<=(a2+b2) / 2:=by omega
   generalize (a2+b2) / 2=m at hm1 hm2 ⊢;have e:((aO (wdA d0 d2) s:Int)+(m:Int)).toNat=aO (wdA d0 d2) s+m:=by omega
   rw[e];have hlt:aO (wdA d0 d2) s+m<(wdA d0 d2).length:=by rw[hw.len];omega
   have hpi:=Gh hr (s:=s) hlt;refine⟨by unfold aB;omega,by unfold aB;omega,by unfold aB;omega,hc1,⟨by omega,by omega⟩,fun h6=>?_,fun h6=>?_⟩
   .have h7:=(hpi.1 (by simpa using h6)).2;exact⟨by unfold aB;omega,⟨(m+1,b2),by dsimp only;omega,g2,g3⟩,by dsimp only;omega,by push_cast;rfl,rfl,rfl,rfl,rfl⟩
   .have h7:¬ aO (wdA d0 d2) s+m<bV (wdA d0 d2) s:=fun h8=>h6 (by rw[hpi.2 ⟨by omega,h8⟩];rfl)
    exact⟨⟨(a2,m),g1,by dsimp only;omega,by dsimp only;omega⟩,by dsimp only;omega,rfl,rfl,rfl,rfl,rfl⟩
  .exact⟨by unfold aB;omega,rfl,by omega⟩
def TM:(List ((List (Int×Int))×Bool×Int))×Int×List (Int)×List Int->List SV:=fun(d0,d1,d2,l)=>[.one (.vptr (.pair (.row (.pair (.row (.pair (.int .i32) (.int .i64))) (.pair .bool (.int .i64)))) (.pair (.int .i64) (.row (.int .i64)))) (d0,d1,d2) 0),.one (.row (.int .i32) l)]
def ZY:(List ((List (Int×Int))×Bool×Int))×Int×List (Int)×List Int->SV×List Prop:=fun(d0,d1,d2,l)=>(.one (.row (.int .i64) (enL d0 l 0 0)),[mU d0,l.length<=1099511627776,∀r∈l,Utf8.valid r=true])
def Qx:Con:=⟨false,[some (.pair (.row (.pair (.row (.pair (.int .i32) (.int .i64))) (.pair .bool (.int .i64)))) (.pair (.int .i64) (.row (.int .i64)))),some (.int .i32)],fun xs=>match xs with | [.one (.vptr (.pair (.row (.pair (.row (.pair (.int .i32) (.int .i64))) (.pair .bool (.int .i64)))) (.pair (.int .i64) (.row (.int .i64)))) (d0,d1,d2) 0),.one (.row (.int .i32) l)]=>some (ZY (d0,d1,d2,l)) | _=>none⟩
noncomputable def De:GP:=bX TM ZY
theorem Mt:∀a b,(TM a).map aA=(TM b).map aA->a=b:=by
 rintro⟨a0,a1,a2,a3⟩ ⟨b0,b1,b2,b3⟩ h;simp only[TM,zK,List.map_nil,aA,aV,List.drop_zero,zG,AV.one.injEq,AV.agg.injEq,Lf.int.injEq,Lf.str.injEq,Lf.bool.injEq,Lf.vrow.injEq,Lf.vptr.injEq,and_true,true_and,and_assoc] at h;obtain⟨h0,h1⟩:=h;have h0:=Ty.enc_inj _ h0;simp only[zF] at h0;obtain⟨rfl,rfl,rfl⟩:=h0;obtain rfl:=cZ h1
 rfl
theorem Gq:cK De Qx:=aS Mt (fun⟨_,_,_,_⟩ ⟨_,_,_,_⟩=>rfl) (fun⟨_,_,_,_⟩=>rfl) fun xs r h=>by
 simp only[Qx] at h;split at h
 .cases h;rename_i d0 d1 d2 l;exact⟨(d0,d1,d2,l),rfl,rfl⟩
 .cases h
theorem aaw {S:SC}(hB:SB S) (Vs:aF S 286 (az Ow)) (Il:aF S 289 (az Ei)) (h501:S.has 501 f501) (h510:S.has 510 f510) (h505:S.has 505 f505):aF S 505 (az De):=by
 refine prI hB [(501,f501),(510,f510)] [⟨286,Ow,VT⟩,⟨289,Ei,Ua⟩] [] ⟨h501,h510,trivial⟩ ⟨⟨Vs,Uf⟩,⟨Il,Gg⟩,trivial⟩ trivial h505 (fun⟨d0,d1,d2,l⟩=>⟨rfl,rfl,rfl⟩) (fun(d0,d1,d2,l)=>fun f id T L=>match f,id with
  |510,0=>some (.inv { x:Nat×Nat×List Int // x.1<=l.length/\x.2.1<d0.length/\x.2.2.length<=x.1/\enL d0 l 0 0=x.2.2++enL d0 (l.drop x.1) x.2.1 x.1 } (fun x=>([(4,.one (.int .i64 x.1.2.1)),(5,.one (.int .i64 x.1.1))],[(1,.cell [.osl 5]),(5,.row (.int .i64) x.1.2.2)])) (fun x=>l.length+1-x.1.1))
  |_,_=>none) 2000 ?_
 rintro⟨d0,d1,d2,l⟩ hc;have hc1:mU d0:=hc.1;have hc2:l.length<=1099511627776:=hc.2.1;have hc3:∀r∈l,Utf8.valid r=true:=hc.2.2.1;refine VC.use (p:=(∃x1:{ x:Nat×Nat×List Int // x.1<=l.length/\x.2.1<d0.length/\x.2.2.length<=x.1/\enL d0 l 0 0=x.2.2++enL d0 (List.drop x.1 l) (x.2.1:Int) (x.1:Int) },0=(x1.1.2.1:Int)/\0=(x1.1.1:Int)/\(d0,d1,d2)=(d0,d1,d2)/\x1.1.2.2=[]/\(d0,d1,d2)=(d0,d1,d2)/\l=l/\x1.1.2.2=[])/\(∀x1:{ x:Nat×Nat×List Int // x.1<=l.length/\x.2.1<d0.length/\x.2.2.length<=x.1/\enL d0 l 0 0=x.2.2++enL d0 (List.drop x.1 l) (x.2.1:Int) (x.1:Int) },((decide (0<=(x1.1.2.1:Int)/\(x1.1.2.1:Int)<(d0.length:Int))&&(stA d0 x1.1.2.1).2.1)=true->(x1.1.2.2.length+[(x1.1.1:Int)].length)*8<=140737488355328/\((x1.1.1:Int)<(l.length:Int)->(0<=(x1.1.1:Int)/\(x1.1.1:Int)<(l.length:Int))/\EdS d0/\IR (l.getD x1.1.1 0)/\((if 0<=(x1.1.2.1:Int)/\(x1.1.2.1:Int)<(d0.length:Int) then if cB (stA d0 x1.1.2.1).1 (l.getD x1.1.1 0)=true then (0:Int) else (10:Int) else 2)=0->aB ((x1.1.1:Int)+1)/\(∃x2:{ x:Nat×Nat×List Int // x.1<=l.length/\x.2.1<d0.length/\x.2.2.length<=x.1/\enL d0 l 0 0=x.2.2++enL d0 (List.drop x.1 l) (x.2.1:Int) (x.1:Int) },l.length+1-x2.1.1<l.length+1-x1.1.1/\(if 0<=(x1.1.2.1:Int)/\(x1.1.2.1:Int)<(d0.length:Int) then fK (stA d0 x1.1.2.1).1 (l.getD x1.1.1 0) else 0)=(x2.1.2.1:Int)/\(x1.1.1:Int)+1=(x2.1.1:Int)/\(d0,d1,d2)=(d0,d1,d2)/\(d0,d1,d2)=(d0,d1,d2)/\l=l/\x1.1.2.2++[(x1.1.1:Int)]=x2.1.2.2))/\(¬(if 0<=(x1.1.2.1:Int)/\(x1.1.2.1:Int)<(d0.length:Int) then if cB (stA d0 x1.1.2.1).1 (l.getD x1.1.1 0)=true then (0:Int) else (10:Int) else 2)=0->x1.1.2.2++[(x1.1.1:Int)]=enL d0 l 0 0))/\(¬(x1.1.1:Int)<(l.length:Int)->x1.1.2.2++[(x1.1.1:Int)]=enL d0 l 0 0))/\(¬(decide (0<=(x1.1.2.1:Int)/\(x1.1.2.1:Int)<(d0.length:Int))&&(stA d0 x1.1.2.1).2.1)=true->((x1.1.1:Int)<(l.length:Int)->(0<=(x1.1.1:Int)/\(x1.1.1:Int)<(l.length:Int))/\EdS d0/\IR (l.getD x1.1.1 0)/\((if 0<=(x1.1.2.1:Int)/\(x1.1.2.1:Int)<(d0.length:Int) then if cB (stA d0 x1.1.2.1).1 (l.getD x1.1.1 0)=true then (0:Int) else (10:Int) else 2)=0->aB ((x1.1.1:Int)+1)/\(∃x2:{ x:Nat×Nat×List Int // x.1<=l.length/\x.2.1<d0.length/\x.2.2.length<=x.1/\enL d0 l 0 0=x.2.2++enL d0 (List.drop x.1 l) (x.2.1:Int) (x.1:Int) },l.length+1-x2.1.1<l.length+1-x1.1.1/\(if 0<=(x1.1.2.1:Int)/\(x1.1.2.1:Int)<(d0.length:Int) then fK (stA d0 x1.1.2.1).1 (l.getD x1.1.1 0) else 0)=(x2.1.2.1:Int)/\(x1.1.1:Int)+1=(x2.1.1:Int)/\(d0,d1,d2)=(d0,d1,d2)/\(d0,d1,d2)=(d0,d1,d2)/\l=l/\x1.1.2.2=x2.1.2.2))/\(¬(if 0<=(x1.1.2.1:Int)/\(x1.1.2.1:Int)<(d0.length:Int) then if cB (stA d0 x1.1.2.1).1 (l.getD x1.1.1 0)=true then (0:Int) else (10:Int) else 2)=0->x1.1.2.2=enL d0 l 0 0))/\(¬(x1.1.1:Int)<(l.length:Int)->x1.1.2.2=enL d0 l 0 0)))) (by kernel_rfl) ?_;have hp0:=hc1.pos;refine⟨⟨⟨(0,0,[]),Nat.zero_le _,hp0,Nat.zero_le _,rfl⟩,rfl,rfl,rfl,rfl,rfl,rfl,rfl⟩,?_⟩;rintro⟨⟨i,a,o⟩,x1,x2,x3,x4⟩;dsimp only at x1 x2 x3 x4 ⊢;have hp:0<=(a:Int)/\(a:Int)<(d0.length:Int):=⟨by omega,by omega⟩;rw[decide_eq_true hp,Bool.true_and];simp only[if_pos hp];have hun:enL d0 (l.drop i) a i=(if (stA d0 a).2.1=true then [(i:Int)] else [])++(if i<l.length/\cB (stA d0 a).1 (l.getD i 0)=true then enL d0 (l.drop (i+1)) (fK (stA d0 a).1 (l.getD i 0)) (i+1) else []):=by
  by_cases hk:i<l.length
  .rw[fF hk];show (if (stA d0 (a:Int).toNat).2.1=true then [(i:Int)] else [])++(if cB (stA d0 (a:Int).toNat).1 (l.getD i 0)=true then enL d0 (l.drop (i+1)) (fK (stA d0 (a:Int).toNat).1 (l.getD i 0)) (i+1) else [])=_;rw[Int.toNat_natCast];by_cases hn:cB (stA d0 a).1 (l.getD i 0)=true
   .rw[if_pos hn,if_pos (show i<l.length/\cB (stA d0 a).1 (l.getD i 0)=true from⟨hk,hn⟩)]
   .rw[if_neg hn,if_neg (fun h:i<l.length/\cB (stA d0 a).1 (l.getD i 0)=true=>hn h.2)]
  .rw[List.drop_of_length_le (by omega),if_neg (fun h:i<l.length/\cB (stA d0 a).1 (l.getD i 0)=true=>hk h.1),List.append_nil];show (if (stA d0 (a:Int).toNat).2.1=true then [(i:Int)] else [])=_;rw[Int.toNat_natCast]
 rw[hun] at x4;refine⟨fun he=>⟨by simp only[zN];omega,?_⟩,fun he=>?_⟩
 .rw[if_pos he,<- zO] at x4;have x6:(o++[(i:Int)]).length<=i+1:=by rw[zL,zN];omega
  generalize o++[(i:Int)]=p at x4 x6 ⊢;refine⟨fun h=>?_,fun h=>?_⟩
  .have hk:i<l.length:=by omega
   have hv:Utf8.valid (l.getD i 0)=true:=hc3 _ (eT hk);have hIR:IR (l.getD i 0):=by have:=bv.1 hv;unfold IR;omega
   refine⟨⟨by omega,h⟩,hc1.eds,hIR,fun h2=>?_,fun h2=>?_⟩
   .have hn:cB (stA d0 a).1 (l.getD i 0)=true:=by
     by_cases hn:cB (stA d0 a).1 (l.getD i 0)=true
     .exact hn
     .rw[if_neg hn] at h2;cases h2
    rw[if_pos ⟨hk,hn⟩] at x4;have hto:=hc1.to a x2 _ (lC hn);dsimp only at hto;refine⟨by unfold aB;omega,⟨(i+1,(fK (stA d0 a).1 (l.getD i 0)).toNat,p),hk,by dsimp only;omega,x6,?_⟩,by dsimp only;omega,by dsimp only;omega,by push_cast;rfl,trivial,trivial,trivial,rfl⟩;dsimp only;rw[x4,Int.toNat_of_nonneg hto.1];push_cast;rfl
   .rw[if_neg (fun h3=>h2 (by rw[if_pos h3.2])),List.append_nil] at x4;exact x4.symm
  .rw[if_neg (fun h3=>h (by omega)),List.append_nil] at x4;exact x4.symm
 .rw[if_neg he,List.nil_append] at x4;have x6:o.length<=i+1:=by omega
  refine⟨fun h=>?_,fun h=>?_⟩
  .have hk:i<l.length:=by omega
   have hv:Utf8.valid (l.getD i 0)=true:=hc3 _ (eT hk);have hIR:IR (l.getD i 0):=by have:=bv.1 hv;unfold IR;omega
   refine⟨⟨by omega,h⟩,hc1.eds,hIR,fun h2=>?_,fun h2=>?_⟩
   .have hn:cB (stA d0 a).1 (l.getD i 0)=true:=by
     by_cases hn:cB (stA d0 a).1 (l.getD i 0)=true
     .exact hn
     .rw[if_neg hn] at h2;cases h2
    rw[if_pos ⟨hk,hn⟩] at x4;have hto:=hc1.to a x2 _ (lC hn);dsimp only at hto;refine⟨by unfold aB;omega,⟨(i+1,(fK (stA d0 a).1 (l.getD i 0)).toNat,o),hk,by dsimp only;omega,x6,?_⟩,by dsimp only;omega,by dsimp only;omega,by push_cast;rfl,trivial,trivial,trivial,rfl⟩;dsimp only;rw[x4,Int.toNat_of_nonneg hto.1];push_cast;rfl
   .rw[if_neg (fun h3=>h2 (by rw[if_pos h3.2])),List.append_nil] at x4;exact x4.symm
  .rw[if_neg (fun h3=>h (by omega)),List.append_nil] at x4;exact x4.symm
end Go.EA
end
section
set_option maxRecDepth 100000
set_option maxHeartbeats 0
namespace Go.EA
open F
def SI:(List ((List (Int×Int))×Bool×Int))×Int×List (Int)×List UInt8->List SV:=fun(d0,d1,d2,s)=>[.one (.vptr (.pair (.row (.pair (.row (.pair (.int .i32) (.int .i64))) (.pair .bool (.int .i64)))) (.pair (.int .i64) (.row (.int .i64)))) (d0,d1,d2) 0),.one (.str s)]
def ZQ:(List ((List (Int×Int))×Bool×Int))×Int×List (Int)×List UInt8->SV×List Prop:=fun(d0,d1,d2,s)=>(.tup [.o (.int .i64 (stE d0 s).1),.o (.int .i64 (stE d0 s).2)],[mU d0,s.length<=1099511627776])
def XF:Con:=⟨true,[some (.pair (.row (.pair (.row (.pair (.int .i32) (.int .i64))) (.pair .bool (.int .i64)))) (.pair (.int .i64) (.row (.int .i64)))),none],fun xs=>match xs with | [.one (.vptr (.pair (.row (.pair (.row (.pair (.int .i32) (.int .i64))) (.pair .bool (.int .i64)))) (.pair (.int .i64) (.row (.int .i64)))) (d0,d1,d2) 0),.one (.str s)]=>some (ZQ (d0,d1,d2,s)) | _=>none⟩
noncomputable def Ng:GP:=bX SI ZQ
theorem LG:∀a b,(SI a).map aA=(SI b).map aA->a=b:=by
 rintro⟨a0,a1,a2,a3⟩ ⟨b0,b1,b2,b3⟩ h;simp only[SI,zK,List.map_nil,aA,aV,List.drop_zero,zG,AV.one.injEq,AV.agg.injEq,Lf.int.injEq,Lf.str.injEq,Lf.bool.injEq,Lf.vrow.injEq,Lf.vptr.injEq,and_true,true_and,and_assoc] at h;obtain⟨h0,h1⟩:=h;have h0:=Ty.enc_inj _ h0;simp only[zF] at h0;obtain⟨rfl,rfl,rfl⟩:=h0;subst h1
 rfl
theorem Qu:cK Ng XF:=aS LG (fun⟨_,_,_,_⟩ ⟨_,_,_,_⟩=>rfl) (fun⟨_,_,_,_⟩=>rfl) fun xs r h=>by
 simp only[XF] at h;split at h
 .cases h;rename_i d0 d1 d2 s;exact⟨(d0,d1,d2,s),rfl,rfl⟩
 .cases h
theorem Zy {S:SC}(hB:SB S) (Il:aF S 289 (az Ei)) (nD:aF S 500 (az qy)) (h501:S.has 501 f501) (h510:S.has 510 f510) (h489:S.has 489 f489):aF S 489 (az Ng):=by
 refine prM hB [(501,f501),(510,f510)] [⟨289,Ei,Ua⟩,⟨500,qy,Eb⟩] ⟨h501,h510,trivial⟩ ⟨⟨Il,Gg⟩,⟨nD,oM⟩,trivial⟩ h489 (fun⟨d0,d1,d2,s⟩=>⟨rfl,rfl,rfl⟩) (fun(d0,d1,d2,s)=>fun f id T L=>match f,id with
  |510,0=>some (.inv { x:Nat×Nat // x.1<=(tkL s).length/\x.2<d0.length/\wlk d0 (tkL s) 0=wlk d0 ((tkL s).drop x.1) x.2 } (fun x=>([(4,.one (.int .i64 x.1.2)),(5,.one (.int .i64 x.1.1))],[])) (fun x=>(tkL s).length+1-x.1.1))
  |_,_=>none) 2000 ?_
 rintro⟨d0,d1,d2,s⟩ hc;have hc1:mU d0:=hc.1;have hc2:s.length<=1099511627776:=hc.2.1;refine VC.use (p:=s.length<=1099511627776/\(tkE s=0->(∃x1:{ x:Nat×Nat // x.1<=(tkL s).length/\x.2<d0.length/\wlk d0 (tkL s) 0=wlk d0 (List.drop x.1 (tkL s)) (x.2:Int) },0=(x1.1.2:Int)/\0=(x1.1.1:Int)/\(0:Int)=(0:Int)/\(0:Int)=(0:Int)/\tkL s=tkL s/\(d0,d1,d2)=(d0,d1,d2)/\tkL s=tkL s)/\(∀x1:{ x:Nat×Nat // x.1<=(tkL s).length/\x.2<d0.length/\wlk d0 (tkL s) 0=wlk d0 (List.drop x.1 (tkL s)) (x.2:Int) },((x1.1.1:Int)=(↑(tkL s).length:Int)->(x1.1.2:Int)=(stE d0 s).1/\0=(stE d0 s).2)/\(¬(x1.1.1:Int)=(↑(tkL s).length:Int)->((x1.1.1:Int)<(↑(tkL s).length:Int)->(0<=(x1.1.1:Int)/\(x1.1.1:Int)<(↑(tkL s).length:Int))/\EdS d0/\IR ((tkL s).getD x1.1.1 0)/\((if 0<=(x1.1.2:Int)/\(x1.1.2:Int)<(d0.length:Int) then if cB (stA d0 x1.1.2).1 ((tkL s).getD x1.1.1 0)=true then (0:Int) else (10:Int) else 2)=0->aB ((x1.1.1:Int)+1)/\(∃x2:{ x:Nat×Nat // x.1<=(tkL s).length/\x.2<d0.length/\wlk d0 (tkL s) 0=wlk d0 (List.drop x.1 (tkL s)) (x.2:Int) },(tkL s).length+1-x2.1.1<(tkL s).length+1-x1.1.1/\(if 0<=(x1.1.2:Int)/\(x1.1.2:Int)<(d0.length:Int) then fK (stA d0 x1.1.2).1 ((tkL s).getD x1.1.1 0) else 0)=(x2.1.2:Int)/\(x1.1.1:Int)+1=(x2.1.1:Int)/\(0:Int)=(0:Int)/\(0:Int)=(0:Int)/\tkL s=tkL s/\(d0,d1,d2)=(d0,d1,d2)/\tkL s=tkL s))/\(¬(if 0<=(x1.1.2:Int)/\(x1.1.2:Int)<(d0.length:Int) then if cB (stA d0 x1.1.2).1 ((tkL s).getD x1.1.1 0)=true then (0:Int) else (10:Int) else 2)=0->0=(stE d0 s).1/\10=(stE d0 s).2))/\(¬(x1.1.1:Int)<(↑(tkL s).length:Int)->0=(stE d0 s).1/\10=(stE d0 s).2))))/\(¬tkE s=0->0=(stE d0 s).1/\tkE s=(stE d0 s).2)) (by kernel_rfl) ?_;have hp0:=hc1.pos;refine⟨hc2,fun ht=>⟨⟨⟨(0,0),Nat.zero_le _,hp0,rfl⟩,rfl,rfl,rfl,rfl,rfl,rfl,rfl⟩,?_⟩,fun ht=>?_⟩
 .obtain⟨t1,t2,t3⟩:=xh ht;have hval:∀r∈tkL s,Utf8.valid r=true:=by rw[t3];exact pq t1
  have hlen:(tkL s).length<=64:=by rw[t3];exact t2
  have hE:stE d0 s=if (wlk d0 (tkL s) 0).2=true then ((wlk d0 (tkL s) 0).1,0) else (0,10):=by unfold stE;rw[if_pos ht]
  rintro⟨⟨i,a⟩,x1,x2,x3⟩;dsimp only at x1 x2 x3 ⊢;rw[hE];clear t3 hE;generalize tkL s=l at hval hlen x1 x3 ⊢;have hp:0<=(a:Int)/\(a:Int)<(d0.length:Int):=⟨by omega,by omega⟩;simp only[if_pos hp];refine⟨fun h=>?_,fun h=>⟨fun h2=>?_,fun h2=>absurd (show (i:Int)=(l.length:Int) by omega) h⟩⟩
  .rw[List.drop_of_length_le (by omega)] at x3;have x3:wlk d0 l 0=((a:Int),true):=x3;rw[x3,if_pos rfl];exact⟨rfl,rfl⟩
  .have hk:i<l.length:=by omega
   have hv:Utf8.valid (l.getD i 0)=true:=hval _ (eT hk);have hIR:IR (l.getD i 0):=by have:=bv.1 hv;unfold IR;omega
   rw[fF hk] at x3;have x3:wlk d0 l 0=if cB (stA d0 (a:Int).toNat).1 (l.getD i 0)=true then wlk d0 (l.drop (i+1)) (fK (stA d0 (a:Int).toNat).1 (l.getD i 0)) else (0,false):=x3
   rw[Int.toNat_natCast] at x3;refine⟨⟨by omega,h2⟩,hc1.eds,hIR,fun h3=>?_,fun h3=>?_⟩
   .have hn:cB (stA d0 a).1 (l.getD i 0)=true:=by
     by_cases hn:cB (stA d0 a).1 (l.getD i 0)=true
     .exact hn
     .rw[if_neg hn] at h3;cases h3
    rw[if_pos hn] at x3;have hto:=hc1.to a x2 _ (lC hn);dsimp only at hto;refine⟨by unfold aB;omega,⟨(i+1,(fK (stA d0 a).1 (l.getD i 0)).toNat),hk,by dsimp only;omega,?_⟩,by dsimp only;omega,by dsimp only;omega,by push_cast;rfl,trivial,trivial,trivial,trivial,trivial⟩;dsimp only;rw[x3,Int.toNat_of_nonneg hto.1]
   .have hn:¬ cB (stA d0 a).1 (l.getD i 0)=true:=fun hn=>h3 (by rw[if_pos hn])
    rw[if_neg hn] at x3;rw[x3];exact⟨rfl,rfl⟩
 .unfold stE;rw[if_neg ht];exact⟨rfl,rfl⟩
def SY:(List ((List (Int×Int))×Bool×Int))×Int×List (Int)×List UInt8->List SV:=fun(d0,d1,d2,s)=>[.one (.vptr (.pair (.row (.pair (.row (.pair (.int .i32) (.int .i64))) (.pair .bool (.int .i64)))) (.pair (.int .i64) (.row (.int .i64)))) (d0,d1,d2) 0),.one (.str s)]
def YC:(List ((List (Int×Int))×Bool×Int))×Int×List (Int)×List UInt8->SV×List Prop:=fun(d0,d1,d2,s)=>(.tup [.o (.int .i64 (coE (wdA d0 d2) s).1),.o (.int .i64 (coE (wdA d0 d2) s).2)],[NwD d0 d2,s.length<=1099511627776])
def Vl:Con:=⟨true,[some (.pair (.row (.pair (.row (.pair (.int .i32) (.int .i64))) (.pair .bool (.int .i64)))) (.pair (.int .i64) (.row (.int .i64)))),none],fun xs=>match xs with | [.one (.vptr (.pair (.row (.pair (.row (.pair (.int .i32) (.int .i64))) (.pair .bool (.int .i64)))) (.pair (.int .i64) (.row (.int .i64)))) (d0,d1,d2) 0),.one (.str s)]=>some (YC (d0,d1,d2,s)) | _=>none⟩
noncomputable def NU:GP:=bX SY YC
theorem MP:∀a b,(SY a).map aA=(SY b).map aA->a=b:=by
 rintro⟨a0,a1,a2,a3⟩ ⟨b0,b1,b2,b3⟩ h;simp only[SY,zK,List.map_nil,aA,aV,List.drop_zero,zG,AV.one.injEq,AV.agg.injEq,Lf.int.injEq,Lf.str.injEq,Lf.bool.injEq,Lf.vrow.injEq,Lf.vptr.injEq,and_true,true_and,and_assoc] at h;obtain⟨h0,h1⟩:=h;have h0:=Ty.enc_inj _ h0;simp only[zF] at h0;obtain⟨rfl,rfl,rfl⟩:=h0;subst h1
 rfl
theorem PT:cK NU Vl:=aS MP (fun⟨_,_,_,_⟩ ⟨_,_,_,_⟩=>rfl) (fun⟨_,_,_,_⟩=>rfl) fun xs r h=>by
 simp only[Vl] at h;split at h
 .cases h;rename_i d0 d1 d2 s;exact⟨(d0,d1,d2,s),rfl,rfl⟩
 .cases h
theorem aaG {S:SC}(hB:SB S) (nD:aF S 500 (az qy)) (Hl:aF S 503 (az Eg)) (h491:S.has 491 f491):aF S 491 (az NU):=by
 refine prM hB [] [⟨500,qy,Eb⟩,⟨503,Eg,Qy⟩] trivial ⟨⟨nD,oM⟩,⟨Hl,FN⟩,trivial⟩ h491 (fun⟨d0,d1,d2,s⟩=>⟨rfl,rfl,rfl⟩) (fun(d0,d1,d2,s)=>fun _ _ _ _=>none) 400 ?_;rintro⟨d0,d1,d2,s⟩ hc;have hc1:NwD d0 d2:=hc.1;have hc2:s.length<=1099511627776:=hc.2.1;refine VC.use (p:=s.length<=1099511627776/\(tkE s=0->NwD d0 d2/\s.length<=1099511627776/\aB ((↑(bV (wdA d0 d2) s):Int)-(↑(aO (wdA d0 d2) s):Int))/\(↑(bV (wdA d0 d2) s):Int)-(↑(aO (wdA d0 d2) s):Int)=(coE (wdA d0 d2) s).1/\0=(coE (wdA d0 d2) s).2)/\(¬tkE s=0->0=(coE (wdA d0 d2) s).1/\tkE s=(coE (wdA d0 d2) s).2)) (by kernel_rfl) ?_;refine⟨hc2,fun ht=>?_,fun ht=>?_⟩
 .have hw:=hc1.p;obtain⟨q1,q2,_,_⟩:=gy (wdA d0 d2) s;have h1:=hw.few;have h2:=hw.len;unfold coE;rw[if_pos ht];exact⟨hc1,hc2,by unfold aB;omega,rfl,rfl⟩
 .unfold coE;rw[if_neg ht];exact⟨rfl,rfl⟩
def PH:(List ((List (Int×Int))×Bool×Int))×Int×List (Int)×List UInt8->List SV:=fun(d0,d1,d2,s)=>[.one (.vptr (.pair (.row (.pair (.row (.pair (.int .i32) (.int .i64))) (.pair .bool (.int .i64)))) (.pair (.int .i64) (.row (.int .i64)))) (d0,d1,d2) 0),.one (.str s)]
def YU:(List ((List (Int×Int))×Bool×Int))×Int×List (Int)×List UInt8->SV×List Prop:=fun(d0,d1,d2,s)=>(.tup [.o (.str (loE d0 s).1),.o (.int .i64 (loE d0 s).2)],[mU d0,s.length<=1099511627776])
def XH:Con:=⟨true,[some (.pair (.row (.pair (.row (.pair (.int .i32) (.int .i64))) (.pair .bool (.int .i64)))) (.pair (.int .i64) (.row (.int .i64)))),none],fun xs=>match xs with | [.one (.vptr (.pair (.row (.pair (.row (.pair (.int .i32) (.int .i64))) (.pair .bool (.int .i64)))) (.pair (.int .i64) (.row (.int .i64)))) (d0,d1,d2) 0),.one (.str s)]=>some (YU (d0,d1,d2,s)) | _=>none⟩
noncomputable def OE:GP:=bX PH YU
theorem OC:∀a b,(PH a).map aA=(PH b).map aA->a=b:=by
 rintro⟨a0,a1,a2,a3⟩ ⟨b0,b1,b2,b3⟩ h;simp only[PH,zK,List.map_nil,aA,aV,List.drop_zero,zG,AV.one.injEq,AV.agg.injEq,Lf.int.injEq,Lf.str.injEq,Lf.bool.injEq,Lf.vrow.injEq,Lf.vptr.injEq,and_true,true_and,and_assoc] at h;obtain⟨h0,h1⟩:=h;have h0:=Ty.enc_inj _ h0;simp only[zF] at h0;obtain⟨rfl,rfl,rfl⟩:=h0;subst h1
 rfl
theorem TA:cK OE XH:=aS OC (fun⟨_,_,_,_⟩ ⟨_,_,_,_⟩=>rfl) (fun⟨_,_,_,_⟩=>rfl) fun xs r h=>by
 simp only[XH] at h;split at h
 .cases h;rename_i d0 d1 d2 s;exact⟨(d0,d1,d2,s),rfl,rfl⟩
 .cases h
theorem Zv {S:SC}(hB:SB S) (nD:aF S 500 (az qy)) (Jd:aF S 505 (az De)) (IM:aF S 506 (az Dt)) (h493:S.has 493 f493):aF S 493 (az OE):=by
 refine prM hB [] [⟨500,qy,Eb⟩,⟨505,De,Qx⟩,⟨506,Dt,PW⟩] trivial ⟨⟨nD,oM⟩,⟨Jd,Gq⟩,⟨IM,FX⟩,trivial⟩ h493 (fun⟨d0,d1,d2,s⟩=>⟨rfl,rfl,rfl⟩) (fun(d0,d1,d2,s)=>fun _ _ _ _=>none) 400 ?_;rintro⟨d0,d1,d2,s⟩ hc;have hc1:mU d0:=hc.1;have hc2:s.length<=1099511627776:=hc.2.1;refine VC.use (p:=s.length<=1099511627776/\(tkE s=0->mU d0/\(tkL s).length<=1099511627776/\(∀(r:Int),r∈tkL s->Utf8.valid r=true)/\((↑(enL d0 (tkL s) 0 0).length:Int)=0->[]=(loE d0 s).1/\10=(loE d0 s).2)/\(¬(↑(enL d0 (tkL s) 0 0).length:Int)=0->aB ((↑(enL d0 (tkL s) 0 0).length:Int)-1)/\(0<=(↑(enL d0 (tkL s) 0 0).length:Int)-1/\(↑(enL d0 (tkL s) 0 0).length:Int)-1<(↑(enL d0 (tkL s) 0 0).length:Int))/\(0<=(enL d0 (tkL s) 0 0).getD ((↑(enL d0 (tkL s) 0 0).length:Int)-1).toNat 0/\(enL d0 (tkL s) 0 0).getD ((↑(enL d0 (tkL s) 0 0).length:Int)-1).toNat 0<=(↑(tkL s).length:Int))/\(aC (tkL s) none (some ((enL d0 (tkL s) 0 0).getD ((↑(enL d0 (tkL s) 0 0).length:Int)-1).toNat 0))).length<=1099511627776/\kw (aC (tkL s) none (some ((enL d0 (tkL s) 0 0).getD ((↑(enL d0 (tkL s) 0 0).length:Int)-1).toNat 0)))=(loE d0 s).1/\0=(loE d0 s).2))/\(¬tkE s=0->[]=(loE d0 s).1/\tkE s=(loE d0 s).2)) (by kernel_rfl) ?_;refine⟨hc2,fun ht=>?_,fun ht=>?_⟩
 .obtain⟨t1,t2,t3⟩:=xh ht;have hval:∀r∈tkL s,Utf8.valid r=true:=by rw[t3];exact pq t1
  have hlen:(tkL s).length<=64:=by rw[t3];exact t2
  have hel:=xB d0 (tkL s) 0 0;refine⟨hc1,by omega,hval,fun h=>?_,fun h=>?_⟩
  .unfold loE;rw[if_pos ht,if_pos (by omega)];exact⟨rfl,rfl⟩
  .have e:(((enL d0 (tkL s) 0 0).length:Int)-1).toNat=(enL d0 (tkL s) 0 0).length-1:=by omega
   have hm:(enL d0 (tkL s) 0 0).getD ((enL d0 (tkL s) 0 0).length-1) 0∈enL d0 (tkL s) 0 0:=eT (by omega);have hb:=xz d0 (tkL s) 0 0 _ hm;have hE:loE d0 s=(kw ((tkL s).take ((enL d0 (tkL s) 0 0).getD ((enL d0 (tkL s) 0 0).length-1) 0).toNat),0):=by
    unfold loE;rw[if_pos ht,if_neg (by omega)]
   rw[e,hE];have hcut:aC (tkL s) none (some ((enL d0 (tkL s) 0 0).getD ((enL d0 (tkL s) 0 0).length-1) 0))=(tkL s).take ((enL d0 (tkL s) 0 0).getD ((enL d0 (tkL s) 0 0).length-1) 0).toNat:=rfl;rw[hcut];exact⟨by unfold aB;omega,⟨by omega,by omega⟩,⟨by omega,by omega⟩,by rw[zP];omega,rfl,rfl⟩
 .unfold loE;rw[if_neg ht];exact⟨rfl,rfl⟩
def Sb:(List ((List (Int×Int))×Bool×Int))×Int×List (Int)×List UInt8×Int->List SV:=fun(d0,d1,d2,s,k)=>[.one (.vptr (.pair (.row (.pair (.row (.pair (.int .i32) (.int .i64))) (.pair .bool (.int .i64)))) (.pair (.int .i64) (.row (.int .i64)))) (d0,d1,d2) 0),.one (.str s),.one (.int .i64 k)]
def Zk:(List ((List (Int×Int))×Bool×Int))×Int×List (Int)×List UInt8×Int->SV×List Prop:=fun(d0,d1,d2,s,k)=>(.tup [.o (.row WdT (cmE (wdA d0 d2) s k).1),.o (.int .i64 (cmE (wdA d0 d2) s k).2)],[NwD d0 d2,s.length<=1099511627776])
def Yc:Con:=⟨false,[some (.pair (.row (.pair (.row (.pair (.int .i32) (.int .i64))) (.pair .bool (.int .i64)))) (.pair (.int .i64) (.row (.int .i64)))),none,none],fun xs=>match xs with | [.one (.vptr (.pair (.row (.pair (.row (.pair (.int .i32) (.int .i64))) (.pair .bool (.int .i64)))) (.pair (.int .i64) (.row (.int .i64)))) (d0,d1,d2) 0),.one (.str s),.one (.int .i64 k)]=>some (Zk (d0,d1,d2,s,k)) | _=>none⟩
noncomputable def NK:GP:=bX Sb Zk
theorem Ka:∀a b,(Sb a).map aA=(Sb b).map aA->a=b:=by
 rintro⟨a0,a1,a2,a3,a4⟩ ⟨b0,b1,b2,b3,b4⟩ h;simp only[Sb,zK,List.map_nil,aA,aV,List.drop_zero,zG,AV.one.injEq,AV.agg.injEq,Lf.int.injEq,Lf.str.injEq,Lf.bool.injEq,Lf.vrow.injEq,Lf.vptr.injEq,and_true,true_and,and_assoc] at h;obtain⟨h0,h1,h2⟩:=h;have h0:=Ty.enc_inj _ h0;simp only[zF] at h0;obtain⟨rfl,rfl,rfl⟩:=h0;subst h1;subst h2
 rfl
theorem QV:cK NK Yc:=aS Ka (fun⟨_,_,_,_,_⟩ ⟨_,_,_,_,_⟩=>rfl) (fun⟨_,_,_,_,_⟩=>rfl) fun xs r h=>by
 simp only[Yc] at h;split at h
 .cases h;rename_i d0 d1 d2 s k;exact⟨(d0,d1,d2,s,k),rfl,rfl⟩
 .cases h
theorem YI {S:SC}(hB:SB S) (nD:aF S 500 (az qy)) (Hl:aF S 503 (az Eg)) (IW:aF S 507 (az EK)) (h495:S.has 495 f495):aF S 495 (az NK):=by
 refine prI hB [] [⟨500,qy,Eb⟩,⟨503,Eg,Qy⟩,⟨507,EK,Ti⟩] [] trivial ⟨⟨nD,oM⟩,⟨Hl,FN⟩,⟨IW,Fy⟩,trivial⟩ trivial h495 (fun⟨d0,d1,d2,s,k⟩=>⟨rfl,rfl,rfl⟩) (fun(d0,d1,d2,s,k)=>fun f id T L=>match f,id with
  |495,0=>some (.inv { x:Nat // x<=cmN (wdA d0 d2) s k } (fun x=>([(12,.one (.int .i64 ((aO (wdA d0 d2) s:Int)+(x.1:Int)))),(6,.one (.osl 0))],[(0,.row WdT (((wdA d0 d2).drop (aO (wdA d0 d2) s)).take x.1))])) (fun x=>cmN (wdA d0 d2) s k-x.1))
  |_,_=>none) 2000 ?_
 rintro⟨d0,d1,d2,s,k⟩ hc;have hc1:NwD d0 d2:=hc.1;have hc2:s.length<=1099511627776:=hc.2.1;refine VC.use (p:=s.length<=1099511627776/\(tkE s=0->(k<0->[]=(cmE (wdA d0 d2) s k).1/\2=(cmE (wdA d0 d2) s k).2)/\(¬k<0->(1000<k->[]=(cmE (wdA d0 d2) s k).1/\2=(cmE (wdA d0 d2) s k).2)/\(¬1000<k->NwD d0 d2/\s.length<=1099511627776/\(∃x1:{ x:Nat // x<=cmN (wdA d0 d2) s k },(d0,d1,d2)=(d0,d1,d2)/\k=k/\List.take x1.1 (List.drop (aO (wdA d0 d2) s) (wdA d0 d2))=[]/\(↑(aO (wdA d0 d2) s):Int)=(↑(aO (wdA d0 d2) s):Int)/\(↑(bV (wdA d0 d2) s):Int)=(↑(bV (wdA d0 d2) s):Int)/\(↑(aO (wdA d0 d2) s):Int)=(↑(aO (wdA d0 d2) s):Int)+(x1.1:Int)/\List.take x1.1 (List.drop (aO (wdA d0 d2) s) (wdA d0 d2))=[])/\(∀x1:{ x:Nat // x<=cmN (wdA d0 d2) s k },aB ((↑(aO (wdA d0 d2) s):Int)+k)/\((↑(aO (wdA d0 d2) s):Int)+(x1.1:Int)<(if (↑(aO (wdA d0 d2) s):Int)+k<(↑(bV (wdA d0 d2) s):Int) then (↑(aO (wdA d0 d2) s):Int)+k else (↑(bV (wdA d0 d2) s):Int))->NwD d0 d2/\(0<=(↑(aO (wdA d0 d2) s):Int)+(x1.1:Int)/\(↑(aO (wdA d0 d2) s):Int)+(x1.1:Int)<(d2.length:Int))/\((List.take x1.1 (List.drop (aO (wdA d0 d2) s) (wdA d0 d2))).length+[(((wdA d0 d2).getD ((↑(aO (wdA d0 d2) s):Int)+(x1.1:Int)).toNat ([],0)).1,((wdA d0 d2).getD ((↑(aO (wdA d0 d2) s):Int)+(x1.1:Int)).toNat ([],0)).2)].length)*24<=140737488355328/\aB ((↑(aO (wdA d0 d2) s):Int)+(x1.1:Int)+1)/\(∃x2:{ x:Nat // x<=cmN (wdA d0 d2) s k },cmN (wdA d0 d2) s k-x2.1<cmN (wdA d0 d2) s k-x1.1/\(d0,d1,d2)=(d0,d1,d2)/\k=k/\(↑(aO (wdA d0 d2) s):Int)=(↑(aO (wdA d0 d2) s):Int)/\(↑(bV (wdA d0 d2) s):Int)=(↑(bV (wdA d0 d2) s):Int)/\(↑(aO (wdA d0 d2) s):Int)+(x1.1:Int)+1=(↑(aO (wdA d0 d2) s):Int)+(x2.1:Int)/\List.take x1.1 (List.drop (aO (wdA d0 d2) s) (wdA d0 d2))++[(((wdA d0 d2).getD ((↑(aO (wdA d0 d2) s):Int)+(x1.1:Int)).toNat ([],0)).1,((wdA d0 d2).getD ((↑(aO (wdA d0 d2) s):Int)+(x1.1:Int)).toNat ([],0)).2)]=List.take x2.1 (List.drop (aO (wdA d0 d2) s) (wdA d0 d2))))/\(¬(↑(aO (wdA d0 d2) s):Int)+(x1.1:Int)<(if (↑(aO (wdA d0 d2) s):Int)+k<(↑(bV (wdA d0 d2) s):Int) then (↑(aO (wdA d0 d2) s):Int)+k else (↑(bV (wdA d0 d2) s):Int))->List.take x1.1 (List.drop (aO (wdA d0 d2) s) (wdA d0 d2))=(cmE (wdA d0 d2) s k).1/\0=(cmE (wdA d0 d2) s k).2)))))/\(¬tkE s=0->[]=(cmE (wdA d0 d2) s k).1/\tkE s=(cmE (wdA d0 d2) s k).2)) (by kernel_rfl) ?_;have hw:=hc1.p;obtain⟨q1,q2,_,_⟩:=gy (wdA d0 d2) s;have hl:=hw.len;have hf:=hw.few;refine⟨hc2,fun ht=>⟨fun h=>?_,fun h=>⟨fun h2=>?_,fun h2=>⟨hc1,hc2,⟨⟨0,Nat.zero_le _⟩,rfl,rfl,rfl,rfl,rfl,by simp,rfl⟩,?_⟩⟩⟩,fun ht=>?_⟩
 .unfold cmE;rw[if_pos ht,if_neg (by omega)];exact⟨rfl,rfl⟩
 .unfold cmE;rw[if_pos ht,if_neg (by omega)];exact⟨rfl,rfl⟩
 .rintro⟨x,hx⟩;dsimp only;have hN:cmN (wdA d0 d2) s k=min (bV (wdA d0 d2) s) (aO (wdA d0 d2) s+k.toNat)-aO (wdA d0 d2) s:=rfl;have hE:cmE (wdA d0 d2) s k=(((wdA d0 d2).drop (aO (wdA d0 d2) s)).take (cmN (wdA d0 d2) s k),0):=by
   unfold cmE;rw[if_pos ht,if_pos ⟨by omega,by omega⟩]
  rw[hE];generalize cmN (wdA d0 d2) s k=N at hx hN ⊢;generalize aO (wdA d0 d2) s=P at q1 hN ⊢;generalize bV (wdA d0 d2) s=E at q1 q2 hN ⊢;have hif:(if (P:Int)+k<(E:Int) then (P:Int)+k else (E:Int))=(P:Int)+(N:Int):=by split <;> omega
  rw[hif];refine⟨by unfold aB;omega,fun h3=>?_,fun h3=>?_⟩
  .have hlt:x<N:=by omega
   have e:((P:Int)+(x:Int)).toNat=P+x:=by omega
   have hd:(List.drop P (wdA d0 d2)).getD x ([],0)=(wdA d0 d2).getD (P+x) ([],0):=by
    rw[zA,zA,List.getElem?_drop]
   rw[e];refine⟨hc1,⟨by omega,by omega⟩,?_,by unfold aB;omega,⟨x+1,hlt⟩,by dsimp only;omega,rfl,rfl,rfl,rfl,by push_cast;omega,?_⟩
   .simp only[zP,List.length_drop,zN];omega
   .dsimp only;rw[bz ([],0) (by rw[List.length_drop];omega),hd]
  .obtain rfl:x=N:=by omega
   exact⟨rfl,rfl⟩
 .unfold cmE;rw[if_neg ht];exact⟨rfl,rfl⟩
end Go.EA
end
section
set_option maxRecDepth 100000
set_option maxHeartbeats 0
namespace Go.EA
open F
def enX (d:List StD) (s:List UInt8) (i:Nat):List Int:=enL d (aC (tkL s) (some ((i:Int)-1)) none) 0 0
def fX (x:Nat×List Int×List Int) (y:Nat×Int×Int):List Int:=(x.2.1.set ((x.1:Int)-1).toNat 65).set ((x.1:Int)-1).toNat y.2.1
def gX (x:Nat×List Int×List Int) (y:Nat×Int×Int):List Int:=x.2.2.set ((x.1:Int)-1).toNat y.2.2
def Qa:(List ((List (Int×Int))×Bool×Int))×Int×List (Int)×List UInt8->List SV:=fun(d0,d1,d2,s)=>[.one (.vptr (.pair (.row (.pair (.row (.pair (.int .i32) (.int .i64))) (.pair .bool (.int .i64)))) (.pair (.int .i64) (.row (.int .i64)))) (d0,d1,d2) 0),.one (.str s)]
def Yx:(List ((List (Int×Int))×Bool×Int))×Int×List (Int)×List UInt8->SV×List Prop:=fun(d0,d1,d2,s)=>(.tup [.o (.row .str (spE d0 s).1),.o (.int .i64 (spE d0 s).2)],[NwD d0 d2,s.length<=1099511627776])
def WB:Con:=⟨false,[some (.pair (.row (.pair (.row (.pair (.int .i32) (.int .i64))) (.pair .bool (.int .i64)))) (.pair (.int .i64) (.row (.int .i64)))),none],fun xs=>match xs with | [.one (.vptr (.pair (.row (.pair (.row (.pair (.int .i32) (.int .i64))) (.pair .bool (.int .i64)))) (.pair (.int .i64) (.row (.int .i64)))) (d0,d1,d2) 0),.one (.str s)]=>some (Yx (d0,d1,d2,s)) | _=>none⟩
noncomputable def JH:GP:=bX Qa Yx
theorem Lt:∀a b,(Qa a).map aA=(Qa b).map aA->a=b:=by
 rintro⟨a0,a1,a2,a3⟩ ⟨b0,b1,b2,b3⟩ h;simp only[Qa,zK,List.map_nil,aA,aV,List.drop_zero,zG,AV.one.injEq,AV.agg.injEq,Lf.int.injEq,Lf.str.injEq,Lf.bool.injEq,Lf.vrow.injEq,Lf.vptr.injEq,and_true,true_and,and_assoc] at h;obtain⟨h0,h1⟩:=h;have h0:=Ty.enc_inj _ h0;simp only[zF] at h0;obtain⟨rfl,rfl,rfl⟩:=h0;subst h1
 rfl
theorem QH:cK JH WB:=aS Lt (fun⟨_,_,_,_⟩ ⟨_,_,_,_⟩=>rfl) (fun⟨_,_,_,_⟩=>rfl) fun xs r h=>by
 simp only[WB] at h;split at h
 .cases h;rename_i d0 d1 d2 s;exact⟨(d0,d1,d2,s),rfl,rfl⟩
 .cases h
theorem YO {S:SC}(hB:SB S) (nD:aF S 500 (az qy)) (Jd:aF S 505 (az De)) (IM:aF S 506 (az Dt)) (h508:S.has 508 f508) (h514:S.has 514 f514) (h497:S.has 497 f497):aF S 497 (az JH):=by
 refine prI hB [(508,f508),(514,f514)] [⟨500,qy,Eb⟩,⟨505,De,Qx⟩,⟨506,Dt,PW⟩] [] ⟨h508,h514,trivial⟩ ⟨⟨nD,oM⟩,⟨Jd,Gq⟩,⟨IM,FX⟩,trivial⟩ trivial h497 (fun⟨d0,d1,d2,s⟩=>⟨rfl,rfl,rfl⟩) (fun(d0,d1,d2,s)=>fun f id T L=>match f,id with
  |497,0=>match T.getD 10 .junk with | .one (.ptr c _ _)=>some (.inv { x:Nat×List Int×List Int // SpI d0 (tkL s) x } (fun x=>([(10,.one (.ptr c 0 0))],[(c,.cell [.int .i64 ((x.1.1:Int)-1)]),(0,.row (.int .i64) x.1.2.1),(2,.row (.int .i64) x.1.2.2)])) (fun x=>x.1.1)) | _=>none
  |514,0=>match ae L 0,ae L 2,ae L 4,ae L 5 with | .row (.int .i64) F,.row (.int .i64) G,.cell [.int .i64 a],.cell [.row (.int .i64) E]=>some (.inv { x:Nat×Int×Int // SpJ d0 (tkL s) a E x } (fun x=>([(3,.one (.int .i64 ((x.1.1:Int)-1)))],[(0,.row (.int .i64) (F.set a.toNat x.1.2.1)),(2,.row (.int .i64) (G.set a.toNat x.1.2.2))])) (fun x=>x.1.1)) | _,_,_,_=>none
  |497,4=>match ae L 0,ae L 2 with | .row (.int .i64) F,.row (.int .i64) G=>some (.inv { x:Nat×Nat×List (List UInt8) // SpO d0 (tkL s) x } (fun x=>([(15,.one (.int .i64 x.1.2.1)),(14,.one (.osl L.length))],[(L.length,.row .str x.1.2.2)])) (fun x=>(tkL s).length-x.1.2.1)) | _,_=>none
  |_,_=>none) 4000 ?_
 rintro⟨d0,d1,d2,s⟩ hc;have hc1:NwD d0 d2:=hc.1;have hc2:s.length<=1099511627776:=hc.2.1;refine VC.use (p:=s.length<=1099511627776/\(tkE s=0->aB ((↑(tkL s).length:Int)+1)/\(0<=(↑(tkL s).length:Int)+1/\(↑(tkL s).length:Int)+1<=(↑(tkL s).length:Int)+1/\((↑(tkL s).length:Int)+1)*8<=140737488355328/\(↑(tkL s).length:Int)+1<=140737488355328)/\aB ((↑(tkL s).length:Int)+1)/\(0<=(↑(tkL s).length:Int)+1/\(↑(tkL s).length:Int)+1<=(↑(tkL s).length:Int)+1/\((↑(tkL s).length:Int)+1)*8<=140737488355328/\(↑(tkL s).length:Int)+1<=140737488355328)/\aB ((↑(tkL s).length:Int)-1)/\(∃x1:{ x:Nat×List Int×List Int // SpI d0 (tkL s) x },(d0,d1,d2)=(d0,d1,d2)/\tkL s=tkL s/\List.replicate ((↑(tkL s).length:Int)+1).toNat 0=x1.1.2.1/\List.replicate ((↑(tkL s).length:Int)+1).toNat 0=x1.1.2.2/\(↑(tkL s).length:Int)-1=(x1.1.1:Int)-1)/\(∀x1:{ x:Nat×List Int×List Int // SpI d0 (tkL s) x },(0<=(x1.1.1:Int)-1->(0<=(x1.1.1:Int)-1/\(x1.1.1:Int)-1<(x1.1.2.1.length:Int))/\((x1.1.1:Int)-1).toNat<x1.1.2.1.length/\(0<=(x1.1.1:Int)-1/\(x1.1.1:Int)-1<=(↑(tkL s).length:Int))/\mU d0/\(aC (tkL s) (some ((x1.1.1:Int)-1)) none).length<=1099511627776/\(∀(r:Int),r∈aC (tkL s) (some ((x1.1.1:Int)-1)) none->Utf8.valid r=true)/\aB ((↑(enX d0 s x1.1.1).length:Int)-1)/\(∃x2:{ x:Nat×Int×Int // SpJ d0 (tkL s) ((x1.1.1:Int)-1) (enX d0 s x1.1.1) x },(↑(enX d0 s x1.1.1).length:Int)-1=(x2.1.1:Int)-1/\x1.1.2.1.set ((x1.1.1:Int)-1).toNat 65=fX x1.1 x2.1/\x1.1.2.2=gX x1.1 x2.1/\(x1.1.1:Int)-1=(x1.1.1:Int)-1/\enX d0 s x1.1.1=enX d0 s x1.1.1)/\(∀x2:{ x:Nat×Int×Int // SpJ d0 (tkL s) ((x1.1.1:Int)-1) (enX d0 s x1.1.1) x },(0<=(x2.1.1:Int)-1->(0<=(x2.1.1:Int)-1/\(x2.1.1:Int)-1<(↑(enX d0 s x1.1.1).length:Int))/\aB ((x1.1.1:Int)-1+(enX d0 s x1.1.1).getD ((x2.1.1:Int)-1).toNat 0)/\(0<=(x1.1.1:Int)-1+(enX d0 s x1.1.1).getD ((x2.1.1:Int)-1).toNat 0/\(x1.1.1:Int)-1+(enX d0 s x1.1.1).getD ((x2.1.1:Int)-1).toNat 0<(↑(fX x1.1 x2.1).length:Int))/\((x1.1.1:Int)-1+(enX d0 s x1.1.1).getD ((x2.1.1:Int)-1).toNat 0).toNat<(fX x1.1 x2.1).length/\aB ((fX x1.1 x2.1).getD ((x1.1.1:Int)-1+(enX d0 s x1.1.1).getD ((x2.1.1:Int)-1).toNat 0).toNat 0+1)/\(0<=(x1.1.1:Int)-1/\(x1.1.1:Int)-1<(↑(fX x1.1 x2.1).length:Int))/\((x1.1.1:Int)-1).toNat<(fX x1.1 x2.1).length/\((fX x1.1 x2.1).getD ((x1.1.1:Int)-1+(enX d0 s x1.1.1).getD ((x2.1.1:Int)-1).toNat 0).toNat 0+1<(fX x1.1 x2.1).getD ((x1.1.1:Int)-1).toNat 0->((0<=(x1.1.1:Int)-1/\(x1.1.1:Int)-1<(↑(fX x1.1 x2.1).length:Int))/\((x1.1.1:Int)-1).toNat<(fX x1.1 x2.1).length/\(0<=(x1.1.1:Int)-1/\(x1.1.1:Int)-1<(↑(gX x1.1 x2.1).length:Int))/\((x1.1.1:Int)-1).toNat<(gX x1.1 x2.1).length/\aB ((x2.1.1:Int)-1-1)/\(∃x3:{ x:Nat×Int×Int // SpJ d0 (tkL s) ((x1.1.1:Int)-1) (enX d0 s x1.1.1) x },x3.1.1<x2.1.1/\(x2.1.1:Int)-1-1=(x3.1.1:Int)-1/\(fX x1.1 x2.1).set ((x1.1.1:Int)-1).toNat ((fX x1.1 x2.1).getD ((x1.1.1:Int)-1+(enX d0 s x1.1.1).getD ((x2.1.1:Int)-1).toNat 0).toNat 0+1)=fX x1.1 x3.1/\(gX x1.1 x2.1).set ((x1.1.1:Int)-1).toNat ((enX d0 s x1.1.1).getD ((x2.1.1:Int)-1).toNat 0)=gX x1.1 x3.1/\(x1.1.1:Int)-1=(x1.1.1:Int)-1/\enX d0 s x1.1.1=enX d0 s x1.1.1))/\((0<=(x1.1.1:Int)-1/\(x1.1.1:Int)-1<(↑(fX x1.1 x2.1).length:Int))/\((x1.1.1:Int)-1).toNat<(fX x1.1 x2.1).length/\(0<=(x1.1.1:Int)-1/\(x1.1.1:Int)-1<(↑(gX x1.1 x2.1).length:Int))/\((x1.1.1:Int)-1).toNat<(gX x1.1 x2.1).length/\aB ((x2.1.1:Int)-1-1)/\(∃x3:{ x:Nat×Int×Int // SpJ d0 (tkL s) ((x1.1.1:Int)-1) (enX d0 s x1.1.1) x },x3.1.1<x2.1.1/\(x2.1.1:Int)-1-1=(x3.1.1:Int)-1/\(fX x1.1 x2.1).set ((x1.1.1:Int)-1).toNat ((fX x1.1 x2.1).getD ((x1.1.1:Int)-1+(enX d0 s x1.1.1).getD ((x2.1.1:Int)-1).toNat 0).toNat 0+1)=fX x1.1 x3.1/\(gX x1.1 x2.1).set ((x1.1.1:Int)-1).toNat ((enX d0 s x1.1.1).getD ((x2.1.1:Int)-1).toNat 0)=gX x1.1 x3.1/\(x1.1.1:Int)-1=(x1.1.1:Int)-1/\enX d0 s x1.1.1=enX d0 s x1.1.1))/\((0<=(x1.1.1:Int)-1/\(x1.1.1:Int)-1<(↑(fX x1.1 x2.1).length:Int))/\((x1.1.1:Int)-1).toNat<(fX x1.1 x2.1).length/\(0<=(x1.1.1:Int)-1/\(x1.1.1:Int)-1<(↑(gX x1.1 x2.1).length:Int))/\((x1.1.1:Int)-1).toNat<(gX x1.1 x2.1).length/\aB ((x2.1.1:Int)-1-1)/\(∃x3:{ x:Nat×Int×Int // SpJ d0 (tkL s) ((x1.1.1:Int)-1) (enX d0 s x1.1.1) x },x3.1.1<x2.1.1/\(x2.1.1:Int)-1-1=(x3.1.1:Int)-1/\(fX x1.1 x2.1).set ((x1.1.1:Int)-1).toNat ((fX x1.1 x2.1).getD ((x1.1.1:Int)-1+(enX d0 s x1.1.1).getD ((x2.1.1:Int)-1).toNat 0).toNat 0+1)=fX x1.1 x3.1/\(gX x1.1 x2.1).set ((x1.1.1:Int)-1).toNat ((enX d0 s x1.1.1).getD ((x2.1.1:Int)-1).toNat 0)=gX x1.1 x3.1/\(x1.1.1:Int)-1=(x1.1.1:Int)-1/\enX d0 s x1.1.1=enX d0 s x1.1.1))/\(0<=(x1.1.1:Int)-1/\(x1.1.1:Int)-1<(↑(fX x1.1 x2.1).length:Int))/\((x1.1.1:Int)-1).toNat<(fX x1.1 x2.1).length/\(0<=(x1.1.1:Int)-1/\(x1.1.1:Int)-1<(↑(gX x1.1 x2.1).length:Int))/\((x1.1.1:Int)-1).toNat<(gX x1.1 x2.1).length/\aB ((x2.1.1:Int)-1-1)/\(∃x3:{ x:Nat×Int×Int // SpJ d0 (tkL s) ((x1.1.1:Int)-1) (enX d0 s x1.1.1) x },x3.1.1<x2.1.1/\(x2.1.1:Int)-1-1=(x3.1.1:Int)-1/\(fX x1.1 x2.1).set ((x1.1.1:Int)-1).toNat ((fX x1.1 x2.1).getD ((x1.1.1:Int)-1+(enX d0 s x1.1.1).getD ((x2.1.1:Int)-1).toNat 0).toNat 0+1)=fX x1.1 x3.1/\(gX x1.1 x2.1).set ((x1.1.1:Int)-1).toNat ((enX d0 s x1.1.1).getD ((x2.1.1:Int)-1).toNat 0)=gX x1.1 x3.1/\(x1.1.1:Int)-1=(x1.1.1:Int)-1/\enX d0 s x1.1.1=enX d0 s x1.1.1))/\(¬(fX x1.1 x2.1).getD ((x1.1.1:Int)-1+(enX d0 s x1.1.1).getD ((x2.1.1:Int)-1).toNat 0).toNat 0+1<(fX x1.1 x2.1).getD ((x1.1.1:Int)-1).toNat 0->aB ((x2.1.1:Int)-1-1)/\(∃x3:{ x:Nat×Int×Int // SpJ d0 (tkL s) ((x1.1.1:Int)-1) (enX d0 s x1.1.1) x },x3.1.1<x2.1.1/\(x2.1.1:Int)-1-1=(x3.1.1:Int)-1/\fX x1.1 x2.1=fX x1.1 x3.1/\gX x1.1 x2.1=gX x1.1 x3.1/\(x1.1.1:Int)-1=(x1.1.1:Int)-1/\enX d0 s x1.1.1=enX d0 s x1.1.1)))/\(¬0<=(x2.1.1:Int)-1->aB ((x1.1.1:Int)-1-1)/\(∃x3:{ x:Nat×List Int×List Int // SpI d0 (tkL s) x },x3.1.1<x1.1.1/\(d0,d1,d2)=(d0,d1,d2)/\tkL s=tkL s/\fX x1.1 x2.1=x3.1.2.1/\gX x1.1 x2.1=x3.1.2.2/\(x1.1.1:Int)-1-1=(x3.1.1:Int)-1))))/\(¬0<=(x1.1.1:Int)-1->((0:Int)<=(0:Int)/\(0:Int)<(x1.1.2.1.length:Int))/\0<x1.1.2.1.length/\(64<x1.1.2.1.getD 0 0->[]=(spE d0 s).1/\10=(spE d0 s).2)/\(¬64<x1.1.2.1.getD 0 0->(∃x2:{ x:Nat×Nat×List (List UInt8) // SpO d0 (tkL s) x },tkL s=tkL s/\x2.1.2.2=[]/\0=(x2.1.2.1:Int)/\x1.1.2.1=x1.1.2.1/\x1.1.2.2=x1.1.2.2/\(x1.1.1:Int)-1=(x1.1.1:Int)-1/\x2.1.2.2=[])/\(∀x2:{ x:Nat×Nat×List (List UInt8) // SpO d0 (tkL s) x },((x2.1.2.1:Int)<(↑(tkL s).length:Int)->(0<=(x2.1.2.1:Int)/\(x2.1.2.1:Int)<(x1.1.2.2.length:Int))/\x2.1.2.1<x1.1.2.2.length/\aB ((x2.1.2.1:Int)+x1.1.2.2.getD x2.1.2.1 0)/\(0<=(x2.1.2.1:Int)/\(x2.1.2.1:Int)<=(x2.1.2.1:Int)+x1.1.2.2.getD x2.1.2.1 0/\(x2.1.2.1:Int)+x1.1.2.2.getD x2.1.2.1 0<=(↑(tkL s).length:Int))/\(aC (tkL s) (some (x2.1.2.1:Int)) (some ((x2.1.2.1:Int)+x1.1.2.2.getD x2.1.2.1 0))).length<=1099511627776/\(x2.1.2.2.length+[kw (aC (tkL s) (some (x2.1.2.1:Int)) (some ((x2.1.2.1:Int)+x1.1.2.2.getD x2.1.2.1 0)))].length)*16<=140737488355328/\(0<=(x2.1.2.1:Int)/\(x2.1.2.1:Int)<(x1.1.2.2.length:Int))/\x2.1.2.1<x1.1.2.2.length/\aB ((x2.1.2.1:Int)+x1.1.2.2.getD x2.1.2.1 0)/\(∃x3:{ x:Nat×Nat×List (List UInt8) // SpO d0 (tkL s) x },(tkL s).length-x3.1.2.1<(tkL s).length-x2.1.2.1/\tkL s=tkL s/\(x2.1.2.1:Int)+x1.1.2.2.getD x2.1.2.1 0=(x3.1.2.1:Int)/\x1.1.2.1=x1.1.2.1/\x1.1.2.2=x1.1.2.2/\(x1.1.1:Int)-1=(x1.1.1:Int)-1/\x2.1.2.2++[kw (aC (tkL s) (some (x2.1.2.1:Int)) (some ((x2.1.2.1:Int)+x1.1.2.2.getD x2.1.2.1 0)))]=x3.1.2.2))/\(¬(x2.1.2.1:Int)<(↑(tkL s).length:Int)->x2.1.2.2=(spE d0 s).1/\0=(spE d0 s).2))))))/\(¬tkE s=0->[]=(spE d0 s).1/\tkE s=(spE d0 s).2)) (by kernel_rfl) ?_;have hw:=hc1.p;refine⟨hc2,fun ht=>?_,fun ht=>?_⟩
 .obtain⟨t1,t2,t3⟩:=xh ht;have hval:∀r∈tkL s,Utf8.valid r=true:=by rw[t3];exact pq t1
  have hlen:(tkL s).length<=64:=by rw[t3];exact t2
  have hSE:spE d0 s=if 64<((spT d0 (tkL s)).getD 0 (0,0)).1 then ([],10) else (spW (spT d0 (tkL s)) (tkL s) ((tkL s).length+1) 0,0):=by unfold spE;rw[if_pos ht]
  have hEX:∀i:Nat,enX d0 s (i+1)=enL d0 ((tkL s).drop i) 0 0:=fun i=>by
   unfold enX;have e:aC (tkL s) (some (((i+1:Nat):Int)-1)) none=(tkL s).drop (((i+1:Nat):Int)-1).toNat:=rfl;rw[e,show (((i+1:Nat):Int)-1).toNat=i by omega]
  have eL:((tkL s).length+1:Int).toNat=(tkL s).length+1:=by omega
  rw[eL];refine⟨by unfold aB;omega,⟨by omega,by omega,by omega,by omega⟩,by unfold aB;omega,⟨by omega,by omega,by omega,by omega⟩,by unfold aB;omega,⟨⟨((tkL s).length,List.replicate ((tkL s).length+1) 0,List.replicate ((tkL s).length+1) 0),SpI.start d0 (tkL s)⟩,rfl,rfl,rfl,rfl,rfl⟩,?_⟩;rintro⟨⟨i,F,G⟩,hI⟩;have hle:=hI.le;have hlf:=hI.lf;have hlg:=hI.lg;dsimp only at hle hlf hlg ⊢;refine⟨fun h=>?_,fun h=>?_⟩
  .obtain⟨a,rfl⟩:∃a,i=a+1:=⟨i-1,by omega⟩;have ea:((a+1:Nat):Int)-1=(a:Int):=by omega
   have hcut:aC (tkL s) (some ((a:Int))) none=(tkL s).drop a:=rfl;have hfX:∀y:Nat×Int×Int,fX (a+1,F,G) y=F.set a y.2.1:=fun y=>by
    unfold fX;dsimp only;rw[ea,Int.toNat_natCast,List.set_set]
   have hgX:∀y:Nat×Int×Int,gX (a+1,F,G) y=G.set a y.2.2:=fun y=>by
    unfold gX;dsimp only;rw[ea,Int.toNat_natCast]
   have hen:=hw.en ((tkL s).drop a);have hel:=xB d0 ((tkL s).drop a) 0 0;rw[List.length_drop] at hen hel;simp only[hEX,ea,hcut,Int.toNat_natCast,hfX,hgX];generalize hE:enL d0 ((tkL s).drop a) 0 0=E at hen hel ⊢;have hJE:∀y,SpJ d0 (tkL s) (((a+1:Nat):Int)-1) (enX d0 s (a+1)) y↔SpJ d0 (tkL s) (a:Int) E y:=fun y=>by rw[ea,hEX,hE]
   refine⟨⟨by omega,by omega⟩,by omega,⟨by omega,by omega⟩,hw.ok,by rw[List.length_drop];omega,fun r hr=>hval r (List.mem_of_mem_drop hr),by unfold aB;omega,⟨⟨(E.length,65,0),(hJE _).2 ⟨zJ _,by dsimp only;omega,by dsimp only;omega,by dsimp only;rw[List.take_length]⟩⟩,rfl,rfl,?_,trivial,trivial⟩,?_⟩
   .have:=hI.zr a (Nat.lt_succ_self a);dsimp only at this
    conv=>lhs;rw[<- vC (l:=G) (a:=a),this]
   .rintro⟨⟨m,p,q⟩,hJ⟩;have hJ:=(hJE _).1 hJ;dsimp only;have hJ1:=hJ.1;have hJ2:=hJ.2.1;have hJ3:=hJ.2.2.1;dsimp only at hJ1 hJ2 hJ3;have hsl:(F.set a p).length=(tkL s).length+1:=by rw[List.length_set];exact hlf
    have hsg:(G.set a q).length=(tkL s).length+1:=by rw[List.length_set];exact hlg
    refine⟨fun hm=>?_,fun hm=>?_⟩
    .obtain⟨b,rfl⟩:∃b,m=b+1:=⟨m-1,by omega⟩;have eb:((b+1:Nat):Int)-1=(b:Int):=by omega
     rw[eb,Int.toNat_natCast];have hn:=hen (E.getD b 0) (eT (by omega));have hst:=SpJ.step hJ;have e1:((a:Int)+E.getD b 0).toNat=a+(E.getD b 0).toNat:=by omega
     have hv:=SpJ.val (p:=p) hI hn.1 (by omega);have hvb:=yc d0 ((tkL s).drop (a+1)) ((E.getD b 0).toNat-1);rw[e1,hv,hsl,hsg,jo (by omega),List.set_set,List.set_set];generalize ((spT d0 ((tkL s).drop (a+1))).getD ((E.getD b 0).toNat-1) (0,0)).1=v at hst hvb ⊢;refine⟨⟨by omega,by omega⟩,by unfold aB;omega,⟨by omega,by omega⟩,by omega,by unfold aB;omega,⟨by omega,by omega⟩,by omega,fun hlt=>?_,fun hlt=>?_⟩
     .rw[if_pos hlt] at hst;have fin:(0<=(a:Int)/\(a:Int)<(((tkL s).length+1:Nat):Int))/\a<(tkL s).length+1/\(0<=(a:Int)/\(a:Int)<(((tkL s).length+1:Nat):Int))/\a<(tkL s).length+1/\aB ((b:Int)-1)/\∃x3:{ x:Nat×Int×Int // SpJ d0 (tkL s) (((a+1:Nat):Int)-1) (enX d0 s (a+1)) x },x3.1.1<b+1/\(b:Int)-1=(x3.1.1:Int)-1/\F.set a (v+1)=F.set a x3.1.2.1/\G.set a (E.getD b 0)=G.set a x3.1.2.2/\True/\True:=
       ⟨⟨by omega,by omega⟩,by omega,⟨by omega,by omega⟩,by omega,by unfold aB;omega,⟨(b,v+1,E.getD b 0),(hJE _).2 hst⟩,Nat.lt_succ_self b,rfl,rfl,rfl,trivial,trivial⟩
      exact⟨fin,fin,fin,fin⟩
     .rw[if_neg hlt] at hst;exact⟨by unfold aB;omega,⟨(b,p,q),(hJE _).2 hst⟩,Nat.lt_succ_self b,rfl,rfl,rfl,trivial,trivial⟩
    .obtain rfl:m=0:=by omega
     subst hE;exact⟨by unfold aB;omega,⟨(a,F.set a p,G.set a q),SpJ.out hI hJ⟩,Nat.lt_succ_self a,trivial,trivial,rfl,rfl,rfl⟩
  .obtain rfl:i=0:=by omega
   have h0:=(hI.at' 0 (zJ _) (Nat.zero_le _)).1;dsimp only at h0;refine⟨⟨by omega,by omega⟩,by omega,fun h2=>?_,fun h2=>⟨⟨⟨((tkL s).length+1,0,[]),Nat.zero_le _,by dsimp only;omega,Nat.zero_le _,by dsimp only;omega,rfl⟩,rfl,rfl,rfl,rfl,rfl,rfl,rfl⟩,?_⟩⟩
   .rw[hSE,if_pos (by omega)];exact⟨rfl,rfl⟩
   .rw[if_neg (by omega)] at hSE;rintro⟨⟨k,a,o⟩,hO⟩;have ho1:=hO.1;have ho2:=hO.2.1;have ho3:=hO.2.2.1;dsimp only at ho1 ho2 ho3 ⊢;refine⟨fun h3=>?_,fun h3=>?_⟩
    .obtain⟨k,rfl⟩:∃k',k=k'+1:=⟨k-1,by omega⟩;obtain⟨f1,f2,f3⟩:=SpO.next hw hI hO (by omega);have hcut:aC (tkL s) (some (a:Int)) (some ((a:Int)+G.getD a 0))=((tkL s).drop a).take (G.getD a 0).toNat:=by
      have e:aC (tkL s) (some (a:Int)) (some ((a:Int)+G.getD a 0))=((tkL s).drop (a:Int).toNat).take (((a:Int)+G.getD a 0).toNat-(a:Int).toNat):=rfl;rw[e,show ((a:Int)+G.getD a 0).toNat=a+(G.getD a 0).toNat by omega];rw[Int.toNat_natCast,Nat.add_sub_cancel_left]
     rw[hcut];refine⟨⟨by omega,by omega⟩,by omega,by unfold aB;omega,⟨by omega,by omega,by omega⟩,by rw[zP,List.length_drop];omega,by simp only[zN];omega,⟨by omega,by omega⟩,by omega,by unfold aB;omega,⟨(k,a+(G.getD a 0).toNat,o++[kw (((tkL s).drop a).take (G.getD a 0).toNat)]),f3⟩,by dsimp only;omega,rfl,by dsimp only;omega,rfl,rfl,rfl,rfl⟩
    .rw[hSE,SpO.end hO (by omega)];exact⟨rfl,rfl⟩
 .unfold spE;rw[if_neg ht];exact⟨rfl,rfl⟩
end Go.EA
end
section
set_option maxRecDepth 100000
set_option maxHeartbeats 0
namespace Go.EA
open F
def mdB (l:List Wd) (s:List UInt8):Prop:=((l.length:Int)<=60/\(s.length:Int)+nG l<=800)/\kD l=0
instance (l:List Wd) (s:List UInt8):Decidable (mdB l s):=by unfold mdB;infer_instance
def wxW:List Wd:=[([97],1),([97,98],1),([98],1)]
def VL:Unit->List SV:=fun _=>[]
def Zm:Unit->SV×List Prop:=fun _=>(.one (.bool true),[])
def VO:Con:=⟨true,[],fun xs=>match xs with | []=>some (Zm ()) | _=>none⟩
noncomputable def Og:GP:=bX VL Zm
theorem MW:∀a b,(VL a).map aA=(VL b).map aA->a=b:=by
 intro a b _;rfl
theorem Uj:cK Og VO:=aS MW (fun _ _=>rfl) (fun _=>rfl) fun xs r h=>by
 simp only[VO] at h;split at h
 .cases h;exact⟨(),rfl,rfl⟩
 .cases h
theorem ZF {S:SC}(hB:SB S) (Js:aF S 278 (az DU)) (WL:aF S 493 (az OE)) (Yn:aF S 497 (az JH)) (h491:S.has 491 f491) (h500:S.has 500 f500) (h487:S.has 487 f487):aF S 487 (az Og):=by
 refine prM hB [(491,f491),(500,f500)] [⟨278,DU,RJ⟩,⟨493,OE,XH⟩,⟨497,JH,WB⟩] ⟨h491,h500,trivial⟩ ⟨⟨Js,FR⟩,⟨WL,TA⟩,⟨Yn,QH⟩,trivial⟩ h487 (fun _=>⟨rfl,rfl,rfl⟩) (fun _=>fun _ _ _ _=>none) 2000 ?_;rintro _ hc;refine VC.use (p:=(3:Nat)<=(1099511627776:Nat)/\SmW [([97],1),([97,98],1),([98],1)]/\((0:Int)=(0:Int)->mU (List.map stD (dE [([97],1),([97,98],1),([98],1)]))/\(3:Nat)<=(1099511627776:Nat)/\NwD (List.map stD (dE [([97],1),([97,98],1),([98],1)])) (List.map (fun x=>x.2) [([97],1),([97,98],1),([98],1)])/\(3:Nat)<=(1099511627776:Nat)/\((0:Int)=(0:Int)->((loE (List.map stD (dE [([(97:UInt8)],(1:Int)),([(97:UInt8),(98:UInt8)],(1:Int)),([(98:UInt8)],(1:Int))])) [(97:UInt8),(98:UInt8),(98:UInt8)]).1=[(97:UInt8),(98:UInt8)]->((0:Int)=(0:Int)->((2:Int)=(2:Int)->((0:Int)<=(1:Int)/\(1:Int)<(2:Int))/\((spE (List.map stD (dE [([(97:UInt8)],(1:Int)),([(97:UInt8),(98:UInt8)],(1:Int)),([(98:UInt8)],(1:Int))])) [(97:UInt8),(98:UInt8),(98:UInt8)]).1.getD (1:Nat) []=[(98:UInt8)]->((0:Int)=(0:Int)->true=true)/\(¬(0:Int)=(0:Int)->false=true))/\(¬(spE (List.map stD (dE [([(97:UInt8)],(1:Int)),([(97:UInt8),(98:UInt8)],(1:Int)),([(98:UInt8)],(1:Int))])) [(97:UInt8),(98:UInt8),(98:UInt8)]).1.getD (1:Nat) []=[(98:UInt8)]->false=true))/\(¬(2:Int)=(2:Int)->false=true))/\(¬(0:Int)=(0:Int)->false=true))/\(¬(loE (List.map stD (dE [([(97:UInt8)],(1:Int)),([(97:UInt8),(98:UInt8)],(1:Int)),([(98:UInt8)],(1:Int))])) [(97:UInt8),(98:UInt8),(98:UInt8)]).1=[(97:UInt8),(98:UInt8)]->false=true))/\(¬(0:Int)=(0:Int)->false=true))/\(¬(0:Int)=(0:Int)->False)) (by kernel_rfl) ?_;have hN:NwD (List.map stD (dE wxW)) (List.map (fun x=>x.2) wxW):=⟨wxW,by decide +kernel,rfl,rfl⟩;refine⟨by decide,by unfold SmW;decide,fun _=>⟨hN.p.ok,by decide,hN,by decide,fun _=>⟨fun _=>⟨fun _=>⟨fun _=>⟨⟨by decide,by decide⟩,fun _=>⟨fun _=>rfl,fun h=>absurd rfl h⟩,fun h=>absurd (by decide +kernel) h⟩,fun h=>absurd rfl h⟩,fun h=>absurd rfl h⟩,fun h=>absurd (by decide +kernel) h⟩,fun h=>absurd rfl h⟩,fun h=>absurd rfl h⟩
def TD:(List (List UInt8×Int))×List UInt8->List SV:=fun(l,s)=>[.one (.row (.pair .str (.int .i64)) l),.one (.str s)]
def aay:(List (List UInt8×Int))×List UInt8->SV×List Prop:=fun(l,s)=>(.ite (mdB l s) inferInstance (.tup [.o (.vptr DwT (xM (aT l)) 0),.o (.row WdT (aT l)),.o (.bool true)]) (.tup [.o .nilp,.o (.row WdT []),.o (.bool false)]),[l.length<=1048576,SmX l,s.length<=1099511627776])
def VB:Con:=⟨false,[some (.pair .str (.int .i64)),none],fun xs=>match xs with | [.one (.row (.pair .str (.int .i64)) l),.one (.str s)]=>some (aay (l,s)) | _=>none⟩
noncomputable def NL:GP:=bX TD aay
theorem Np:∀a b,(TD a).map aA=(TD b).map aA->a=b:=by
 rintro⟨a0,a1⟩ ⟨b0,b1⟩ h;simp only[TD,zK,List.map_nil,aA,aV,zG,AV.one.injEq,AV.agg.injEq,Lf.int.injEq,Lf.str.injEq,Lf.bool.injEq,Lf.vrow.injEq,and_true,true_and,and_assoc] at h;obtain⟨h0,h1⟩:=h;have h0:=cZ h0;subst h0 h1
 rfl
theorem Tj:cK NL VB:=aS Np (fun⟨_,_⟩ ⟨_,_⟩=>rfl) (fun⟨_,_⟩=>rfl) fun xs r h=>by
 simp only[VB] at h;split at h
 .cases h;rename_i l s;exact⟨(l,s),rfl,rfl⟩
 .cases h
theorem Zj {S:SC}(hB:SB S) (Js:aF S 278 (az DU)) (WP:aF S 291 (az Ph)) (h488:S.has 488 f488):aF S 488 (az NL):=by
 refine prI hB [] [⟨278,DU,RJ⟩,⟨291,Ph,Vj⟩] [] trivial ⟨⟨Js,FR⟩,⟨WP,QY⟩,trivial⟩ trivial h488 (fun⟨l,s⟩=>⟨rfl,rfl,rfl⟩) (fun(l,s)=>fun f id T L=>match f,id with
  |488,0=>some (.inv { i:Nat // i<=l.length } (fun x=>([(17,.one (.int .i64 x.1)),(7,.one (.int .i64 ((s.length:Int)+nG (l.take x.1))))],[])) (fun x=>l.length-x.1))
  |_,_=>none) 2000 ?_
 rintro⟨l,s⟩ hc;have hc1:l.length<=1048576:=hc.1;have hc2:SmX l:=hc.2.1;have hc3:s.length<=1099511627776:=hc.2.2.1;refine VC.use (p:=(∃x1:{ i:Nat // i<=l.length },l=l/\(s.length:Int)=(s.length:Int)+nG (List.take x1.1 l)/\l=l/\(l.length:Int)=(l.length:Int)/\0=(x1.1:Int))/\(∀x1:{ i:Nat // i<=l.length },((x1.1:Int)<(l.length:Int)->(0<=(x1.1:Int)/\(x1.1:Int)<(l.length:Int))/\aB ((s.length:Int)+nG (List.take x1.1 l)+(↑(List.length (l.getD x1.1 ([],0)).1):Int))/\aB ((x1.1:Int)+1)/\(∃x2:{ i:Nat // i<=l.length },l.length-x2.1<l.length-x1.1/\l=l/\(s.length:Int)+nG (List.take x1.1 l)+(↑(List.length (l.getD x1.1 ([],0)).1):Int)=(s.length:Int)+nG (List.take x2.1 l)/\l=l/\(l.length:Int)=(l.length:Int)/\(x1.1:Int)+1=(x2.1:Int)))/\(¬(x1.1:Int)<(l.length:Int)->(60<(l.length:Int)->(mdB l s->False)/\(¬mdB l s->([]:List Wd)=[]/\false=false))/\(¬60<(l.length:Int)->(800<(s.length:Int)+nG (List.take x1.1 l)->(mdB l s->False)/\(¬mdB l s->([]:List Wd)=[]/\false=false))/\(¬800<(s.length:Int)+nG (List.take x1.1 l)->l.length<=1099511627776/\SmW l/\(kD l=0->(aT l).length<=1099511627776/\SmW (aT l)/\(isE (aT l)=0->(mdB l s->xM (aT l)=xM (aT l)/\aT l=aT l/\decide ((0:Int)=(0:Int))=true)/\(¬mdB l s->False))/\(¬isE (aT l)=0->(mdB l s->False)/\(¬mdB l s->aT l=[]/\decide (isE (aT l)=0)=false)))/\(¬kD l=0->(mdB l s->False)/\(¬mdB l s->([]:List Wd)=[]/\false=false))))))) (by kernel_rfl) ?_;refine⟨⟨⟨0,Nat.zero_le _⟩,rfl,by simp[nG],rfl,rfl,rfl⟩,?_⟩;rintro⟨i,hi⟩;dsimp only;obtain⟨b1,b2⟩:=FE hc2 i hi;have b3:=hc2.at i;refine⟨fun h=>⟨⟨by omega,h⟩,by unfold aB;omega,by unfold aB;omega,⟨i+1,by omega⟩,by dsimp only;omega,rfl,by dsimp only;rw[wV (by omega)];omega,rfl,rfl,by push_cast;rfl⟩,fun h=>?_⟩;rw[List.take_of_length_le (by omega)];refine⟨fun h2=>⟨fun hm=>absurd hm.1.1 (by omega),fun _=>⟨rfl,rfl⟩⟩,fun h2=>⟨fun h3=>⟨fun hm=>absurd hm.1.2 (by omega),fun _=>⟨rfl,rfl⟩⟩,fun h3=>⟨by omega,fun x hx=>Nat.le_trans (hc2 x hx) (by decide),fun hz=>?_,fun hz=>⟨fun hm=>absurd hm.2 hz,fun _=>⟨rfl,rfl⟩⟩⟩⟩⟩;obtain⟨e1,e2,e3⟩:=Cv hz;have he:isE (aT l)=0:=by rw[e1];exact e3
 have hm:mdB l s:=⟨⟨by omega,by omega⟩,hz⟩;have hn1:=sP l;exact⟨by omega,fun x hx=>Nat.le_trans (Fz hc2 x hx) (by decide),fun _=>⟨fun _=>⟨rfl,rfl,rfl⟩,fun h=>absurd hm h⟩,fun h=>absurd he h⟩
end Go.EA
end
