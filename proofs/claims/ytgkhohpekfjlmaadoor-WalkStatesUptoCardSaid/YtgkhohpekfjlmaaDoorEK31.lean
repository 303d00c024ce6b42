/- Texts. Conditions: none. -/
import Derived.Test.YtgkhohpekfjlmaaDoorEK30
import Derived.Test.YtgkhohpekfjlmaaDoorELx2
import Derived.Test.YtgkhohpekfjlmaaDoorERu
import Derived.Test.YtgkhohpekfjlmaaDoorEAf11
import Derived.KernelRfl
import Derived.Test.YtgkhohpekfjlmaaDoorEDf
import Derived.Test.YtgkhohpekfjlmaaDoorEK25
import Derived.Test.YtgkhohpekfjlmaaDoorEK23
import Derived.Test.YtgkhohpekfjlmaaDoorELx5
import Derived.Test.YtgkhohpekfjlmaaDoorEK32
set_option linter.unusedVariables false
set_option linter.unusedSimpArgs false
section
set_option maxRecDepth 100000
set_option maxHeartbeats 0
namespace Go.EA
open F
def QL:(List ((List (Int×Int))×Bool×Int))×Int×List (Int)×List UInt8->List SV:=fun(d0,d1,d2,s)=>[.one (.vptr (.pair (.row (.pair (.row (.pair (.int .i32) (.int .i64))) (.pair .bool (.int .i64)))) (.pair (.int .i64) (.row (.int .i64)))) (d0,d1,d2) 0),.one (.str s)]
def aaz:(List ((List (Int×Int))×Bool×Int))×Int×List (Int)×List UInt8->SV×List Prop:=fun(d0,d1,d2,s)=>(.tup [.o (.row (.int .i32) (tkL s)),.o (.int .i64 (tkE s))],[s.length<=1099511627776])
def JF:Con:=⟨false,[some (.pair (.row (.pair (.row (.pair (.int .i32) (.int .i64))) (.pair .bool (.int .i64)))) (.pair (.int .i64) (.row (.int .i64)))),none],fun xs=>match xs with | [.one (.vptr (.pair (.row (.pair (.row (.pair (.int .i32) (.int .i64))) (.pair .bool (.int .i64)))) (.pair (.int .i64) (.row (.int .i64)))) (d0,d1,d2) 0),.one (.str s)]=>some (aaz (d0,d1,d2,s)) | _=>none⟩
noncomputable def tZ:GP:=bS QL aaz
theorem PS:∀a b,(QL a).map aB=(QL b).map aB->a=b:=by
 rintro⟨a0,a1,a2,a3⟩ ⟨b0,b1,b2,b3⟩ h;simp only[QL,zK,List.map_nil,aB,aS,List.drop_zero,zG,AV.one.injEq,AV.agg.injEq,Lf.int.injEq,Lf.str.injEq,Lf.bool.injEq,Lf.vrow.injEq,Lf.vptr.injEq,and_true,true_and,and_assoc] at h;obtain⟨h0,h1⟩:=h;have h0:=Ty.enc_inj _ h0;simp only[zF] at h0;obtain⟨rfl,rfl,rfl⟩:=h0;subst h1
 rfl
theorem rO:bW tZ JF:=aN PS (fun⟨_,_,_,_⟩ ⟨_,_,_,_⟩=>rfl) (fun⟨_,_,_,_⟩=>rfl) fun xs r h=>by
 simp only[JF] at h;split at h
 .cases h;rename_i d0 d1 d2 s;exact⟨(d0,d1,d2,s),rfl,rfl⟩
 .cases h
theorem aaq {S:SC}(hB:SB S) (q17:aG S 17 (az G17)) (h500:S.has 500 f500):aG S 500 (az tZ):=by
 refine prM hB [] [⟨17,G17,K17⟩] trivial ⟨⟨q17,DY⟩,trivial⟩ h500 (fun⟨d0,d1,d2,s⟩=>⟨rfl,rfl,rfl⟩) (fun(d0,d1,d2,s)=>fun _ _ _ _=>none) 400 ?_;rintro⟨d0,d1,d2,s⟩ hc;have hc1:s.length<=1099511627776:=hc.1;refine VC.use (p:=s.length<=1099511627776/\(bI s=0->(64<(↑(aF s).length:Int)->tkL s=[]/\5=tkE s)/\(¬64<(↑(aF s).length:Int)->aF s=tkL s/\bI s=tkE s))/\(¬bI s=0->aF s=tkL s/\bI s=tkE s)) (by kernel_rfl) ?_;refine⟨hc1,fun h=>⟨fun h2=>?_,fun h2=>?_⟩,fun h=>?_⟩
 .exact⟨(vw h h2).1.symm,(vw h h2).2⟩
 .exact GU h h2
 .exact FO h
def SG:List UInt8->List SV:=fun s=>[.one (.str s)]
def Zu:List UInt8->SV×List Prop:=fun s=>(.one (.int .i64 (tkE s)),[s.length<=1099511627776])
def NJ:Con:=⟨true,[none],fun xs=>match xs with | [.one (.str s)]=>some (Zu s) | _=>none⟩
noncomputable def yM:GP:=bS SG Zu
theorem Le:∀a b,(SG a).map aB=(SG b).map aB->a=b:=by
 rintro a0 b0 h;simp only[SG,zK,List.map_nil,aB,aS,zG,AV.one.injEq,AV.agg.injEq,Lf.int.injEq,Lf.str.injEq,Lf.bool.injEq,Lf.vrow.injEq,and_true,true_and] at h;exact h
theorem yY:bW yM NJ:=aN Le (fun _ _=>rfl) (fun _=>rfl) fun xs r h=>by
 simp only[NJ] at h;split at h
 .cases h;rename_i s;exact⟨s,rfl,rfl⟩
 .cases h
theorem aaC {S:SC}(hB:SB S) (q19:aG S 19 (az G19)) (h502:S.has 502 f502):aG S 502 (az yM):=by
 refine prM hB [] [⟨19,G19,K19⟩] trivial ⟨⟨q19,xY⟩,trivial⟩ h502 (fun _=>⟨rfl,rfl,rfl⟩) (fun s=>fun _ _ _ _=>none) 400 ?_;rintro s hc;have hc1:s.length<=1099511627776:=hc.1;refine VC.use (p:=s.length<=1099511627776/\(bI s=0->(64<(↑(aF s).length:Int)->5=tkE s)/\(¬64<(↑(aF s).length:Int)->bI s=tkE s))/\(¬bI s=0->bI s=tkE s)) (by kernel_rfl) ?_;refine⟨hc1,fun h=>⟨fun h2=>?_,fun h2=>?_⟩,fun h=>?_⟩
 .exact(vw h h2).2
 .exact(GU h h2).2
 .exact(FO h).2
def Ta:List UInt8×List UInt8->List SV:=fun(a,b)=>[.one (.str a),.one (.str b)]
def ZY:List UInt8×List UInt8->SV×List Prop:=fun(a,b)=>(.one (.bool (preB a b)),[])
def Rj:Con:=⟨true,[none,none],fun xs=>match xs with | [.one (.str a),.one (.str b)]=>some (ZY (a,b)) | _=>none⟩
noncomputable def Ef:GP:=bS Ta ZY
theorem PT:∀a b,(Ta a).map aB=(Ta b).map aB->a=b:=by
 rintro⟨a0,a1⟩ ⟨b0,b1⟩ h;simp only[Ta,zK,List.map_nil,aB,aS,zG,AV.one.injEq,AV.agg.injEq,Lf.int.injEq,Lf.str.injEq,Lf.bool.injEq,Lf.vrow.injEq,and_true,true_and,and_assoc] at h;obtain⟨h0,h1⟩:=h;subst h0 h1
 rfl
theorem Fx:bW Ef Rj:=aN PT (fun⟨_,_⟩ ⟨_,_⟩=>rfl) (fun⟨_,_⟩=>rfl) fun xs r h=>by
 simp only[Rj] at h;split at h
 .cases h;rename_i a b;exact⟨(a,b),rfl,rfl⟩
 .cases h
theorem aam {S:SC}(hB:SB S)  (h504:S.has 504 f504):aG S 504 (az Ef):=by
 refine prM hB [] [] trivial trivial h504 (fun⟨a,b⟩=>⟨rfl,rfl,rfl⟩) (fun(a,b)=>fun _ _ _ _=>none) 400 ?_;rintro⟨a,b⟩ hc;refine VC.use (p:=((b.length:Int)<=(a.length:Int)->(0<=(b.length:Int)/\(b.length:Int)<=(a.length:Int))/\decide (aH a none (some (b.length:Int))=b)=preB a b)/\(¬(b.length:Int)<=(a.length:Int)->false=preB a b)) (by kernel_rfl) ?_;refine⟨fun h=>⟨⟨by omega,h⟩,?_⟩,fun h=>?_⟩
 .have e:aH a none (some (b.length:Int))=a.take b.length:=rfl;rw[e];unfold preB;rw[decide_eq_decide];exact⟨fun h2=>⟨by omega,h2⟩,fun h2=>h2.2⟩
 .unfold preB;rw[decide_eq_false (fun h2=>h (by omega))]
def SA:(List ((List (Int×Int))×Bool×Int))×Int×List (Int)×Int->List SV:=fun(d0,d1,d2,i)=>[.one (.vptr (.pair (.row (.pair (.row (.pair (.int .i32) (.int .i64))) (.pair .bool (.int .i64)))) (.pair (.int .i64) (.row (.int .i64)))) (d0,d1,d2) 0),.one (.int .i64 i)]
def aao:(List ((List (Int×Int))×Bool×Int))×Int×List (Int)×Int->SV×List Prop:=fun(d0,d1,d2,i)=>(.agg [.str ((wdA d0 d2).getD i.toNat ([],0)).1,.int .i64 ((wdA d0 d2).getD i.toNat ([],0)).2],[NwD d0 d2,0<=i/\i<d2.length])
def Zi:Con:=⟨true,[some (.pair (.row (.pair (.row (.pair (.int .i32) (.int .i64))) (.pair .bool (.int .i64)))) (.pair (.int .i64) (.row (.int .i64)))),none],fun xs=>match xs with | [.one (.vptr (.pair (.row (.pair (.row (.pair (.int .i32) (.int .i64))) (.pair .bool (.int .i64)))) (.pair (.int .i64) (.row (.int .i64)))) (d0,d1,d2) 0),.one (.int .i64 i)]=>some (aao (d0,d1,d2,i)) | _=>none⟩
noncomputable def Kj:GP:=bS SA aao
theorem OP:∀a b,(SA a).map aB=(SA b).map aB->a=b:=by
 rintro⟨a0,a1,a2,a3⟩ ⟨b0,b1,b2,b3⟩ h;simp only[SA,zK,List.map_nil,aB,aS,List.drop_zero,zG,AV.one.injEq,AV.agg.injEq,Lf.int.injEq,Lf.str.injEq,Lf.bool.injEq,Lf.vrow.injEq,Lf.vptr.injEq,and_true,true_and,and_assoc] at h;obtain⟨h0,h1⟩:=h;have h0:=Ty.enc_inj _ h0;simp only[zF] at h0;obtain⟨rfl,rfl,rfl⟩:=h0;subst h1
 rfl
theorem Sz:bW Kj Zi:=aN OP (fun⟨_,_,_,_⟩ ⟨_,_,_,_⟩=>rfl) (fun⟨_,_,_,_⟩=>rfl) fun xs r h=>by
 simp only[Zi] at h;split at h
 .cases h;rename_i d0 d1 d2 i;exact⟨(d0,d1,d2,i),rfl,rfl⟩
 .cases h
theorem abb {S:SC}(hB:SB S) (Vy:aG S 302 (az OG)) (h507:S.has 507 f507):aG S 507 (az Kj):=by
 refine prM hB [] [⟨302,OG,WG⟩] trivial ⟨⟨Vy,UQ⟩,trivial⟩ h507 (fun⟨d0,d1,d2,i⟩=>⟨rfl,rfl,rfl⟩) (fun(d0,d1,d2,i)=>fun _ _ _ _=>none) 400 ?_;rintro⟨d0,d1,d2,i⟩ hc;have hc1:NwD d0 d2:=hc.1;have hc2:0<=i/\i<d2.length:=hc.2.1;refine VC.use (p:=DwS d0/\(d2.length:Int)=(stA d0 0).2.2/\(if 0<=i/\i<(d2.length:Int) then vk d0 i else [])=((wdA d0 d2).getD i.toNat ([],0)).1/\(if 0<=i/\i<(d2.length:Int) then d2.getD i.toNat 0 else 0)=((wdA d0 d2).getD i.toNat ([],0)).2) (by kernel_rfl) ?_;have h:=hc1.p;have e:=VS (d0:=d0) (d2:=d2) (i:=i.toNat) (by omega);rw[if_pos hc2,if_pos hc2,e,Int.toNat_of_nonneg hc2.1];exact⟨h.s,h.ct,rfl,rfl⟩
def Rm:List Int->List SV:=fun l=>[.one (.row (.int .i32) l)]
def aaP:List Int->SV×List Prop:=fun l=>(.one (.str (kC l)),[l.length<=1099511627776])
def QU:Con:=⟨true,[some (.int .i32)],fun xs=>match xs with | [.one (.row (.int .i32) l)]=>some (aaP l) | _=>none⟩
noncomputable def Ea:GP:=bS Rm aaP
theorem Pb:∀a b,(Rm a).map aB=(Rm b).map aB->a=b:=by
 rintro a0 b0 h;simp only[Rm,zK,List.map_nil,aB,aS,zG,AV.one.injEq,AV.agg.injEq,Lf.int.injEq,Lf.str.injEq,Lf.bool.injEq,Lf.vrow.injEq,and_true,true_and] at h;exact bD h
theorem Gm:bW Ea QU:=aN Pb (fun _ _=>rfl) (fun _=>rfl) fun xs r h=>by
 simp only[QU] at h;split at h
 .cases h;rename_i l;exact⟨l,rfl,rfl⟩
 .cases h
theorem aaW {S:SC}(hB:SB S) (q33:aG S 33 (az G33)) (h506:S.has 506 f506):aG S 506 (az Ea):=by
 refine prM hB [] [⟨33,G33,K33⟩] trivial ⟨⟨q33,VI⟩,trivial⟩ h506 (fun _=>⟨rfl,rfl,rfl⟩) (fun l=>fun _ _ _ _=>none) 400 ?_;rintro l hc;have hc1:l.length<=1099511627776:=hc.1;refine VC.use (p:=l.length<=1099511627776/\kC l=kC l) (by kernel_rfl) ?_;exact⟨hc1,rfl⟩
def Qm:(List ((List (Int×Int))×Bool×Int))×Int×List (Int)×List UInt8->List SV:=fun(d0,d1,d2,s)=>[.one (.vptr (.pair (.row (.pair (.row (.pair (.int .i32) (.int .i64))) (.pair .bool (.int .i64)))) (.pair (.int .i64) (.row (.int .i64)))) (d0,d1,d2) 0),.one (.str s)]
def ZP:(List ((List (Int×Int))×Bool×Int))×Int×List (Int)×List UInt8->SV×List Prop:=fun(d0,d1,d2,s)=>(.tup [.o (.int .i64 (bG (wdA d0 d2) s)),.o (.int .i64 (dY (wdA d0 d2) s))],[NwD d0 d2,s.length<=1099511627776])
def Xp:Con:=⟨true,[some (.pair (.row (.pair (.row (.pair (.int .i32) (.int .i64))) (.pair .bool (.int .i64)))) (.pair (.int .i64) (.row (.int .i64)))),none],fun xs=>match xs with | [.one (.vptr (.pair (.row (.pair (.row (.pair (.int .i32) (.int .i64))) (.pair .bool (.int .i64)))) (.pair (.int .i64) (.row (.int .i64)))) (d0,d1,d2) 0),.one (.str s)]=>some (ZP (d0,d1,d2,s)) | _=>none⟩
noncomputable def Nu:GP:=bS Qm ZP
theorem LF:∀a b,(Qm a).map aB=(Qm b).map aB->a=b:=by
 rintro⟨a0,a1,a2,a3⟩ ⟨b0,b1,b2,b3⟩ h;simp only[Qm,zK,List.map_nil,aB,aS,List.drop_zero,zG,AV.one.injEq,AV.agg.injEq,Lf.int.injEq,Lf.str.injEq,Lf.bool.injEq,Lf.vrow.injEq,Lf.vptr.injEq,and_true,true_and,and_assoc] at h;obtain⟨h0,h1⟩:=h;have h0:=Ty.enc_inj _ h0;simp only[zF] at h0;obtain⟨rfl,rfl,rfl⟩:=h0;subst h1
 rfl
theorem Tv:bW Nu Xp:=aN LF (fun⟨_,_,_,_⟩ ⟨_,_,_,_⟩=>rfl) (fun⟨_,_,_,_⟩=>rfl) fun xs r h=>by
 simp only[Xp] at h;split at h
 .cases h;rename_i d0 d1 d2 s;exact⟨(d0,d1,d2,s),rfl,rfl⟩
 .cases h
theorem aaQ {S:SC}(hB:SB S) (Xu:aG S 284 (az Pi)) (Xf:aG S 507 (az Kj)) (q65:aG S 65 (az G65)) (h511:S.has 511 f511) (h512:S.has 512 f512) (h513:S.has 513 f513) (h503:S.has 503 f503):aG S 503 (az Nu):=by
 refine prM hB [(511,f511),(512,f512),(513,f513)] [⟨284,Pi,Yj⟩,⟨507,Kj,Zi⟩,⟨65,G65,K65⟩] ⟨h511,h512,h513,trivial⟩ ⟨⟨Xu,Uq⟩,⟨Xf,Sz⟩,⟨q65,XL⟩,trivial⟩ h503 (fun⟨d0,d1,d2,s⟩=>⟨rfl,rfl,rfl⟩) (fun(d0,d1,d2,s)=>fun f id T L=>match f,id with
  |511,0=>match T.getD 1 .junk with | .one (.fn 512 _)=>some (.inv { x:Nat×Nat // x.1<=bG (wdA d0 d2) s/\bG (wdA d0 d2) s<=x.2/\x.2<=d2.length } (fun x=>([(5,.one (.int .i64 x.1.1)),(6,.one (.int .i64 x.1.2))],[])) (fun x=>x.1.2-x.1.1)) | .one (.fn 513 _)=>some (.inv { x:Nat×Nat // x.1<=dY (wdA d0 d2) s-bG (wdA d0 d2) s/\dY (wdA d0 d2) s-bG (wdA d0 d2) s<=x.2/\x.2<=d2.length-bG (wdA d0 d2) s } (fun x=>([(5,.one (.int .i64 x.1.1)),(6,.one (.int .i64 x.1.2))],[])) (fun x=>x.1.2-x.1.1)) | _=>none
  |_,_=>none) 2000 ?_
 rintro⟨d0,d1,d2,s⟩ hc;have hc1:NwD d0 d2:=hc.1;have hc2:s.length<=1099511627776:=hc.2.1;refine VC.use (p:=(∃x1:{ x:Nat×Nat // x.1<=bG (wdA d0 d2) s/\bG (wdA d0 d2) s<=x.2/\x.2<=d2.length },0=(x1.1.1:Int)/\(d2.length:Int)=(x1.1.2:Int)/\(d0,d1,d2)=(d0,d1,d2)/\s=s)/\(∀x1:{ x:Nat×Nat // x.1<=bG (wdA d0 d2) s/\bG (wdA d0 d2) s<=x.2/\x.2<=d2.length },((x1.1.1:Int)<(x1.1.2:Int)->aC ((x1.1.1:Int)+(x1.1.2:Int))/\aC ((IntKind.u64.wrap ((x1.1.1:Int)+(x1.1.2:Int))).fdiv 2)/\NwD d0 d2/\(0<=(IntKind.u64.wrap ((x1.1.1:Int)+(x1.1.2:Int))).fdiv 2/\(IntKind.u64.wrap ((x1.1.1:Int)+(x1.1.2:Int))).fdiv 2<(d2.length:Int))/\((!!aX ((wdA d0 d2).getD ((IntKind.u64.wrap ((x1.1.1:Int)+(x1.1.2:Int))).fdiv 2).toNat ([],0)).1 s)=true->aC ((IntKind.u64.wrap ((x1.1.1:Int)+(x1.1.2:Int))).fdiv 2+1)/\(∃x2:{ x:Nat×Nat // x.1<=bG (wdA d0 d2) s/\bG (wdA d0 d2) s<=x.2/\x.2<=d2.length },x2.1.2-x2.1.1<x1.1.2-x1.1.1/\(IntKind.u64.wrap ((x1.1.1:Int)+(x1.1.2:Int))).fdiv 2+1=(x2.1.1:Int)/\(x1.1.2:Int)=(x2.1.2:Int)/\(d0,d1,d2)=(d0,d1,d2)/\s=s))/\(¬(!!aX ((wdA d0 d2).getD ((IntKind.u64.wrap ((x1.1.1:Int)+(x1.1.2:Int))).fdiv 2).toNat ([],0)).1 s)=true->∃x2:{ x:Nat×Nat // x.1<=bG (wdA d0 d2) s/\bG (wdA d0 d2) s<=x.2/\x.2<=d2.length },x2.1.2-x2.1.1<x1.1.2-x1.1.1/\(x1.1.1:Int)=(x2.1.1:Int)/\(IntKind.u64.wrap ((x1.1.1:Int)+(x1.1.2:Int))).fdiv 2=(x2.1.2:Int)/\(d0,d1,d2)=(d0,d1,d2)/\s=s))/\(¬(x1.1.1:Int)<(x1.1.2:Int)->aC ((d2.length:Int)-(x1.1.1:Int))/\(∃x2:{ x:Nat×Nat // x.1<=dY (wdA d0 d2) s-bG (wdA d0 d2) s/\dY (wdA d0 d2) s-bG (wdA d0 d2) s<=x.2/\x.2<=d2.length-bG (wdA d0 d2) s },0=(x2.1.1:Int)/\(d2.length:Int)-(x1.1.1:Int)=(x2.1.2:Int)/\(d0,d1,d2)=(d0,d1,d2)/\s=s/\(x1.1.1:Int)=(x1.1.1:Int))/\(∀x2:{ x:Nat×Nat // x.1<=dY (wdA d0 d2) s-bG (wdA d0 d2) s/\dY (wdA d0 d2) s-bG (wdA d0 d2) s<=x.2/\x.2<=d2.length-bG (wdA d0 d2) s },((x2.1.1:Int)<(x2.1.2:Int)->aC ((x2.1.1:Int)+(x2.1.2:Int))/\aC ((IntKind.u64.wrap ((x2.1.1:Int)+(x2.1.2:Int))).fdiv 2)/\aC ((x1.1.1:Int)+(IntKind.u64.wrap ((x2.1.1:Int)+(x2.1.2:Int))).fdiv 2)/\NwD d0 d2/\(0<=(x1.1.1:Int)+(IntKind.u64.wrap ((x2.1.1:Int)+(x2.1.2:Int))).fdiv 2/\(x1.1.1:Int)+(IntKind.u64.wrap ((x2.1.1:Int)+(x2.1.2:Int))).fdiv 2<(d2.length:Int))/\((!!preB ((wdA d0 d2).getD ((x1.1.1:Int)+(IntKind.u64.wrap ((x2.1.1:Int)+(x2.1.2:Int))).fdiv 2).toNat ([],0)).1 s)=true->aC ((IntKind.u64.wrap ((x2.1.1:Int)+(x2.1.2:Int))).fdiv 2+1)/\(∃x3:{ x:Nat×Nat // x.1<=dY (wdA d0 d2) s-bG (wdA d0 d2) s/\dY (wdA d0 d2) s-bG (wdA d0 d2) s<=x.2/\x.2<=d2.length-bG (wdA d0 d2) s },x3.1.2-x3.1.1<x2.1.2-x2.1.1/\(IntKind.u64.wrap ((x2.1.1:Int)+(x2.1.2:Int))).fdiv 2+1=(x3.1.1:Int)/\(x2.1.2:Int)=(x3.1.2:Int)/\(d0,d1,d2)=(d0,d1,d2)/\s=s/\(x1.1.1:Int)=(x1.1.1:Int)))/\(¬(!!preB ((wdA d0 d2).getD ((x1.1.1:Int)+(IntKind.u64.wrap ((x2.1.1:Int)+(x2.1.2:Int))).fdiv 2).toNat ([],0)).1 s)=true->∃x3:{ x:Nat×Nat // x.1<=dY (wdA d0 d2) s-bG (wdA d0 d2) s/\dY (wdA d0 d2) s-bG (wdA d0 d2) s<=x.2/\x.2<=d2.length-bG (wdA d0 d2) s },x3.1.2-x3.1.1<x2.1.2-x2.1.1/\(x2.1.1:Int)=(x3.1.1:Int)/\(IntKind.u64.wrap ((x2.1.1:Int)+(x2.1.2:Int))).fdiv 2=(x3.1.2:Int)/\(d0,d1,d2)=(d0,d1,d2)/\s=s/\(x1.1.1:Int)=(x1.1.1:Int)))/\(¬(x2.1.1:Int)<(x2.1.2:Int)->aC ((x1.1.1:Int)+(x2.1.1:Int))/\(x1.1.1:Int)=(↑(bG (wdA d0 d2) s):Int)/\(x1.1.1:Int)+(x2.1.1:Int)=(↑(dY (wdA d0 d2) s):Int)))))) (by kernel_rfl) ?_;have hw:=hc1.p;have hr:mX (wdA d0 d2):=(pI.1 hw.e).2.1;have hpl:=FV (wdA d0 d2) s;obtain⟨q1,q2,q3,q4⟩:=jH (wdA d0 d2) s;rw[hw.len] at hpl q2;have hfew:=hw.few;refine⟨⟨⟨(0,d2.length),Nat.zero_le _,hpl,zJ _⟩,rfl,rfl,rfl,rfl⟩,?_⟩;rintro⟨⟨a,b⟩,h1,h2,h3⟩;dsimp only at h1 h2 h3 ⊢;rw[uN a b (by omega)];refine⟨fun h=>?_,fun h=>?_⟩
 .have hm1:(a+b) / 2<b:=by omega
  have hm2:a<=(a+b) / 2:=by omega
  generalize (a+b) / 2=m at hm1 hm2 ⊢;rw[Int.toNat_natCast];refine⟨by unfold aC;omega,by unfold aC;omega,hc1,⟨by omega,by omega⟩,fun h4=>?_,fun h4=>?_⟩
  .have h6:m<bG (wdA d0 d2) s:=by
    rcases Nat.lt_or_ge m (bG (wdA d0 d2) s) with h5 | h5
    .exact h5
    .have:=Fv hr h5 (by rw[hw.len];omega);rw[this] at h4;cases h4
   exact⟨by unfold aC;omega,⟨(m+1,b),h6,h2,h3⟩,by dsimp only;omega,by push_cast;rfl,rfl,rfl,rfl⟩
  .have h6:bG (wdA d0 d2) s<=m:=by
    rcases Nat.lt_or_ge m (bG (wdA d0 d2) s) with h5 | h5
    .have:=Hr h5;rw[this] at h4;exact absurd rfl h4
    .exact h5
   exact⟨⟨(a,m),h1,h6,by dsimp only;omega⟩,by dsimp only;omega,rfl,rfl,rfl,rfl⟩
 .obtain rfl:a=bG (wdA d0 d2) s:=by omega
  refine⟨by unfold aC;omega,⟨⟨(0,d2.length-bG (wdA d0 d2) s),Nat.zero_le _,by dsimp only;omega,zJ _⟩,rfl,by dsimp only;omega,rfl,rfl,rfl⟩,?_⟩;rintro⟨⟨a2,b2⟩,g1,g2,g3⟩;dsimp only at g1 g2 g3 ⊢;rw[uN a2 b2 (by omega)];refine⟨fun h5=>?_,fun h5=>?_⟩
  .have hm1:(a2+b2) / 2<b2:=by omega
   have hm2:a2<=(a2+b2) / 2:=by omega
   generalize (a2+b2) / 2=m at hm1 hm2 ⊢;have e:((bG (wdA d0 d2) s:Int)+(m:Int)).toNat=bG (wdA d0 d2) s+m:=by omega
   rw[e];have hlt:bG (wdA d0 d2) s+m<(wdA d0 d2).length:=by rw[hw.len];omega
   have hpi:=rW hr (s:=s) hlt;refine⟨by unfold aC;omega,by unfold aC;omega,by unfold aC;omega,hc1,⟨by omega,by omega⟩,fun h6=>?_,fun h6=>?_⟩
   .have h7:=(hpi.1 (by simpa using h6)).2;exact⟨by unfold aC;omega,⟨(m+1,b2),by dsimp only;omega,g2,g3⟩,by dsimp only;omega,by push_cast;rfl,rfl,rfl,rfl,rfl⟩
   .have h7:¬ bG (wdA d0 d2) s+m<dY (wdA d0 d2) s:=fun h8=>h6 (by rw[hpi.2 ⟨by omega,h8⟩];rfl)
    exact⟨⟨(a2,m),g1,by dsimp only;omega,by dsimp only;omega⟩,by dsimp only;omega,rfl,rfl,rfl,rfl,rfl⟩
  .exact⟨by unfold aC;omega,rfl,by omega⟩
def Qs:(List ((List (Int×Int))×Bool×Int))×Int×List (Int)×List Int->List SV:=fun(d0,d1,d2,l)=>[.one (.vptr (.pair (.row (.pair (.row (.pair (.int .i32) (.int .i64))) (.pair .bool (.int .i64)))) (.pair (.int .i64) (.row (.int .i64)))) (d0,d1,d2) 0),.one (.row (.int .i32) l)]
def aa9:(List ((List (Int×Int))×Bool×Int))×Int×List (Int)×List Int->SV×List Prop:=fun(d0,d1,d2,l)=>(.one (.row (.int .i64) (enL d0 l 0 0)),[lK d0,l.length<=1099511627776,∀r∈l,Utf8.valid r=true])
def Qt:Con:=⟨false,[some (.pair (.row (.pair (.row (.pair (.int .i32) (.int .i64))) (.pair .bool (.int .i64)))) (.pair (.int .i64) (.row (.int .i64)))),some (.int .i32)],fun xs=>match xs with | [.one (.vptr (.pair (.row (.pair (.row (.pair (.int .i32) (.int .i64))) (.pair .bool (.int .i64)))) (.pair (.int .i64) (.row (.int .i64)))) (d0,d1,d2) 0),.one (.row (.int .i32) l)]=>some (aa9 (d0,d1,d2,l)) | _=>none⟩
noncomputable def Ey:GP:=bS Qs aa9
theorem PR:∀a b,(Qs a).map aB=(Qs b).map aB->a=b:=by
 rintro⟨a0,a1,a2,a3⟩ ⟨b0,b1,b2,b3⟩ h;simp only[Qs,zK,List.map_nil,aB,aS,List.drop_zero,zG,AV.one.injEq,AV.agg.injEq,Lf.int.injEq,Lf.str.injEq,Lf.bool.injEq,Lf.vrow.injEq,Lf.vptr.injEq,and_true,true_and,and_assoc] at h;obtain⟨h0,h1⟩:=h;have h0:=Ty.enc_inj _ h0;simp only[zF] at h0;obtain⟨rfl,rfl,rfl⟩:=h0;obtain rfl:=bD h1
 rfl
theorem FX:bW Ey Qt:=aN PR (fun⟨_,_,_,_⟩ ⟨_,_,_,_⟩=>rfl) (fun⟨_,_,_,_⟩=>rfl) fun xs r h=>by
 simp only[Qt] at h;split at h
 .cases h;rename_i d0 d1 d2 l;exact⟨(d0,d1,d2,l),rfl,rfl⟩
 .cases h
theorem ZX {S:SC}(hB:SB S) (XK:aG S 286 (az Mj)) (Ir:aG S 289 (az Ez)) (h501:S.has 501 f501) (h510:S.has 510 f510) (h505:S.has 505 f505):aG S 505 (az Ey):=by
 refine prI hB [(501,f501),(510,f510)] [⟨286,Mj,XP⟩,⟨289,Ez,TN⟩] [] ⟨h501,h510,trivial⟩ ⟨⟨XK,TU⟩,⟨Ir,Hf⟩,trivial⟩ trivial h505 (fun⟨d0,d1,d2,l⟩=>⟨rfl,rfl,rfl⟩) (fun(d0,d1,d2,l)=>fun f id T L=>match f,id with
  |510,0=>some (.inv { x:Nat×Nat×List Int // x.1<=l.length/\x.2.1<d0.length/\x.2.2.length<=x.1/\enL d0 l 0 0=x.2.2++enL d0 (l.drop x.1) x.2.1 x.1 } (fun x=>([(4,.one (.int .i64 x.1.2.1)),(5,.one (.int .i64 x.1.1))],[(1,.cell [.osl 5]),(5,.row (.int .i64) x.1.2.2)])) (fun x=>l.length+1-x.1.1))
  |_,_=>none) 2000 ?_
 rintro⟨d0,d1,d2,l⟩ hc;have hc1:lK d0:=hc.1;have hc2:l.length<=1099511627776:=hc.2.1;have hc3:∀r∈l,Utf8.valid r=true:=hc.2.2.1;refine VC.use (p:=(∃x1:{ x:Nat×Nat×List Int // x.1<=l.length/\x.2.1<d0.length/\x.2.2.length<=x.1/\enL d0 l 0 0=x.2.2++enL d0 (List.drop x.1 l) (x.2.1:Int) (x.1:Int) },0=(x1.1.2.1:Int)/\0=(x1.1.1:Int)/\(d0,d1,d2)=(d0,d1,d2)/\x1.1.2.2=[]/\(d0,d1,d2)=(d0,d1,d2)/\l=l/\x1.1.2.2=[])/\(∀x1:{ x:Nat×Nat×List Int // x.1<=l.length/\x.2.1<d0.length/\x.2.2.length<=x.1/\enL d0 l 0 0=x.2.2++enL d0 (List.drop x.1 l) (x.2.1:Int) (x.1:Int) },((decide (0<=(x1.1.2.1:Int)/\(x1.1.2.1:Int)<(d0.length:Int))&&(stA d0 x1.1.2.1).2.1)=true->(x1.1.2.2.length+[(x1.1.1:Int)].length)*8<=140737488355328/\((x1.1.1:Int)<(l.length:Int)->(0<=(x1.1.1:Int)/\(x1.1.1:Int)<(l.length:Int))/\EdS d0/\IR (l.getD x1.1.1 0)/\((if 0<=(x1.1.2.1:Int)/\(x1.1.2.1:Int)<(d0.length:Int) then if bQ (stA d0 x1.1.2.1).1 (l.getD x1.1.1 0)=true then (0:Int) else (10:Int) else 2)=0->aC ((x1.1.1:Int)+1)/\(∃x2:{ x:Nat×Nat×List Int // x.1<=l.length/\x.2.1<d0.length/\x.2.2.length<=x.1/\enL d0 l 0 0=x.2.2++enL d0 (List.drop x.1 l) (x.2.1:Int) (x.1:Int) },l.length+1-x2.1.1<l.length+1-x1.1.1/\(if 0<=(x1.1.2.1:Int)/\(x1.1.2.1:Int)<(d0.length:Int) then dW (stA d0 x1.1.2.1).1 (l.getD x1.1.1 0) else 0)=(x2.1.2.1:Int)/\(x1.1.1:Int)+1=(x2.1.1:Int)/\(d0,d1,d2)=(d0,d1,d2)/\(d0,d1,d2)=(d0,d1,d2)/\l=l/\x1.1.2.2++[(x1.1.1:Int)]=x2.1.2.2))/\(¬(if 0<=(x1.1.2.1:Int)/\(x1.1.2.1:Int)<(d0.length:Int) then if bQ (stA d0 x1.1.2.1).1 (l.getD x1.1.1 0)=true then (0:Int) else (10:Int) else 2)=0->x1.1.2.2++[(x1.1.1:Int)]=enL d0 l 0 0))/\(¬(x1.1.1:Int)<(l.length:Int)->x1.1.2.2++[(x1.1.1:Int)]=enL d0 l 0 0))/\(¬(decide (0<=(x1.1.2.1:Int)/\(x1.1.2.1:Int)<(d0.length:Int))&&(stA d0 x1.1.2.1).2.1)=true->((x1.1.1:Int)<(l.length:Int)->(0<=(x1.1.1:Int)/\(x1.1.1:Int)<(l.length:Int))/\EdS d0/\IR (l.getD x1.1.1 0)/\((if 0<=(x1.1.2.1:Int)/\(x1.1.2.1:Int)<(d0.length:Int) then if bQ (stA d0 x1.1.2.1).1 (l.getD x1.1.1 0)=true then (0:Int) else (10:Int) else 2)=0->aC ((x1.1.1:Int)+1)/\(∃x2:{ x:Nat×Nat×List Int // x.1<=l.length/\x.2.1<d0.length/\x.2.2.length<=x.1/\enL d0 l 0 0=x.2.2++enL d0 (List.drop x.1 l) (x.2.1:Int) (x.1:Int) },l.length+1-x2.1.1<l.length+1-x1.1.1/\(if 0<=(x1.1.2.1:Int)/\(x1.1.2.1:Int)<(d0.length:Int) then dW (stA d0 x1.1.2.1).1 (l.getD x1.1.1 0) else 0)=(x2.1.2.1:Int)/\(x1.1.1:Int)+1=(x2.1.1:Int)/\(d0,d1,d2)=(d0,d1,d2)/\(d0,d1,d2)=(d0,d1,d2)/\l=l/\x1.1.2.2=x2.1.2.2))/\(¬(if 0<=(x1.1.2.1:Int)/\(x1.1.2.1:Int)<(d0.length:Int) then if bQ (stA d0 x1.1.2.1).1 (l.getD x1.1.1 0)=true then (0:Int) else (10:Int) else 2)=0->x1.1.2.2=enL d0 l 0 0))/\(¬(x1.1.1:Int)<(l.length:Int)->x1.1.2.2=enL d0 l 0 0)))) (by kernel_rfl) ?_;have hp0:=hc1.pos;refine⟨⟨⟨(0,0,[]),Nat.zero_le _,hp0,Nat.zero_le _,rfl⟩,rfl,rfl,rfl,rfl,rfl,rfl,rfl⟩,?_⟩;rintro⟨⟨i,a,o⟩,x1,x2,x3,x4⟩;dsimp only at x1 x2 x3 x4 ⊢;have hp:0<=(a:Int)/\(a:Int)<(d0.length:Int):=⟨by omega,by omega⟩;rw[decide_eq_true hp,Bool.true_and];simp only[if_pos hp];have hun:enL d0 (l.drop i) a i=(if (stA d0 a).2.1=true then [(i:Int)] else [])++(if i<l.length/\bQ (stA d0 a).1 (l.getD i 0)=true then enL d0 (l.drop (i+1)) (dW (stA d0 a).1 (l.getD i 0)) (i+1) else []):=by
  by_cases hk:i<l.length
  .rw[fe hk];show (if (stA d0 (a:Int).toNat).2.1=true then [(i:Int)] else [])++(if bQ (stA d0 (a:Int).toNat).1 (l.getD i 0)=true then enL d0 (l.drop (i+1)) (dW (stA d0 (a:Int).toNat).1 (l.getD i 0)) (i+1) else [])=_;rw[Int.toNat_natCast];by_cases hn:bQ (stA d0 a).1 (l.getD i 0)=true
   .rw[if_pos hn,if_pos (show i<l.length/\bQ (stA d0 a).1 (l.getD i 0)=true from⟨hk,hn⟩)]
   .rw[if_neg hn,if_neg (fun h:i<l.length/\bQ (stA d0 a).1 (l.getD i 0)=true=>hn h.2)]
  .rw[List.drop_of_length_le (by omega),if_neg (fun h:i<l.length/\bQ (stA d0 a).1 (l.getD i 0)=true=>hk h.1),List.append_nil];show (if (stA d0 (a:Int).toNat).2.1=true then [(i:Int)] else [])=_;rw[Int.toNat_natCast]
 rw[hun] at x4;refine⟨fun he=>⟨by simp only[zN];omega,?_⟩,fun he=>?_⟩
 .rw[if_pos he,<- zO] at x4;have x6:(o++[(i:Int)]).length<=i+1:=by rw[zL,zN];omega
  generalize o++[(i:Int)]=p at x4 x6 ⊢;refine⟨fun h=>?_,fun h=>?_⟩
  .have hk:i<l.length:=by omega
   have hv:Utf8.valid (l.getD i 0)=true:=hc3 _ (dX hk);have hIR:IR (l.getD i 0):=by have:=bA.1 hv;unfold IR;omega
   refine⟨⟨by omega,h⟩,hc1.eds,hIR,fun h2=>?_,fun h2=>?_⟩
   .have hn:bQ (stA d0 a).1 (l.getD i 0)=true:=by
     by_cases hn:bQ (stA d0 a).1 (l.getD i 0)=true
     .exact hn
     .rw[if_neg hn] at h2;cases h2
    rw[if_pos ⟨hk,hn⟩] at x4;have hto:=hc1.to a x2 _ (kE hn);dsimp only at hto;refine⟨by unfold aC;omega,⟨(i+1,(dW (stA d0 a).1 (l.getD i 0)).toNat,p),hk,by dsimp only;omega,x6,?_⟩,by dsimp only;omega,by dsimp only;omega,by push_cast;rfl,trivial,trivial,trivial,rfl⟩;dsimp only;rw[x4,Int.toNat_of_nonneg hto.1];push_cast;rfl
   .rw[if_neg (fun h3=>h2 (by rw[if_pos h3.2])),List.append_nil] at x4;exact x4.symm
  .rw[if_neg (fun h3=>h (by omega)),List.append_nil] at x4;exact x4.symm
 .rw[if_neg he,List.nil_append] at x4;have x6:o.length<=i+1:=by omega
  refine⟨fun h=>?_,fun h=>?_⟩
  .have hk:i<l.length:=by omega
   have hv:Utf8.valid (l.getD i 0)=true:=hc3 _ (dX hk);have hIR:IR (l.getD i 0):=by have:=bA.1 hv;unfold IR;omega
   refine⟨⟨by omega,h⟩,hc1.eds,hIR,fun h2=>?_,fun h2=>?_⟩
   .have hn:bQ (stA d0 a).1 (l.getD i 0)=true:=by
     by_cases hn:bQ (stA d0 a).1 (l.getD i 0)=true
     .exact hn
     .rw[if_neg hn] at h2;cases h2
    rw[if_pos ⟨hk,hn⟩] at x4;have hto:=hc1.to a x2 _ (kE hn);dsimp only at hto;refine⟨by unfold aC;omega,⟨(i+1,(dW (stA d0 a).1 (l.getD i 0)).toNat,o),hk,by dsimp only;omega,x6,?_⟩,by dsimp only;omega,by dsimp only;omega,by push_cast;rfl,trivial,trivial,trivial,rfl⟩;dsimp only;rw[x4,Int.toNat_of_nonneg hto.1];push_cast;rfl
   .rw[if_neg (fun h3=>h2 (by rw[if_pos h3.2])),List.append_nil] at x4;exact x4.symm
  .rw[if_neg (fun h3=>h (by omega)),List.append_nil] at x4;exact x4.symm
end Go.EA
end
section
set_option maxRecDepth 100000
set_option maxHeartbeats 0
namespace Go.EA
open F
def TC:(List ((List (Int×Int))×Bool×Int))×Int×List (Int)×List UInt8->List SV:=fun(d0,d1,d2,s)=>[.one (.vptr (.pair (.row (.pair (.row (.pair (.int .i32) (.int .i64))) (.pair .bool (.int .i64)))) (.pair (.int .i64) (.row (.int .i64)))) (d0,d1,d2) 0),.one (.str s)]
def abA:(List ((List (Int×Int))×Bool×Int))×Int×List (Int)×List UInt8->SV×List Prop:=fun(d0,d1,d2,s)=>(.tup [.o (.int .i64 (stE d0 s).1),.o (.int .i64 (stE d0 s).2)],[lK d0,s.length<=1099511627776])
def Wo:Con:=⟨true,[some (.pair (.row (.pair (.row (.pair (.int .i32) (.int .i64))) (.pair .bool (.int .i64)))) (.pair (.int .i64) (.row (.int .i64)))),none],fun xs=>match xs with | [.one (.vptr (.pair (.row (.pair (.row (.pair (.int .i32) (.int .i64))) (.pair .bool (.int .i64)))) (.pair (.int .i64) (.row (.int .i64)))) (d0,d1,d2) 0),.one (.str s)]=>some (abA (d0,d1,d2,s)) | _=>none⟩
noncomputable def OA:GP:=bS TC abA
theorem Ox:∀a b,(TC a).map aB=(TC b).map aB->a=b:=by
 rintro⟨a0,a1,a2,a3⟩ ⟨b0,b1,b2,b3⟩ h;simp only[TC,zK,List.map_nil,aB,aS,List.drop_zero,zG,AV.one.injEq,AV.agg.injEq,Lf.int.injEq,Lf.str.injEq,Lf.bool.injEq,Lf.vrow.injEq,Lf.vptr.injEq,and_true,true_and,and_assoc] at h;obtain⟨h0,h1⟩:=h;have h0:=Ty.enc_inj _ h0;simp only[zF] at h0;obtain⟨rfl,rfl,rfl⟩:=h0;subst h1
 rfl
theorem Tk:bW OA Wo:=aN Ox (fun⟨_,_,_,_⟩ ⟨_,_,_,_⟩=>rfl) (fun⟨_,_,_,_⟩=>rfl) fun xs r h=>by
 simp only[Wo] at h;split at h
 .cases h;rename_i d0 d1 d2 s;exact⟨(d0,d1,d2,s),rfl,rfl⟩
 .cases h
theorem aaR {S:SC}(hB:SB S) (Ir:aG S 289 (az Ez)) (rD:aG S 500 (az tZ)) (h501:S.has 501 f501) (h510:S.has 510 f510) (h489:S.has 489 f489):aG S 489 (az OA):=by
 refine prM hB [(501,f501),(510,f510)] [⟨289,Ez,TN⟩,⟨500,tZ,JF⟩] ⟨h501,h510,trivial⟩ ⟨⟨Ir,Hf⟩,⟨rD,rO⟩,trivial⟩ h489 (fun⟨d0,d1,d2,s⟩=>⟨rfl,rfl,rfl⟩) (fun(d0,d1,d2,s)=>fun f id T L=>match f,id with
  |510,0=>some (.inv { x:Nat×Nat // x.1<=(tkL s).length/\x.2<d0.length/\wlk d0 (tkL s) 0=wlk d0 ((tkL s).drop x.1) x.2 } (fun x=>([(4,.one (.int .i64 x.1.2)),(5,.one (.int .i64 x.1.1))],[])) (fun x=>(tkL s).length+1-x.1.1))
  |_,_=>none) 2000 ?_
 rintro⟨d0,d1,d2,s⟩ hc;have hc1:lK d0:=hc.1;have hc2:s.length<=1099511627776:=hc.2.1;refine VC.use (p:=s.length<=1099511627776/\(tkE s=0->(∃x1:{ x:Nat×Nat // x.1<=(tkL s).length/\x.2<d0.length/\wlk d0 (tkL s) 0=wlk d0 (List.drop x.1 (tkL s)) (x.2:Int) },0=(x1.1.2:Int)/\0=(x1.1.1:Int)/\(0:Int)=(0:Int)/\(0:Int)=(0:Int)/\tkL s=tkL s/\(d0,d1,d2)=(d0,d1,d2)/\tkL s=tkL s)/\(∀x1:{ x:Nat×Nat // x.1<=(tkL s).length/\x.2<d0.length/\wlk d0 (tkL s) 0=wlk d0 (List.drop x.1 (tkL s)) (x.2:Int) },((x1.1.1:Int)=(↑(tkL s).length:Int)->(x1.1.2:Int)=(stE d0 s).1/\0=(stE d0 s).2)/\(¬(x1.1.1:Int)=(↑(tkL s).length:Int)->((x1.1.1:Int)<(↑(tkL s).length:Int)->(0<=(x1.1.1:Int)/\(x1.1.1:Int)<(↑(tkL s).length:Int))/\EdS d0/\IR ((tkL s).getD x1.1.1 0)/\((if 0<=(x1.1.2:Int)/\(x1.1.2:Int)<(d0.length:Int) then if bQ (stA d0 x1.1.2).1 ((tkL s).getD x1.1.1 0)=true then (0:Int) else (10:Int) else 2)=0->aC ((x1.1.1:Int)+1)/\(∃x2:{ x:Nat×Nat // x.1<=(tkL s).length/\x.2<d0.length/\wlk d0 (tkL s) 0=wlk d0 (List.drop x.1 (tkL s)) (x.2:Int) },(tkL s).length+1-x2.1.1<(tkL s).length+1-x1.1.1/\(if 0<=(x1.1.2:Int)/\(x1.1.2:Int)<(d0.length:Int) then dW (stA d0 x1.1.2).1 ((tkL s).getD x1.1.1 0) else 0)=(x2.1.2:Int)/\(x1.1.1:Int)+1=(x2.1.1:Int)/\(0:Int)=(0:Int)/\(0:Int)=(0:Int)/\tkL s=tkL s/\(d0,d1,d2)=(d0,d1,d2)/\tkL s=tkL s))/\(¬(if 0<=(x1.1.2:Int)/\(x1.1.2:Int)<(d0.length:Int) then if bQ (stA d0 x1.1.2).1 ((tkL s).getD x1.1.1 0)=true then (0:Int) else (10:Int) else 2)=0->0=(stE d0 s).1/\10=(stE d0 s).2))/\(¬(x1.1.1:Int)<(↑(tkL s).length:Int)->0=(stE d0 s).1/\10=(stE d0 s).2))))/\(¬tkE s=0->0=(stE d0 s).1/\tkE s=(stE d0 s).2)) (by kernel_rfl) ?_;have hp0:=hc1.pos;refine⟨hc2,fun ht=>⟨⟨⟨(0,0),Nat.zero_le _,hp0,rfl⟩,rfl,rfl,rfl,rfl,rfl,rfl,rfl⟩,?_⟩,fun ht=>?_⟩
 .obtain⟨t1,t2,t3⟩:=uG ht;have hval:∀r∈tkL s,Utf8.valid r=true:=by rw[t3];exact jh t1
  have hlen:(tkL s).length<=64:=by rw[t3];exact t2
  have hE:stE d0 s=if (wlk d0 (tkL s) 0).2=true then ((wlk d0 (tkL s) 0).1,0) else (0,10):=by unfold stE;rw[if_pos ht]
  rintro⟨⟨i,a⟩,x1,x2,x3⟩;dsimp only at x1 x2 x3 ⊢;rw[hE];clear t3 hE;generalize tkL s=l at hval hlen x1 x3 ⊢;have hp:0<=(a:Int)/\(a:Int)<(d0.length:Int):=⟨by omega,by omega⟩;simp only[if_pos hp];refine⟨fun h=>?_,fun h=>⟨fun h2=>?_,fun h2=>absurd (show (i:Int)=(l.length:Int) by omega) h⟩⟩
  .rw[List.drop_of_length_le (by omega)] at x3;have x3:wlk d0 l 0=((a:Int),true):=x3;rw[x3,if_pos rfl];exact⟨rfl,rfl⟩
  .have hk:i<l.length:=by omega
   have hv:Utf8.valid (l.getD i 0)=true:=hval _ (dX hk);have hIR:IR (l.getD i 0):=by have:=bA.1 hv;unfold IR;omega
   rw[fe hk] at x3;have x3:wlk d0 l 0=if bQ (stA d0 (a:Int).toNat).1 (l.getD i 0)=true then wlk d0 (l.drop (i+1)) (dW (stA d0 (a:Int).toNat).1 (l.getD i 0)) else (0,false):=x3
   rw[Int.toNat_natCast] at x3;refine⟨⟨by omega,h2⟩,hc1.eds,hIR,fun h3=>?_,fun h3=>?_⟩
   .have hn:bQ (stA d0 a).1 (l.getD i 0)=true:=by
     by_cases hn:bQ (stA d0 a).1 (l.getD i 0)=true
     .exact hn
     .rw[if_neg hn] at h3;cases h3
    rw[if_pos hn] at x3;have hto:=hc1.to a x2 _ (kE hn);dsimp only at hto;refine⟨by unfold aC;omega,⟨(i+1,(dW (stA d0 a).1 (l.getD i 0)).toNat),hk,by dsimp only;omega,?_⟩,by dsimp only;omega,by dsimp only;omega,by push_cast;rfl,trivial,trivial,trivial,trivial,trivial⟩;dsimp only;rw[x3,Int.toNat_of_nonneg hto.1]
   .have hn:¬ bQ (stA d0 a).1 (l.getD i 0)=true:=fun hn=>h3 (by rw[if_pos hn])
    rw[if_neg hn] at x3;rw[x3];exact⟨rfl,rfl⟩
 .unfold stE;rw[if_neg ht];exact⟨rfl,rfl⟩
def RX:(List ((List (Int×Int))×Bool×Int))×Int×List (Int)×List UInt8->List SV:=fun(d0,d1,d2,s)=>[.one (.vptr (.pair (.row (.pair (.row (.pair (.int .i32) (.int .i64))) (.pair .bool (.int .i64)))) (.pair (.int .i64) (.row (.int .i64)))) (d0,d1,d2) 0),.one (.str s)]
def aav:(List ((List (Int×Int))×Bool×Int))×Int×List (Int)×List UInt8->SV×List Prop:=fun(d0,d1,d2,s)=>(.tup [.o (.int .i64 (coE (wdA d0 d2) s).1),.o (.int .i64 (coE (wdA d0 d2) s).2)],[NwD d0 d2,s.length<=1099511627776])
def Yy:Con:=⟨true,[some (.pair (.row (.pair (.row (.pair (.int .i32) (.int .i64))) (.pair .bool (.int .i64)))) (.pair (.int .i64) (.row (.int .i64)))),none],fun xs=>match xs with | [.one (.vptr (.pair (.row (.pair (.row (.pair (.int .i32) (.int .i64))) (.pair .bool (.int .i64)))) (.pair (.int .i64) (.row (.int .i64)))) (d0,d1,d2) 0),.one (.str s)]=>some (aav (d0,d1,d2,s)) | _=>none⟩
noncomputable def Oy:GP:=bS RX aav
theorem OT:∀a b,(RX a).map aB=(RX b).map aB->a=b:=by
 rintro⟨a0,a1,a2,a3⟩ ⟨b0,b1,b2,b3⟩ h;simp only[RX,zK,List.map_nil,aB,aS,List.drop_zero,zG,AV.one.injEq,AV.agg.injEq,Lf.int.injEq,Lf.str.injEq,Lf.bool.injEq,Lf.vrow.injEq,Lf.vptr.injEq,and_true,true_and,and_assoc] at h;obtain⟨h0,h1⟩:=h;have h0:=Ty.enc_inj _ h0;simp only[zF] at h0;obtain⟨rfl,rfl,rfl⟩:=h0;subst h1
 rfl
theorem Rq:bW Oy Yy:=aN OT (fun⟨_,_,_,_⟩ ⟨_,_,_,_⟩=>rfl) (fun⟨_,_,_,_⟩=>rfl) fun xs r h=>by
 simp only[Yy] at h;split at h
 .cases h;rename_i d0 d1 d2 s;exact⟨(d0,d1,d2,s),rfl,rfl⟩
 .cases h
theorem aat {S:SC}(hB:SB S) (rD:aG S 500 (az tZ)) (Wx:aG S 503 (az Nu)) (h491:S.has 491 f491):aG S 491 (az Oy):=by
 refine prM hB [] [⟨500,tZ,JF⟩,⟨503,Nu,Xp⟩] trivial ⟨⟨rD,rO⟩,⟨Wx,Tv⟩,trivial⟩ h491 (fun⟨d0,d1,d2,s⟩=>⟨rfl,rfl,rfl⟩) (fun(d0,d1,d2,s)=>fun _ _ _ _=>none) 400 ?_;rintro⟨d0,d1,d2,s⟩ hc;have hc1:NwD d0 d2:=hc.1;have hc2:s.length<=1099511627776:=hc.2.1;refine VC.use (p:=s.length<=1099511627776/\(tkE s=0->NwD d0 d2/\s.length<=1099511627776/\aC ((↑(dY (wdA d0 d2) s):Int)-(↑(bG (wdA d0 d2) s):Int))/\(↑(dY (wdA d0 d2) s):Int)-(↑(bG (wdA d0 d2) s):Int)=(coE (wdA d0 d2) s).1/\0=(coE (wdA d0 d2) s).2)/\(¬tkE s=0->0=(coE (wdA d0 d2) s).1/\tkE s=(coE (wdA d0 d2) s).2)) (by kernel_rfl) ?_;refine⟨hc2,fun ht=>?_,fun ht=>?_⟩
 .have hw:=hc1.p;obtain⟨q1,q2,_,_⟩:=jH (wdA d0 d2) s;have h1:=hw.few;have h2:=hw.len;unfold coE;rw[if_pos ht];exact⟨hc1,hc2,by unfold aC;omega,rfl,rfl⟩
 .unfold coE;rw[if_neg ht];exact⟨rfl,rfl⟩
def Sl:(List ((List (Int×Int))×Bool×Int))×Int×List (Int)×List UInt8->List SV:=fun(d0,d1,d2,s)=>[.one (.vptr (.pair (.row (.pair (.row (.pair (.int .i32) (.int .i64))) (.pair .bool (.int .i64)))) (.pair (.int .i64) (.row (.int .i64)))) (d0,d1,d2) 0),.one (.str s)]
def aaF:(List ((List (Int×Int))×Bool×Int))×Int×List (Int)×List UInt8->SV×List Prop:=fun(d0,d1,d2,s)=>(.tup [.o (.str (loE d0 s).1),.o (.int .i64 (loE d0 s).2)],[lK d0,s.length<=1099511627776])
def UG:Con:=⟨true,[some (.pair (.row (.pair (.row (.pair (.int .i32) (.int .i64))) (.pair .bool (.int .i64)))) (.pair (.int .i64) (.row (.int .i64)))),none],fun xs=>match xs with | [.one (.vptr (.pair (.row (.pair (.row (.pair (.int .i32) (.int .i64))) (.pair .bool (.int .i64)))) (.pair (.int .i64) (.row (.int .i64)))) (d0,d1,d2) 0),.one (.str s)]=>some (aaF (d0,d1,d2,s)) | _=>none⟩
noncomputable def El:GP:=bS Sl aaF
theorem Na:∀a b,(Sl a).map aB=(Sl b).map aB->a=b:=by
 rintro⟨a0,a1,a2,a3⟩ ⟨b0,b1,b2,b3⟩ h;simp only[Sl,zK,List.map_nil,aB,aS,List.drop_zero,zG,AV.one.injEq,AV.agg.injEq,Lf.int.injEq,Lf.str.injEq,Lf.bool.injEq,Lf.vrow.injEq,Lf.vptr.injEq,and_true,true_and,and_assoc] at h;obtain⟨h0,h1⟩:=h;have h0:=Ty.enc_inj _ h0;simp only[zF] at h0;obtain⟨rfl,rfl,rfl⟩:=h0;subst h1
 rfl
theorem Gy:bW El UG:=aN Na (fun⟨_,_,_,_⟩ ⟨_,_,_,_⟩=>rfl) (fun⟨_,_,_,_⟩=>rfl) fun xs r h=>by
 simp only[UG] at h;split at h
 .cases h;rename_i d0 d1 d2 s;exact⟨(d0,d1,d2,s),rfl,rfl⟩
 .cases h
theorem aaM {S:SC}(hB:SB S) (rD:aG S 500 (az tZ)) (IC:aG S 505 (az Ey)) (JH:aG S 506 (az Ea)) (h493:S.has 493 f493):aG S 493 (az El):=by
 refine prM hB [] [⟨500,tZ,JF⟩,⟨505,Ey,Qt⟩,⟨506,Ea,QU⟩] trivial ⟨⟨rD,rO⟩,⟨IC,FX⟩,⟨JH,Gm⟩,trivial⟩ h493 (fun⟨d0,d1,d2,s⟩=>⟨rfl,rfl,rfl⟩) (fun(d0,d1,d2,s)=>fun _ _ _ _=>none) 400 ?_;rintro⟨d0,d1,d2,s⟩ hc;have hc1:lK d0:=hc.1;have hc2:s.length<=1099511627776:=hc.2.1;refine VC.use (p:=s.length<=1099511627776/\(tkE s=0->lK d0/\(tkL s).length<=1099511627776/\(∀(r:Int),r∈tkL s->Utf8.valid r=true)/\((↑(enL d0 (tkL s) 0 0).length:Int)=0->[]=(loE d0 s).1/\10=(loE d0 s).2)/\(¬(↑(enL d0 (tkL s) 0 0).length:Int)=0->aC ((↑(enL d0 (tkL s) 0 0).length:Int)-1)/\(0<=(↑(enL d0 (tkL s) 0 0).length:Int)-1/\(↑(enL d0 (tkL s) 0 0).length:Int)-1<(↑(enL d0 (tkL s) 0 0).length:Int))/\(0<=(enL d0 (tkL s) 0 0).getD ((↑(enL d0 (tkL s) 0 0).length:Int)-1).toNat 0/\(enL d0 (tkL s) 0 0).getD ((↑(enL d0 (tkL s) 0 0).length:Int)-1).toNat 0<=(↑(tkL s).length:Int))/\(aH (tkL s) none (some ((enL d0 (tkL s) 0 0).getD ((↑(enL d0 (tkL s) 0 0).length:Int)-1).toNat 0))).length<=1099511627776/\kC (aH (tkL s) none (some ((enL d0 (tkL s) 0 0).getD ((↑(enL d0 (tkL s) 0 0).length:Int)-1).toNat 0)))=(loE d0 s).1/\0=(loE d0 s).2))/\(¬tkE s=0->[]=(loE d0 s).1/\tkE s=(loE d0 s).2)) (by kernel_rfl) ?_;refine⟨hc2,fun ht=>?_,fun ht=>?_⟩
 .obtain⟨t1,t2,t3⟩:=uG ht;have hval:∀r∈tkL s,Utf8.valid r=true:=by rw[t3];exact jh t1
  have hlen:(tkL s).length<=64:=by rw[t3];exact t2
  have hel:=xK d0 (tkL s) 0 0;refine⟨hc1,by omega,hval,fun h=>?_,fun h=>?_⟩
  .unfold loE;rw[if_pos ht,if_pos (by omega)];exact⟨rfl,rfl⟩
  .have e:(((enL d0 (tkL s) 0 0).length:Int)-1).toNat=(enL d0 (tkL s) 0 0).length-1:=by omega
   have hm:(enL d0 (tkL s) 0 0).getD ((enL d0 (tkL s) 0 0).length-1) 0∈enL d0 (tkL s) 0 0:=dX (by omega);have hb:=sQ d0 (tkL s) 0 0 _ hm;have hE:loE d0 s=(kC ((tkL s).take ((enL d0 (tkL s) 0 0).getD ((enL d0 (tkL s) 0 0).length-1) 0).toNat),0):=by
    unfold loE;rw[if_pos ht,if_neg (by omega)]
   rw[e,hE];have hcut:aH (tkL s) none (some ((enL d0 (tkL s) 0 0).getD ((enL d0 (tkL s) 0 0).length-1) 0))=(tkL s).take ((enL d0 (tkL s) 0 0).getD ((enL d0 (tkL s) 0 0).length-1) 0).toNat:=rfl;rw[hcut];exact⟨by unfold aC;omega,⟨by omega,by omega⟩,⟨by omega,by omega⟩,by rw[zP];omega,rfl,rfl⟩
 .unfold loE;rw[if_neg ht];exact⟨rfl,rfl⟩
end Go.EA
end
section
set_option maxRecDepth 100000
set_option maxHeartbeats 0
namespace Go.EA
open F
def TF:(List (List UInt8×Int))×List UInt8->List SV:=fun(l,s)=>[.one (.row (.pair .str (.int .i64)) l),.one (.str s)]
def aaY:(List (List UInt8×Int))×List UInt8->SV×List Prop:=fun(l,s)=>(.tup [.o (.int .i64 (stE (List.map stD (bg l)) s).1),.o (.int .i64 (stE (List.map stD (bg l)) s).2)],[isE l=0,SmW l,s.length<=1099511627776])
def Yo:Con:=⟨true,[some (.pair .str (.int .i64)),none],fun xs=>match xs with | [.one (.row (.pair .str (.int .i64)) l),.one (.str s)]=>some (aaY (l,s)) | _=>none⟩
noncomputable def Nn:GP:=bS TF aaY
theorem KA:∀a b,(TF a).map aB=(TF b).map aB->a=b:=by
 rintro⟨a0,a1⟩ ⟨b0,b1⟩ h;simp only[TF,zK,List.map_nil,aB,aS,zG,AV.one.injEq,AV.agg.injEq,Lf.int.injEq,Lf.str.injEq,Lf.bool.injEq,Lf.vrow.injEq,and_true,true_and,and_assoc] at h;obtain⟨h0,h1⟩:=h;have h0:=bD h0;subst h0 h1
 rfl
theorem Su:bW Nn Yo:=aN KA (fun⟨_,_⟩ ⟨_,_⟩=>rfl) (fun⟨_,_⟩=>rfl) fun xs r h=>by
 simp only[Yo] at h;split at h
 .cases h;rename_i l s;exact⟨(l,s),rfl,rfl⟩
 .cases h
theorem ZR {S:SC}(hB:SB S) (q19:aG S 19 (az G19)) (XE:aG S 280 (az Nt)) (VX:aG S 290 (az NN)) (yP:aG S 502 (az yM)) (h490:S.has 490 f490):aG S 490 (az Nn):=by
 refine prM hB [] [⟨19,G19,K19⟩,⟨280,Nt,YJ⟩,⟨290,NN,Wh⟩,⟨502,yM,NJ⟩] trivial ⟨⟨q19,xY⟩,⟨XE,Rf⟩,⟨VX,TL⟩,⟨yP,yY⟩,trivial⟩ h490 (fun⟨l,s⟩=>⟨rfl,rfl,rfl⟩) (fun(l,s)=>fun f id T L=>match f,id with
  |490,0=>some (.inv { x:Nat×Nat // x.1<=(aF s).length/\x.2<(bg l).length/\wlk (List.map stD (bg l)) (aF s) 0=wlk (List.map stD (bg l)) ((aF s).drop x.1) x.2 } (fun x=>([(29,.one (.int .i64 x.1.1)),(10,.one (.int .i64 x.1.2))],[])) (fun x=>(aF s).length-x.1.1))
  |_,_=>none) 2000 ?_
 rintro⟨l,s⟩ hc;have hc1:isE l=0:=hc.1;have hc2:SmW l:=hc.2.1;have hc3:s.length<=1099511627776:=hc.2.2.1;refine VC.use (p:=s.length<=1099511627776/\(tkE s=0->isE l=0/\SmW l/\s.length<=1099511627776/\(∃x1:{ x:Nat×Nat // x.1<=(aF s).length/\x.2<(bg l).length/\wlk (List.map stD (bg l)) (aF s) 0=wlk (List.map stD (bg l)) (List.drop x.1 (aF s)) (x.2:Int) },bg l=bg l/\0=(x1.1.2:Int)/\aF s=aF s/\(↑(aF s).length:Int)=(↑(aF s).length:Int)/\0=(x1.1.1:Int))/\(∀x1:{ x:Nat×Nat // x.1<=(aF s).length/\x.2<(bg l).length/\wlk (List.map stD (bg l)) (aF s) 0=wlk (List.map stD (bg l)) (List.drop x.1 (aF s)) (x.2:Int) },((x1.1.1:Int)<(↑(aF s).length:Int)->(0<=(x1.1.1:Int)/\(x1.1.1:Int)<(↑(aF s).length:Int))/\(0<=(x1.1.2:Int)/\(x1.1.2:Int)<(↑(bg l).length:Int))/\List.length ((bg l).getD x1.1.2 ([],false,[])).2.2<=1099511627776/\((!bQ ((bg l).getD x1.1.2 ([],false,[])).2.2 ((aF s).getD x1.1.1 0))=true->0=(stE (List.map stD (bg l)) s).1/\10=(stE (List.map stD (bg l)) s).2)/\(¬(!bQ ((bg l).getD x1.1.2 ([],false,[])).2.2 ((aF s).getD x1.1.1 0))=true->aC ((x1.1.1:Int)+1)/\(∃x2:{ x:Nat×Nat // x.1<=(aF s).length/\x.2<(bg l).length/\wlk (List.map stD (bg l)) (aF s) 0=wlk (List.map stD (bg l)) (List.drop x.1 (aF s)) (x.2:Int) },(aF s).length-x2.1.1<(aF s).length-x1.1.1/\bg l=bg l/\dW ((bg l).getD x1.1.2 ([],false,[])).2.2 ((aF s).getD x1.1.1 0)=(x2.1.2:Int)/\aF s=aF s/\(↑(aF s).length:Int)=(↑(aF s).length:Int)/\(x1.1.1:Int)+1=(x2.1.1:Int))))/\(¬(x1.1.1:Int)<(↑(aF s).length:Int)->(x1.1.2:Int)=(stE (List.map stD (bg l)) s).1/\0=(stE (List.map stD (bg l)) s).2)))/\(¬tkE s=0->0=(stE (List.map stD (bg l)) s).1/\tkE s=(stE (List.map stD (bg l)) s).2)) (by kernel_rfl) ?_;refine⟨hc3,fun ht=>⟨hc1,hc2,hc3,⟨⟨(0,0),Nat.zero_le _,(sts hc1).pos,rfl⟩,rfl,rfl,rfl,rfl,rfl⟩,?_⟩,fun ht=>?_⟩
 .obtain⟨t1,t2,t3⟩:=uG ht;have hS:=sts hc1;have hEd:=hS.eds (nml hc1).tot;have hE:stE (List.map stD (bg l)) s=if (wlk (List.map stD (bg l)) (aF s) 0).2=true then ((wlk (List.map stD (bg l)) (aF s) 0).1,0) else (0,10):=by
   unfold stE;rw[if_pos ht,t3]
  rintro⟨⟨i,a⟩,x1,x2,x3⟩;dsimp only at x1 x2 x3 ⊢;rw[hE];have hel:(rAt (bg l) a).2.2.length<=1099511627776:=by
   have h1:=(hEd.at a).2.2;have e:(List.map stD (bg l)).getD a ([],false,0)=stD (rAt (bg l) a):=dD x2;rw[e] at h1;have h1:(rAt (bg l) a).2.2.length<=4194305:=h1;omega
  have hrt:(bg l).getD a ([],false,[])=rAt (bg l) a:=rfl;rw[hrt];refine⟨fun h=>?_,fun h=>?_⟩
  .have hk:i<(aF s).length:=by omega
   rw[fe hk,MQ x2] at x3;generalize (aF s).getD i 0=r at x3 ⊢;refine⟨⟨by omega,h⟩,⟨by omega,by omega⟩,hel,fun h2=>?_,fun h2=>?_⟩
   .rw[if_neg (by simpa using h2)] at x3;rw[x3];exact⟨rfl,rfl⟩
   .have hn:bQ (rAt (bg l) a).2.2 r=true:=by simpa using h2
    rw[if_pos hn] at x3;obtain⟨n,h3,h4,_⟩:=(hS.g _ (hS.mem x2)).to _ (kE hn);dsimp only at h3;rw[h3] at x3 ⊢;exact⟨by unfold aC;omega,⟨(i+1,n),hk,h4,x3⟩,by dsimp only;omega,rfl,rfl,rfl,rfl,by push_cast;rfl⟩
  .rw[List.drop_of_length_le (by omega)] at x3;have x3:wlk (List.map stD (bg l)) (aF s) 0=((a:Int),true):=x3;rw[x3,if_pos rfl];exact⟨rfl,rfl⟩
 .unfold stE;rw[if_neg ht];exact⟨rfl,rfl⟩
def Ua:(List (List UInt8×Int))×List UInt8->List SV:=fun(l,s)=>[.one (.row (.pair .str (.int .i64)) l),.one (.str s)]
def abt:(List (List UInt8×Int))×List UInt8->SV×List Prop:=fun(l,s)=>(.tup [.o (.int .i64 (coR l s).1),.o (.int .i64 (coR l s).2)],[l.length<=1099511627776,s.length<=1099511627776])
def Xr:Con:=⟨true,[some (.pair .str (.int .i64)),none],fun xs=>match xs with | [.one (.row (.pair .str (.int .i64)) l),.one (.str s)]=>some (abt (l,s)) | _=>none⟩
noncomputable def NV:GP:=bS Ua abt
theorem Mi:∀a b,(Ua a).map aB=(Ua b).map aB->a=b:=by
 rintro⟨a0,a1⟩ ⟨b0,b1⟩ h;simp only[Ua,zK,List.map_nil,aB,aS,zG,AV.one.injEq,AV.agg.injEq,Lf.int.injEq,Lf.str.injEq,Lf.bool.injEq,Lf.vrow.injEq,and_true,true_and,and_assoc] at h;obtain⟨h0,h1⟩:=h;have h0:=bD h0;subst h0 h1
 rfl
theorem Rb:bW NV Xr:=aN Mi (fun⟨_,_⟩ ⟨_,_⟩=>rfl) (fun⟨_,_⟩=>rfl) fun xs r h=>by
 simp only[Xr] at h;split at h
 .cases h;rename_i l s;exact⟨(l,s),rfl,rfl⟩
 .cases h
theorem abf {S:SC}(hB:SB S) (yP:aG S 502 (az yM)) (Jl:aG S 504 (az Ef)) (h492:S.has 492 f492):aG S 492 (az NV):=by
 refine prM hB [] [⟨502,yM,NJ⟩,⟨504,Ef,Rj⟩] trivial ⟨⟨yP,yY⟩,⟨Jl,Fx⟩,trivial⟩ h492 (fun⟨l,s⟩=>⟨rfl,rfl,rfl⟩) (fun(l,s)=>fun f id T L=>match f,id with
  |492,0=>some (.inv { i:Nat // i<=l.length } (fun x=>([(17,.one (.int .i64 x.1)),(7,.one (.int .i64 ((l.take x.1).filter fun w=>preB w.1 s).length))],[])) (fun x=>l.length-x.1))
  |_,_=>none) 2000 ?_
 rintro⟨l,s⟩ hc;have hc1:l.length<=1099511627776:=hc.1;have hc2:s.length<=1099511627776:=hc.2.1;refine VC.use (p:=s.length<=1099511627776/\(tkE s=0->(∃x1:{ i:Nat // i<=l.length },s=s/\0=(↑(List.filter (fun w=>preB w.1 s) (List.take x1.1 l)).length:Int)/\l=l/\(l.length:Int)=(l.length:Int)/\0=(x1.1:Int))/\(∀x1:{ i:Nat // i<=l.length },((x1.1:Int)<(l.length:Int)->(0<=(x1.1:Int)/\(x1.1:Int)<(l.length:Int))/\(preB (l.getD x1.1 ([],0)).1 s=true->aC ((↑(List.filter (fun w=>preB w.1 s) (List.take x1.1 l)).length:Int)+1)/\aC ((x1.1:Int)+1)/\(∃x2:{ i:Nat // i<=l.length },l.length-x2.1<l.length-x1.1/\s=s/\(↑(List.filter (fun w=>preB w.1 s) (List.take x1.1 l)).length:Int)+1=(↑(List.filter (fun w=>preB w.1 s) (List.take x2.1 l)).length:Int)/\l=l/\(l.length:Int)=(l.length:Int)/\(x1.1:Int)+1=(x2.1:Int)))/\(¬preB (l.getD x1.1 ([],0)).1 s=true->aC ((x1.1:Int)+1)/\(∃x2:{ i:Nat // i<=l.length },l.length-x2.1<l.length-x1.1/\s=s/\(↑(List.filter (fun w=>preB w.1 s) (List.take x1.1 l)).length:Int)=(↑(List.filter (fun w=>preB w.1 s) (List.take x2.1 l)).length:Int)/\l=l/\(l.length:Int)=(l.length:Int)/\(x1.1:Int)+1=(x2.1:Int))))/\(¬(x1.1:Int)<(l.length:Int)->(↑(List.filter (fun w=>preB w.1 s) (List.take x1.1 l)).length:Int)=(coR l s).1/\0=(coR l s).2)))/\(¬tkE s=0->0=(coR l s).1/\tkE s=(coR l s).2)) (by kernel_rfl) ?_;refine⟨hc2,fun ht=>⟨⟨⟨0,Nat.zero_le _⟩,rfl,rfl,rfl,rfl,rfl⟩,?_⟩,fun ht=>?_⟩
 .rintro⟨i,hi⟩;dsimp only;have hfl:((l.take i).filter fun w=>preB w.1 s).length<=i:=Nat.le_trans (List.length_filter_le ..) (by rw[zP];omega);refine⟨fun h=>⟨⟨by omega,h⟩,fun h2=>⟨by unfold aC;omega,by unfold aC;omega,⟨i+1,by omega⟩,by dsimp only;omega,rfl,?_,rfl,rfl,by push_cast;rfl⟩,fun h2=>⟨by unfold aC;omega,⟨i+1,by omega⟩,by dsimp only;omega,rfl,?_,rfl,rfl,by push_cast;rfl⟩⟩,fun h=>?_⟩
  .dsimp only;rw[vZ _ (by omega),if_pos h2,zL];push_cast;rfl
  .dsimp only;rw[vZ _ (by omega),if_neg h2,List.append_nil]
  .rw[List.take_of_length_le (by omega)];unfold coR;rw[if_pos ht];exact⟨rfl,rfl⟩
 .unfold coR;rw[if_neg ht];exact⟨rfl,rfl⟩
def Ux:(List (List UInt8×Int))×List UInt8->List SV:=fun(l,s)=>[.one (.row (.pair .str (.int .i64)) l),.one (.str s)]
def abv:(List (List UInt8×Int))×List UInt8->SV×List Prop:=fun(l,s)=>(.tup [.o (.str (loR l s).1),.o (.int .i64 (loR l s).2)],[l.length<=1099511627776,s.length<=1099511627776])
def XG:Con:=⟨true,[some (.pair .str (.int .i64)),none],fun xs=>match xs with | [.one (.row (.pair .str (.int .i64)) l),.one (.str s)]=>some (abv (l,s)) | _=>none⟩
noncomputable def Ms:GP:=bS Ux abv
theorem Oi:∀a b,(Ux a).map aB=(Ux b).map aB->a=b:=by
 rintro⟨a0,a1⟩ ⟨b0,b1⟩ h;simp only[Ux,zK,List.map_nil,aB,aS,zG,AV.one.injEq,AV.agg.injEq,Lf.int.injEq,Lf.str.injEq,Lf.bool.injEq,Lf.vrow.injEq,and_true,true_and,and_assoc] at h;obtain⟨h0,h1⟩:=h;have h0:=bD h0;subst h0 h1
 rfl
theorem Qv:bW Ms XG:=aN Oi (fun⟨_,_⟩ ⟨_,_⟩=>rfl) (fun⟨_,_⟩=>rfl) fun xs r h=>by
 simp only[XG] at h;split at h
 .cases h;rename_i l s;exact⟨(l,s),rfl,rfl⟩
 .cases h
theorem Zw {S:SC}(hB:SB S) (yP:aG S 502 (az yM)) (Jl:aG S 504 (az Ef)) (h494:S.has 494 f494):aG S 494 (az Ms):=by
 refine prM hB [] [⟨502,yM,NJ⟩,⟨504,Ef,Rj⟩] trivial ⟨⟨yP,yY⟩,⟨Jl,Fx⟩,trivial⟩ h494 (fun⟨l,s⟩=>⟨rfl,rfl,rfl⟩) (fun(l,s)=>fun f id T L=>match f,id with
  |494,0=>some (.inv { i:Nat // i<=l.length } (fun x=>([(17,.one (.int .i64 x.1)),(7,.one (.str (iU (l.take x.1) s)))],[])) (fun x=>l.length-x.1))
  |_,_=>none) 2000 ?_
 rintro⟨l,s⟩ hc;have hc1:l.length<=1099511627776:=hc.1;have hc2:s.length<=1099511627776:=hc.2.1;refine VC.use (p:=s.length<=1099511627776/\(tkE s=0->(∃x1:{ i:Nat // i<=l.length },s=s/\[]=iU (List.take x1.1 l) s/\l=l/\(l.length:Int)=(l.length:Int)/\0=(x1.1:Int))/\(∀x1:{ i:Nat // i<=l.length },((x1.1:Int)<(l.length:Int)->(0<=(x1.1:Int)/\(x1.1:Int)<(l.length:Int))/\(preB s (l.getD x1.1 ([],0)).1=true->((↑(iU (List.take x1.1 l) s).length:Int)<(↑(List.length (l.getD x1.1 ([],0)).1):Int)->aC ((x1.1:Int)+1)/\(∃x2:{ i:Nat // i<=l.length },l.length-x2.1<l.length-x1.1/\s=s/\(l.getD x1.1 ([],0)).1=iU (List.take x2.1 l) s/\l=l/\(l.length:Int)=(l.length:Int)/\(x1.1:Int)+1=(x2.1:Int)))/\(¬(↑(iU (List.take x1.1 l) s).length:Int)<(↑(List.length (l.getD x1.1 ([],0)).1):Int)->aC ((x1.1:Int)+1)/\(∃x2:{ i:Nat // i<=l.length },l.length-x2.1<l.length-x1.1/\s=s/\iU (List.take x1.1 l) s=iU (List.take x2.1 l) s/\l=l/\(l.length:Int)=(l.length:Int)/\(x1.1:Int)+1=(x2.1:Int))))/\(¬preB s (l.getD x1.1 ([],0)).1=true->aC ((x1.1:Int)+1)/\(∃x2:{ i:Nat // i<=l.length },l.length-x2.1<l.length-x1.1/\s=s/\iU (List.take x1.1 l) s=iU (List.take x2.1 l) s/\l=l/\(l.length:Int)=(l.length:Int)/\(x1.1:Int)+1=(x2.1:Int))))/\(¬(x1.1:Int)<(l.length:Int)->(iU (List.take x1.1 l) s=[]->[]=(loR l s).1/\10=(loR l s).2)/\(¬iU (List.take x1.1 l) s=[]->iU (List.take x1.1 l) s=(loR l s).1/\0=(loR l s).2))))/\(¬tkE s=0->[]=(loR l s).1/\tkE s=(loR l s).2)) (by kernel_rfl) ?_;refine⟨hc2,fun ht=>⟨⟨⟨0,Nat.zero_le _⟩,rfl,rfl,rfl,rfl,rfl⟩,?_⟩,fun ht=>?_⟩
 .rintro⟨i,hi⟩;dsimp only;refine⟨fun h=>⟨⟨by omega,h⟩,fun h2=>⟨fun h3=>⟨by unfold aC;omega,⟨i+1,by omega⟩,by dsimp only;omega,rfl,?_,rfl,rfl,by push_cast;rfl⟩,fun h3=>⟨by unfold aC;omega,⟨i+1,by omega⟩,by dsimp only;omega,rfl,?_,rfl,rfl,by push_cast;rfl⟩⟩,fun h2=>⟨by unfold aC;omega,⟨i+1,by omega⟩,by dsimp only;omega,rfl,?_,rfl,rfl,by push_cast;rfl⟩⟩,fun h=>?_⟩
  .dsimp only;rw[qw s (by omega),if_pos h2,if_pos (by omega)]
  .dsimp only;rw[qw s (by omega),if_pos h2,if_neg (by omega)]
  .dsimp only;rw[qw s (by omega),if_neg h2]
  .rw[List.take_of_length_le (by omega)];unfold loR;rw[if_pos ht];refine⟨fun h2=>?_,fun h2=>?_⟩
   .rw[if_pos h2];exact⟨rfl,rfl⟩
   .rw[if_neg h2];exact⟨rfl,rfl⟩
 .unfold loR;rw[if_neg ht];exact⟨rfl,rfl⟩
end Go.EA
end
section
set_option maxRecDepth 100000
set_option maxHeartbeats 0
namespace Go.EA
open F
def enX (d:List StD) (s:List UInt8) (i:Nat):List Int:=enL d (aH (tkL s) (some ((i:Int)-1)) none) 0 0
def fX (x:Nat×List Int×List Int) (y:Nat×Int×Int):List Int:=(x.2.1.set ((x.1:Int)-1).toNat 65).set ((x.1:Int)-1).toNat y.2.1
def gX (x:Nat×List Int×List Int) (y:Nat×Int×Int):List Int:=x.2.2.set ((x.1:Int)-1).toNat y.2.2
def UU:(List ((List (Int×Int))×Bool×Int))×Int×List (Int)×List UInt8->List SV:=fun(d0,d1,d2,s)=>[.one (.vptr (.pair (.row (.pair (.row (.pair (.int .i32) (.int .i64))) (.pair .bool (.int .i64)))) (.pair (.int .i64) (.row (.int .i64)))) (d0,d1,d2) 0),.one (.str s)]
def abB:(List ((List (Int×Int))×Bool×Int))×Int×List (Int)×List UInt8->SV×List Prop:=fun(d0,d1,d2,s)=>(.tup [.o (.row .str (spE d0 s).1),.o (.int .i64 (spE d0 s).2)],[NwD d0 d2,s.length<=1099511627776])
def VR:Con:=⟨false,[some (.pair (.row (.pair (.row (.pair (.int .i32) (.int .i64))) (.pair .bool (.int .i64)))) (.pair (.int .i64) (.row (.int .i64)))),none],fun xs=>match xs with | [.one (.vptr (.pair (.row (.pair (.row (.pair (.int .i32) (.int .i64))) (.pair .bool (.int .i64)))) (.pair (.int .i64) (.row (.int .i64)))) (d0,d1,d2) 0),.one (.str s)]=>some (abB (d0,d1,d2,s)) | _=>none⟩
noncomputable def Lu:GP:=bS UU abB
theorem Nl:∀a b,(UU a).map aB=(UU b).map aB->a=b:=by
 rintro⟨a0,a1,a2,a3⟩ ⟨b0,b1,b2,b3⟩ h;simp only[UU,zK,List.map_nil,aB,aS,List.drop_zero,zG,AV.one.injEq,AV.agg.injEq,Lf.int.injEq,Lf.str.injEq,Lf.bool.injEq,Lf.vrow.injEq,Lf.vptr.injEq,and_true,true_and,and_assoc] at h;obtain⟨h0,h1⟩:=h;have h0:=Ty.enc_inj _ h0;simp only[zF] at h0;obtain⟨rfl,rfl,rfl⟩:=h0;subst h1
 rfl
theorem Tq:bW Lu VR:=aN Nl (fun⟨_,_,_,_⟩ ⟨_,_,_,_⟩=>rfl) (fun⟨_,_,_,_⟩=>rfl) fun xs r h=>by
 simp only[VR] at h;split at h
 .cases h;rename_i d0 d1 d2 s;exact⟨(d0,d1,d2,s),rfl,rfl⟩
 .cases h
theorem aaV {S:SC}(hB:SB S) (rD:aG S 500 (az tZ)) (IC:aG S 505 (az Ey)) (JH:aG S 506 (az Ea)) (h508:S.has 508 f508) (h514:S.has 514 f514) (h497:S.has 497 f497):aG S 497 (az Lu):=by
 refine prI hB [(508,f508),(514,f514)] [⟨500,tZ,JF⟩,⟨505,Ey,Qt⟩,⟨506,Ea,QU⟩] [] ⟨h508,h514,trivial⟩ ⟨⟨rD,rO⟩,⟨IC,FX⟩,⟨JH,Gm⟩,trivial⟩ trivial h497 (fun⟨d0,d1,d2,s⟩=>⟨rfl,rfl,rfl⟩) (fun(d0,d1,d2,s)=>fun f id T L=>match f,id with
  |497,0=>match T.getD 10 .junk with | .one (.ptr c _ _)=>some (.inv { x:Nat×List Int×List Int // SpI d0 (tkL s) x } (fun x=>([(10,.one (.ptr c 0 0))],[(c,.cell [.int .i64 ((x.1.1:Int)-1)]),(0,.row (.int .i64) x.1.2.1),(2,.row (.int .i64) x.1.2.2)])) (fun x=>x.1.1)) | _=>none
  |514,0=>match ae L 0,ae L 2,ae L 4,ae L 5 with | .row (.int .i64) F,.row (.int .i64) G,.cell [.int .i64 a],.cell [.row (.int .i64) E]=>some (.inv { x:Nat×Int×Int // SpJ d0 (tkL s) a E x } (fun x=>([(3,.one (.int .i64 ((x.1.1:Int)-1)))],[(0,.row (.int .i64) (F.set a.toNat x.1.2.1)),(2,.row (.int .i64) (G.set a.toNat x.1.2.2))])) (fun x=>x.1.1)) | _,_,_,_=>none
  |497,4=>match ae L 0,ae L 2 with | .row (.int .i64) F,.row (.int .i64) G=>some (.inv { x:Nat×Nat×List (List UInt8) // SpO d0 (tkL s) x } (fun x=>([(15,.one (.int .i64 x.1.2.1)),(14,.one (.osl L.length))],[(L.length,.row .str x.1.2.2)])) (fun x=>(tkL s).length-x.1.2.1)) | _,_=>none
  |_,_=>none) 4000 ?_
 rintro⟨d0,d1,d2,s⟩ hc;have hc1:NwD d0 d2:=hc.1;have hc2:s.length<=1099511627776:=hc.2.1;refine VC.use (p:=s.length<=1099511627776/\(tkE s=0->aC ((↑(tkL s).length:Int)+1)/\(0<=(↑(tkL s).length:Int)+1/\(↑(tkL s).length:Int)+1<=(↑(tkL s).length:Int)+1/\((↑(tkL s).length:Int)+1)*8<=140737488355328/\(↑(tkL s).length:Int)+1<=140737488355328)/\aC ((↑(tkL s).length:Int)+1)/\(0<=(↑(tkL s).length:Int)+1/\(↑(tkL s).length:Int)+1<=(↑(tkL s).length:Int)+1/\((↑(tkL s).length:Int)+1)*8<=140737488355328/\(↑(tkL s).length:Int)+1<=140737488355328)/\aC ((↑(tkL s).length:Int)-1)/\(∃x1:{ x:Nat×List Int×List Int // SpI d0 (tkL s) x },(d0,d1,d2)=(d0,d1,d2)/\tkL s=tkL s/\List.replicate ((↑(tkL s).length:Int)+1).toNat 0=x1.1.2.1/\List.replicate ((↑(tkL s).length:Int)+1).toNat 0=x1.1.2.2/\(↑(tkL s).length:Int)-1=(x1.1.1:Int)-1)/\(∀x1:{ x:Nat×List Int×List Int // SpI d0 (tkL s) x },(0<=(x1.1.1:Int)-1->(0<=(x1.1.1:Int)-1/\(x1.1.1:Int)-1<(x1.1.2.1.length:Int))/\((x1.1.1:Int)-1).toNat<x1.1.2.1.length/\(0<=(x1.1.1:Int)-1/\(x1.1.1:Int)-1<=(↑(tkL s).length:Int))/\lK d0/\(aH (tkL s) (some ((x1.1.1:Int)-1)) none).length<=1099511627776/\(∀(r:Int),r∈aH (tkL s) (some ((x1.1.1:Int)-1)) none->Utf8.valid r=true)/\aC ((↑(enX d0 s x1.1.1).length:Int)-1)/\(∃x2:{ x:Nat×Int×Int // SpJ d0 (tkL s) ((x1.1.1:Int)-1) (enX d0 s x1.1.1) x },(↑(enX d0 s x1.1.1).length:Int)-1=(x2.1.1:Int)-1/\x1.1.2.1.set ((x1.1.1:Int)-1).toNat 65=fX x1.1 x2.1/\x1.1.2.2=gX x1.1 x2.1/\(x1.1.1:Int)-1=(x1.1.1:Int)-1/\enX d0 s x1.1.1=enX d0 s x1.1.1)/\(∀x2:{ x:Nat×Int×Int // SpJ d0 (tkL s) ((x1.1.1:Int)-1) (enX d0 s x1.1.1) x },(0<=(x2.1.1:Int)-1->(0<=(x2.1.1:Int)-1/\(x2.1.1:Int)-1<(↑(enX d0 s x1.1.1).length:Int))/\aC ((x1.1.1:Int)-1+(enX d0 s x1.1.1).getD ((x2.1.1:Int)-1).toNat 0)/\(0<=(x1.1.1:Int)-1+(enX d0 s x1.1.1).getD ((x2.1.1:Int)-1).toNat 0/\(x1.1.1:Int)-1+(enX d0 s x1.1.1).getD ((x2.1.1:Int)-1).toNat 0<(↑(fX x1.1 x2.1).length:Int))/\((x1.1.1:Int)-1+(enX d0 s x1.1.1).getD ((x2.1.1:Int)-1).toNat 0).toNat<(fX x1.1 x2.1).length/\aC ((fX x1.1 x2.1).getD ((x1.1.1:Int)-1+(enX d0 s x1.1.1).getD ((x2.1.1:Int)-1).toNat 0).toNat 0+1)/\(0<=(x1.1.1:Int)-1/\(x1.1.1:Int)-1<(↑(fX x1.1 x2.1).length:Int))/\((x1.1.1:Int)-1).toNat<(fX x1.1 x2.1).length/\((fX x1.1 x2.1).getD ((x1.1.1:Int)-1+(enX d0 s x1.1.1).getD ((x2.1.1:Int)-1).toNat 0).toNat 0+1<(fX x1.1 x2.1).getD ((x1.1.1:Int)-1).toNat 0->((0<=(x1.1.1:Int)-1/\(x1.1.1:Int)-1<(↑(fX x1.1 x2.1).length:Int))/\((x1.1.1:Int)-1).toNat<(fX x1.1 x2.1).length/\(0<=(x1.1.1:Int)-1/\(x1.1.1:Int)-1<(↑(gX x1.1 x2.1).length:Int))/\((x1.1.1:Int)-1).toNat<(gX x1.1 x2.1).length/\aC ((x2.1.1:Int)-1-1)/\(∃x3:{ x:Nat×Int×Int // SpJ d0 (tkL s) ((x1.1.1:Int)-1) (enX d0 s x1.1.1) x },x3.1.1<x2.1.1/\(x2.1.1:Int)-1-1=(x3.1.1:Int)-1/\(fX x1.1 x2.1).set ((x1.1.1:Int)-1).toNat ((fX x1.1 x2.1).getD ((x1.1.1:Int)-1+(enX d0 s x1.1.1).getD ((x2.1.1:Int)-1).toNat 0).toNat 0+1)=fX x1.1 x3.1/\(gX x1.1 x2.1).set ((x1.1.1:Int)-1).toNat ((enX d0 s x1.1.1).getD ((x2.1.1:Int)-1).toNat 0)=gX x1.1 x3.1/\(x1.1.1:Int)-1=(x1.1.1:Int)-1/\enX d0 s x1.1.1=enX d0 s x1.1.1))/\((0<=(x1.1.1:Int)-1/\(x1.1.1:Int)-1<(↑(fX x1.1 x2.1).length:Int))/\((x1.1.1:Int)-1).toNat<(fX x1.1 x2.1).length/\(0<=(x1.1.1:Int)-1/\(x1.1.1:Int)-1<(↑(gX x1.1 x2.1).length:Int))/\((x1.1.1:Int)-1).toNat<(gX x1.1 x2.1).length/\aC ((x2.1.1:Int)-1-1)/\(∃x3:{ x:Nat×Int×Int // SpJ d0 (tkL s) ((x1.1.1:Int)-1) (enX d0 s x1.1.1) x },x3.1.1<x2.1.1/\(x2.1.1:Int)-1-1=(x3.1.1:Int)-1/\(fX x1.1 x2.1).set ((x1.1.1:Int)-1).toNat ((fX x1.1 x2.1).getD ((x1.1.1:Int)-1+(enX d0 s x1.1.1).getD ((x2.1.1:Int)-1).toNat 0).toNat 0+1)=fX x1.1 x3.1/\(gX x1.1 x2.1).set ((x1.1.1:Int)-1).toNat ((enX d0 s x1.1.1).getD ((x2.1.1:Int)-1).toNat 0)=gX x1.1 x3.1/\(x1.1.1:Int)-1=(x1.1.1:Int)-1/\enX d0 s x1.1.1=enX d0 s x1.1.1))/\((0<=(x1.1.1:Int)-1/\(x1.1.1:Int)-1<(↑(fX x1.1 x2.1).length:Int))/\((x1.1.1:Int)-1).toNat<(fX x1.1 x2.1).length/\(0<=(x1.1.1:Int)-1/\(x1.1.1:Int)-1<(↑(gX x1.1 x2.1).length:Int))/\((x1.1.1:Int)-1).toNat<(gX x1.1 x2.1).length/\aC ((x2.1.1:Int)-1-1)/\(∃x3:{ x:Nat×Int×Int // SpJ d0 (tkL s) ((x1.1.1:Int)-1) (enX d0 s x1.1.1) x },x3.1.1<x2.1.1/\(x2.1.1:Int)-1-1=(x3.1.1:Int)-1/\(fX x1.1 x2.1).set ((x1.1.1:Int)-1).toNat ((fX x1.1 x2.1).getD ((x1.1.1:Int)-1+(enX d0 s x1.1.1).getD ((x2.1.1:Int)-1).toNat 0).toNat 0+1)=fX x1.1 x3.1/\(gX x1.1 x2.1).set ((x1.1.1:Int)-1).toNat ((enX d0 s x1.1.1).getD ((x2.1.1:Int)-1).toNat 0)=gX x1.1 x3.1/\(x1.1.1:Int)-1=(x1.1.1:Int)-1/\enX d0 s x1.1.1=enX d0 s x1.1.1))/\(0<=(x1.1.1:Int)-1/\(x1.1.1:Int)-1<(↑(fX x1.1 x2.1).length:Int))/\((x1.1.1:Int)-1).toNat<(fX x1.1 x2.1).length/\(0<=(x1.1.1:Int)-1/\(x1.1.1:Int)-1<(↑(gX x1.1 x2.1).length:Int))/\((x1.1.1:Int)-1).toNat<(gX x1.1 x2.1).length/\aC ((x2.1.1:Int)-1-1)/\(∃x3:{ x:Nat×Int×Int // SpJ d0 (tkL s) ((x1.1.1:Int)-1) (enX d0 s x1.1.1) x },x3.1.1<x2.1.1/\(x2.1.1:Int)-1-1=(x3.1.1:Int)-1/\(fX x1.1 x2.1).set ((x1.1.1:Int)-1).toNat ((fX x1.1 x2.1).getD ((x1.1.1:Int)-1+(enX d0 s x1.1.1).getD ((x2.1.1:Int)-1).toNat 0).toNat 0+1)=fX x1.1 x3.1/\(gX x1.1 x2.1).set ((x1.1.1:Int)-1).toNat ((enX d0 s x1.1.1).getD ((x2.1.1:Int)-1).toNat 0)=gX x1.1 x3.1/\(x1.1.1:Int)-1=(x1.1.1:Int)-1/\enX d0 s x1.1.1=enX d0 s x1.1.1))/\(¬(fX x1.1 x2.1).getD ((x1.1.1:Int)-1+(enX d0 s x1.1.1).getD ((x2.1.1:Int)-1).toNat 0).toNat 0+1<(fX x1.1 x2.1).getD ((x1.1.1:Int)-1).toNat 0->aC ((x2.1.1:Int)-1-1)/\(∃x3:{ x:Nat×Int×Int // SpJ d0 (tkL s) ((x1.1.1:Int)-1) (enX d0 s x1.1.1) x },x3.1.1<x2.1.1/\(x2.1.1:Int)-1-1=(x3.1.1:Int)-1/\fX x1.1 x2.1=fX x1.1 x3.1/\gX x1.1 x2.1=gX x1.1 x3.1/\(x1.1.1:Int)-1=(x1.1.1:Int)-1/\enX d0 s x1.1.1=enX d0 s x1.1.1)))/\(¬0<=(x2.1.1:Int)-1->aC ((x1.1.1:Int)-1-1)/\(∃x3:{ x:Nat×List Int×List Int // SpI d0 (tkL s) x },x3.1.1<x1.1.1/\(d0,d1,d2)=(d0,d1,d2)/\tkL s=tkL s/\fX x1.1 x2.1=x3.1.2.1/\gX x1.1 x2.1=x3.1.2.2/\(x1.1.1:Int)-1-1=(x3.1.1:Int)-1))))/\(¬0<=(x1.1.1:Int)-1->((0:Int)<=(0:Int)/\(0:Int)<(x1.1.2.1.length:Int))/\0<x1.1.2.1.length/\(64<x1.1.2.1.getD 0 0->[]=(spE d0 s).1/\10=(spE d0 s).2)/\(¬64<x1.1.2.1.getD 0 0->(∃x2:{ x:Nat×Nat×List (List UInt8) // SpO d0 (tkL s) x },tkL s=tkL s/\x2.1.2.2=[]/\0=(x2.1.2.1:Int)/\x1.1.2.1=x1.1.2.1/\x1.1.2.2=x1.1.2.2/\(x1.1.1:Int)-1=(x1.1.1:Int)-1/\x2.1.2.2=[])/\(∀x2:{ x:Nat×Nat×List (List UInt8) // SpO d0 (tkL s) x },((x2.1.2.1:Int)<(↑(tkL s).length:Int)->(0<=(x2.1.2.1:Int)/\(x2.1.2.1:Int)<(x1.1.2.2.length:Int))/\x2.1.2.1<x1.1.2.2.length/\aC ((x2.1.2.1:Int)+x1.1.2.2.getD x2.1.2.1 0)/\(0<=(x2.1.2.1:Int)/\(x2.1.2.1:Int)<=(x2.1.2.1:Int)+x1.1.2.2.getD x2.1.2.1 0/\(x2.1.2.1:Int)+x1.1.2.2.getD x2.1.2.1 0<=(↑(tkL s).length:Int))/\(aH (tkL s) (some (x2.1.2.1:Int)) (some ((x2.1.2.1:Int)+x1.1.2.2.getD x2.1.2.1 0))).length<=1099511627776/\(x2.1.2.2.length+[kC (aH (tkL s) (some (x2.1.2.1:Int)) (some ((x2.1.2.1:Int)+x1.1.2.2.getD x2.1.2.1 0)))].length)*16<=140737488355328/\(0<=(x2.1.2.1:Int)/\(x2.1.2.1:Int)<(x1.1.2.2.length:Int))/\x2.1.2.1<x1.1.2.2.length/\aC ((x2.1.2.1:Int)+x1.1.2.2.getD x2.1.2.1 0)/\(∃x3:{ x:Nat×Nat×List (List UInt8) // SpO d0 (tkL s) x },(tkL s).length-x3.1.2.1<(tkL s).length-x2.1.2.1/\tkL s=tkL s/\(x2.1.2.1:Int)+x1.1.2.2.getD x2.1.2.1 0=(x3.1.2.1:Int)/\x1.1.2.1=x1.1.2.1/\x1.1.2.2=x1.1.2.2/\(x1.1.1:Int)-1=(x1.1.1:Int)-1/\x2.1.2.2++[kC (aH (tkL s) (some (x2.1.2.1:Int)) (some ((x2.1.2.1:Int)+x1.1.2.2.getD x2.1.2.1 0)))]=x3.1.2.2))/\(¬(x2.1.2.1:Int)<(↑(tkL s).length:Int)->x2.1.2.2=(spE d0 s).1/\0=(spE d0 s).2))))))/\(¬tkE s=0->[]=(spE d0 s).1/\tkE s=(spE d0 s).2)) (by kernel_rfl) ?_;have hw:=hc1.p;refine⟨hc2,fun ht=>?_,fun ht=>?_⟩
 .obtain⟨t1,t2,t3⟩:=uG ht;have hval:∀r∈tkL s,Utf8.valid r=true:=by rw[t3];exact jh t1
  have hlen:(tkL s).length<=64:=by rw[t3];exact t2
  have hSE:spE d0 s=if 64<((spT d0 (tkL s)).getD 0 (0,0)).1 then ([],10) else (spW (spT d0 (tkL s)) (tkL s) ((tkL s).length+1) 0,0):=by unfold spE;rw[if_pos ht]
  have hEX:∀i:Nat,enX d0 s (i+1)=enL d0 ((tkL s).drop i) 0 0:=fun i=>by
   unfold enX;have e:aH (tkL s) (some (((i+1:Nat):Int)-1)) none=(tkL s).drop (((i+1:Nat):Int)-1).toNat:=rfl;rw[e,show (((i+1:Nat):Int)-1).toNat=i by omega]
  have eL:((tkL s).length+1:Int).toNat=(tkL s).length+1:=by omega
  rw[eL];refine⟨by unfold aC;omega,⟨by omega,by omega,by omega,by omega⟩,by unfold aC;omega,⟨by omega,by omega,by omega,by omega⟩,by unfold aC;omega,⟨⟨((tkL s).length,List.replicate ((tkL s).length+1) 0,List.replicate ((tkL s).length+1) 0),SpI.start d0 (tkL s)⟩,rfl,rfl,rfl,rfl,rfl⟩,?_⟩;rintro⟨⟨i,F,G⟩,hI⟩;have hle:=hI.le;have hlf:=hI.lf;have hlg:=hI.lg;dsimp only at hle hlf hlg ⊢;refine⟨fun h=>?_,fun h=>?_⟩
  .obtain⟨a,rfl⟩:∃a,i=a+1:=⟨i-1,by omega⟩;have ea:((a+1:Nat):Int)-1=(a:Int):=by omega
   have hcut:aH (tkL s) (some ((a:Int))) none=(tkL s).drop a:=rfl;have hfX:∀y:Nat×Int×Int,fX (a+1,F,G) y=F.set a y.2.1:=fun y=>by
    unfold fX;dsimp only;rw[ea,Int.toNat_natCast,List.set_set]
   have hgX:∀y:Nat×Int×Int,gX (a+1,F,G) y=G.set a y.2.2:=fun y=>by
    unfold gX;dsimp only;rw[ea,Int.toNat_natCast]
   have hen:=hw.en ((tkL s).drop a);have hel:=xK d0 ((tkL s).drop a) 0 0;rw[List.length_drop] at hen hel;simp only[hEX,ea,hcut,Int.toNat_natCast,hfX,hgX];generalize hE:enL d0 ((tkL s).drop a) 0 0=E at hen hel ⊢;have hJE:∀y,SpJ d0 (tkL s) (((a+1:Nat):Int)-1) (enX d0 s (a+1)) y↔SpJ d0 (tkL s) (a:Int) E y:=fun y=>by rw[ea,hEX,hE]
   refine⟨⟨by omega,by omega⟩,by omega,⟨by omega,by omega⟩,hw.ok,by rw[List.length_drop];omega,fun r hr=>hval r (List.mem_of_mem_drop hr),by unfold aC;omega,⟨⟨(E.length,65,0),(hJE _).2 ⟨zJ _,by dsimp only;omega,by dsimp only;omega,by dsimp only;rw[List.take_length]⟩⟩,rfl,rfl,?_,trivial,trivial⟩,?_⟩
   .have:=hI.zr a (Nat.lt_succ_self a);dsimp only at this
    conv=>lhs;rw[<- vK (l:=G) (a:=a),this]
   .rintro⟨⟨m,p,q⟩,hJ⟩;have hJ:=(hJE _).1 hJ;dsimp only;have hJ1:=hJ.1;have hJ2:=hJ.2.1;have hJ3:=hJ.2.2.1;dsimp only at hJ1 hJ2 hJ3;have hsl:(F.set a p).length=(tkL s).length+1:=by rw[List.length_set];exact hlf
    have hsg:(G.set a q).length=(tkL s).length+1:=by rw[List.length_set];exact hlg
    refine⟨fun hm=>?_,fun hm=>?_⟩
    .obtain⟨b,rfl⟩:∃b,m=b+1:=⟨m-1,by omega⟩;have eb:((b+1:Nat):Int)-1=(b:Int):=by omega
     rw[eb,Int.toNat_natCast];have hn:=hen (E.getD b 0) (dX (by omega));have hst:=SpJ.step hJ;have e1:((a:Int)+E.getD b 0).toNat=a+(E.getD b 0).toNat:=by omega
     have hv:=SpJ.val (p:=p) hI hn.1 (by omega);have hvb:=xU d0 ((tkL s).drop (a+1)) ((E.getD b 0).toNat-1);rw[e1,hv,hsl,hsg,jo (by omega),List.set_set,List.set_set];generalize ((spT d0 ((tkL s).drop (a+1))).getD ((E.getD b 0).toNat-1) (0,0)).1=v at hst hvb ⊢;refine⟨⟨by omega,by omega⟩,by unfold aC;omega,⟨by omega,by omega⟩,by omega,by unfold aC;omega,⟨by omega,by omega⟩,by omega,fun hlt=>?_,fun hlt=>?_⟩
     .rw[if_pos hlt] at hst;have fin:(0<=(a:Int)/\(a:Int)<(((tkL s).length+1:Nat):Int))/\a<(tkL s).length+1/\(0<=(a:Int)/\(a:Int)<(((tkL s).length+1:Nat):Int))/\a<(tkL s).length+1/\aC ((b:Int)-1)/\∃x3:{ x:Nat×Int×Int // SpJ d0 (tkL s) (((a+1:Nat):Int)-1) (enX d0 s (a+1)) x },x3.1.1<b+1/\(b:Int)-1=(x3.1.1:Int)-1/\F.set a (v+1)=F.set a x3.1.2.1/\G.set a (E.getD b 0)=G.set a x3.1.2.2/\True/\True:=
       ⟨⟨by omega,by omega⟩,by omega,⟨by omega,by omega⟩,by omega,by unfold aC;omega,⟨(b,v+1,E.getD b 0),(hJE _).2 hst⟩,Nat.lt_succ_self b,rfl,rfl,rfl,trivial,trivial⟩
      exact⟨fin,fin,fin,fin⟩
     .rw[if_neg hlt] at hst;exact⟨by unfold aC;omega,⟨(b,p,q),(hJE _).2 hst⟩,Nat.lt_succ_self b,rfl,rfl,rfl,trivial,trivial⟩
    .obtain rfl:m=0:=by omega
     subst hE;exact⟨by unfold aC;omega,⟨(a,F.set a p,G.set a q),SpJ.out hI hJ⟩,Nat.lt_succ_self a,trivial,trivial,rfl,rfl,rfl⟩
  .obtain rfl:i=0:=by omega
   have h0:=(hI.at' 0 (zJ _) (Nat.zero_le _)).1;dsimp only at h0;refine⟨⟨by omega,by omega⟩,by omega,fun h2=>?_,fun h2=>⟨⟨⟨((tkL s).length+1,0,[]),Nat.zero_le _,by dsimp only;omega,Nat.zero_le _,by dsimp only;omega,rfl⟩,rfl,rfl,rfl,rfl,rfl,rfl,rfl⟩,?_⟩⟩
   .rw[hSE,if_pos (by omega)];exact⟨rfl,rfl⟩
   .rw[if_neg (by omega)] at hSE;rintro⟨⟨k,a,o⟩,hO⟩;have ho1:=hO.1;have ho2:=hO.2.1;have ho3:=hO.2.2.1;dsimp only at ho1 ho2 ho3 ⊢;refine⟨fun h3=>?_,fun h3=>?_⟩
    .obtain⟨k,rfl⟩:∃k',k=k'+1:=⟨k-1,by omega⟩;obtain⟨f1,f2,f3⟩:=SpO.next hw hI hO (by omega);have hcut:aH (tkL s) (some (a:Int)) (some ((a:Int)+G.getD a 0))=((tkL s).drop a).take (G.getD a 0).toNat:=by
      have e:aH (tkL s) (some (a:Int)) (some ((a:Int)+G.getD a 0))=((tkL s).drop (a:Int).toNat).take (((a:Int)+G.getD a 0).toNat-(a:Int).toNat):=rfl;rw[e,show ((a:Int)+G.getD a 0).toNat=a+(G.getD a 0).toNat by omega];rw[Int.toNat_natCast,Nat.add_sub_cancel_left]
     rw[hcut];refine⟨⟨by omega,by omega⟩,by omega,by unfold aC;omega,⟨by omega,by omega,by omega⟩,by rw[zP,List.length_drop];omega,by simp only[zN];omega,⟨by omega,by omega⟩,by omega,by unfold aC;omega,⟨(k,a+(G.getD a 0).toNat,o++[kC (((tkL s).drop a).take (G.getD a 0).toNat)]),f3⟩,by dsimp only;omega,rfl,by dsimp only;omega,rfl,rfl,rfl,rfl⟩
    .rw[hSE,SpO.end hO (by omega)];exact⟨rfl,rfl⟩
 .unfold spE;rw[if_neg ht];exact⟨rfl,rfl⟩
end Go.EA
end
section
set_option maxRecDepth 100000
set_option maxHeartbeats 0
namespace Go.EA
open F
def mdB (l:List Wd) (s:List UInt8):Prop:=((l.length:Int)<=60/\(s.length:Int)+nI l<=800)/\kU l=0
instance (l:List Wd) (s:List UInt8):Decidable (mdB l s):=by unfold mdB;infer_instance
def wxW:List Wd:=[([97],1),([97,98],1),([98],1)]
def Yr:Unit->List SV:=fun _=>[]
def aar:Unit->SV×List Prop:=fun _=>(.one (.bool true),[])
def Yq:Con:=⟨true,[],fun xs=>match xs with | []=>some (aar ()) | _=>none⟩
noncomputable def Kh:GP:=bS Yr aar
theorem Me:∀a b,(Yr a).map aB=(Yr b).map aB->a=b:=by
 intro a b _;rfl
theorem RJ:bW Kh Yq:=aN Me (fun _ _=>rfl) (fun _=>rfl) fun xs r h=>by
 simp only[Yq] at h;split at h
 .cases h;exact⟨(),rfl,rfl⟩
 .cases h
theorem aaN {S:SC}(hB:SB S) (HZ:aG S 278 (az Fb)) (JD:aG S 493 (az El)) (Yh:aG S 497 (az Lu)) (h491:S.has 491 f491) (h500:S.has 500 f500) (h487:S.has 487 f487):aG S 487 (az Kh):=by
 refine prM hB [(491,f491),(500,f500)] [⟨278,Fb,Tu⟩,⟨493,El,UG⟩,⟨497,Lu,VR⟩] ⟨h491,h500,trivial⟩ ⟨⟨HZ,Gi⟩,⟨JD,Gy⟩,⟨Yh,Tq⟩,trivial⟩ h487 (fun _=>⟨rfl,rfl,rfl⟩) (fun _=>fun _ _ _ _=>none) 2000 ?_;rintro _ hc;refine VC.use (p:=(3:Nat)<=(1099511627776:Nat)/\SmW [([97],1),([97,98],1),([98],1)]/\((0:Int)=(0:Int)->lK (List.map stD (bg [([97],1),([97,98],1),([98],1)]))/\(3:Nat)<=(1099511627776:Nat)/\NwD (List.map stD (bg [([97],1),([97,98],1),([98],1)])) (List.map (fun x=>x.2) [([97],1),([97,98],1),([98],1)])/\(3:Nat)<=(1099511627776:Nat)/\((0:Int)=(0:Int)->((loE (List.map stD (bg [([(97:UInt8)],(1:Int)),([(97:UInt8),(98:UInt8)],(1:Int)),([(98:UInt8)],(1:Int))])) [(97:UInt8),(98:UInt8),(98:UInt8)]).1=[(97:UInt8),(98:UInt8)]->((0:Int)=(0:Int)->((2:Int)=(2:Int)->((0:Int)<=(1:Int)/\(1:Int)<(2:Int))/\((spE (List.map stD (bg [([(97:UInt8)],(1:Int)),([(97:UInt8),(98:UInt8)],(1:Int)),([(98:UInt8)],(1:Int))])) [(97:UInt8),(98:UInt8),(98:UInt8)]).1.getD (1:Nat) []=[(98:UInt8)]->((0:Int)=(0:Int)->true=true)/\(¬(0:Int)=(0:Int)->false=true))/\(¬(spE (List.map stD (bg [([(97:UInt8)],(1:Int)),([(97:UInt8),(98:UInt8)],(1:Int)),([(98:UInt8)],(1:Int))])) [(97:UInt8),(98:UInt8),(98:UInt8)]).1.getD (1:Nat) []=[(98:UInt8)]->false=true))/\(¬(2:Int)=(2:Int)->false=true))/\(¬(0:Int)=(0:Int)->false=true))/\(¬(loE (List.map stD (bg [([(97:UInt8)],(1:Int)),([(97:UInt8),(98:UInt8)],(1:Int)),([(98:UInt8)],(1:Int))])) [(97:UInt8),(98:UInt8),(98:UInt8)]).1=[(97:UInt8),(98:UInt8)]->false=true))/\(¬(0:Int)=(0:Int)->false=true))/\(¬(0:Int)=(0:Int)->False)) (by kernel_rfl) ?_;have hN:NwD (List.map stD (bg wxW)) (List.map (fun x=>x.2) wxW):=⟨wxW,by decide +kernel,rfl,rfl⟩;refine⟨by decide,by unfold SmW;decide,fun _=>⟨hN.p.ok,by decide,hN,by decide,fun _=>⟨fun _=>⟨fun _=>⟨fun _=>⟨⟨by decide,by decide⟩,fun _=>⟨fun _=>rfl,fun h=>absurd rfl h⟩,fun h=>absurd (by decide +kernel) h⟩,fun h=>absurd rfl h⟩,fun h=>absurd rfl h⟩,fun h=>absurd (by decide +kernel) h⟩,fun h=>absurd rfl h⟩,fun h=>absurd rfl h⟩
def Qw:(List (List UInt8×Int))×List UInt8->List SV:=fun(l,s)=>[.one (.row (.pair .str (.int .i64)) l),.one (.str s)]
def aaL:(List (List UInt8×Int))×List UInt8->SV×List Prop:=fun(l,s)=>(.ite (mdB l s) inferInstance (.tup [.o (.vptr DwT (yx (bu l)) 0),.o (.row WdT (bu l)),.o (.bool true)]) (.tup [.o .nilp,.o (.row WdT []),.o (.bool false)]),[l.length<=1048576,SmX l,s.length<=1099511627776])
def VB:Con:=⟨false,[some (.pair .str (.int .i64)),none],fun xs=>match xs with | [.one (.row (.pair .str (.int .i64)) l),.one (.str s)]=>some (aaL (l,s)) | _=>none⟩
noncomputable def Ka:GP:=bS Qw aaL
theorem MN:∀a b,(Qw a).map aB=(Qw b).map aB->a=b:=by
 rintro⟨a0,a1⟩ ⟨b0,b1⟩ h;simp only[Qw,zK,List.map_nil,aB,aS,zG,AV.one.injEq,AV.agg.injEq,Lf.int.injEq,Lf.str.injEq,Lf.bool.injEq,Lf.vrow.injEq,and_true,true_and,and_assoc] at h;obtain⟨h0,h1⟩:=h;have h0:=bD h0;subst h0 h1
 rfl
theorem UV:bW Ka VB:=aN MN (fun⟨_,_⟩ ⟨_,_⟩=>rfl) (fun⟨_,_⟩=>rfl) fun xs r h=>by
 simp only[VB] at h;split at h
 .cases h;rename_i l s;exact⟨(l,s),rfl,rfl⟩
 .cases h
theorem aau {S:SC}(hB:SB S) (HZ:aG S 278 (az Fb)) (Wl:aG S 291 (az Pe)) (h488:S.has 488 f488):aG S 488 (az Ka):=by
 refine prI hB [] [⟨278,Fb,Tu⟩,⟨291,Pe,XF⟩] [] trivial ⟨⟨HZ,Gi⟩,⟨Wl,Uh⟩,trivial⟩ trivial h488 (fun⟨l,s⟩=>⟨rfl,rfl,rfl⟩) (fun(l,s)=>fun f id T L=>match f,id with
  |488,0=>some (.inv { i:Nat // i<=l.length } (fun x=>([(17,.one (.int .i64 x.1)),(7,.one (.int .i64 ((s.length:Int)+nI (l.take x.1))))],[])) (fun x=>l.length-x.1))
  |_,_=>none) 2000 ?_
 rintro⟨l,s⟩ hc;have hc1:l.length<=1048576:=hc.1;have hc2:SmX l:=hc.2.1;have hc3:s.length<=1099511627776:=hc.2.2.1;refine VC.use (p:=(∃x1:{ i:Nat // i<=l.length },l=l/\(s.length:Int)=(s.length:Int)+nI (List.take x1.1 l)/\l=l/\(l.length:Int)=(l.length:Int)/\0=(x1.1:Int))/\(∀x1:{ i:Nat // i<=l.length },((x1.1:Int)<(l.length:Int)->(0<=(x1.1:Int)/\(x1.1:Int)<(l.length:Int))/\aC ((s.length:Int)+nI (List.take x1.1 l)+(↑(List.length (l.getD x1.1 ([],0)).1):Int))/\aC ((x1.1:Int)+1)/\(∃x2:{ i:Nat // i<=l.length },l.length-x2.1<l.length-x1.1/\l=l/\(s.length:Int)+nI (List.take x1.1 l)+(↑(List.length (l.getD x1.1 ([],0)).1):Int)=(s.length:Int)+nI (List.take x2.1 l)/\l=l/\(l.length:Int)=(l.length:Int)/\(x1.1:Int)+1=(x2.1:Int)))/\(¬(x1.1:Int)<(l.length:Int)->(60<(l.length:Int)->(mdB l s->False)/\(¬mdB l s->([]:List Wd)=[]/\false=false))/\(¬60<(l.length:Int)->(800<(s.length:Int)+nI (List.take x1.1 l)->(mdB l s->False)/\(¬mdB l s->([]:List Wd)=[]/\false=false))/\(¬800<(s.length:Int)+nI (List.take x1.1 l)->l.length<=1099511627776/\SmW l/\(kU l=0->(bu l).length<=1099511627776/\SmW (bu l)/\(isE (bu l)=0->(mdB l s->yx (bu l)=yx (bu l)/\bu l=bu l/\decide ((0:Int)=(0:Int))=true)/\(¬mdB l s->False))/\(¬isE (bu l)=0->(mdB l s->False)/\(¬mdB l s->bu l=[]/\decide (isE (bu l)=0)=false)))/\(¬kU l=0->(mdB l s->False)/\(¬mdB l s->([]:List Wd)=[]/\false=false))))))) (by kernel_rfl) ?_;refine⟨⟨⟨0,Nat.zero_le _⟩,rfl,by simp[nI],rfl,rfl,rfl⟩,?_⟩;rintro⟨i,hi⟩;dsimp only;obtain⟨b1,b2⟩:=FE hc2 i hi;have b3:=hc2.at i;refine⟨fun h=>⟨⟨by omega,h⟩,by unfold aC;omega,by unfold aC;omega,⟨i+1,by omega⟩,by dsimp only;omega,rfl,by dsimp only;rw[wW (by omega)];omega,rfl,rfl,by push_cast;rfl⟩,fun h=>?_⟩;rw[List.take_of_length_le (by omega)];refine⟨fun h2=>⟨fun hm=>absurd hm.1.1 (by omega),fun _=>⟨rfl,rfl⟩⟩,fun h2=>⟨fun h3=>⟨fun hm=>absurd hm.1.2 (by omega),fun _=>⟨rfl,rfl⟩⟩,fun h3=>⟨by omega,fun x hx=>Nat.le_trans (hc2 x hx) (by decide),fun hz=>?_,fun hz=>⟨fun hm=>absurd hm.2 hz,fun _=>⟨rfl,rfl⟩⟩⟩⟩⟩;obtain⟨e1,e2,e3⟩:=Ba hz;have he:isE (bu l)=0:=by rw[e1];exact e3
 have hm:mdB l s:=⟨⟨by omega,by omega⟩,hz⟩;have hn1:=Dh l;exact⟨by omega,fun x hx=>Nat.le_trans (FB hc2 x hx) (by decide),fun _=>⟨fun _=>⟨rfl,rfl,rfl⟩,fun h=>absurd hm h⟩,fun h=>absurd he h⟩
end Go.EA
end
