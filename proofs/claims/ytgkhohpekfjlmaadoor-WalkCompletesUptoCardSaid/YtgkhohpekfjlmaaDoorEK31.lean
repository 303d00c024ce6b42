/- Texts. Conditions: none. -/
import Derived.Test.YtgkhohpekfjlmaaDoorEK30
import Derived.Test.YtgkhohpekfjlmaaDoorELx2
import Derived.Test.YtgkhohpekfjlmaaDoorERu
import Derived.Test.YtgkhohpekfjlmaaDoorEAf11
import Derived.KernelRfl
import Derived.Test.YtgkhohpekfjlmaaDoorEDf
import Derived.Test.YtgkhohpekfjlmaaDoorEK25
import Derived.Test.YtgkhohpekfjlmaaDoorEK23
import Derived.Test.YtgkhohpekfjlmaaDoorELx5
import Derived.Test.YtgkhohpekfjlmaaDoorEK32
set_option linter.unusedVariables false
set_option linter.unusedSimpArgs false
section
set_option maxRecDepth 100000
set_option maxHeartbeats 0
namespace Go.EA
open F
def Sw:(List ((List (Int×Int))×Bool×Int))×Int×List (Int)×List UInt8->List SV:=fun(d0,d1,d2,s)=>[.one (.vptr (.pair (.row (.pair (.row (.pair (.int .i32) (.int .i64))) (.pair .bool (.int .i64)))) (.pair (.int .i64) (.row (.int .i64)))) (d0,d1,d2) 0),.one (.str s)]
def aaH:(List ((List (Int×Int))×Bool×Int))×Int×List (Int)×List UInt8->SV×List Prop:=fun(d0,d1,d2,s)=>(.tup [.o (.row (.int .i32) (tkL s)),.o (.int .i64 (tkE s))],[s.length<=1099511627776])
def MH:Con:=⟨false,[some (.pair (.row (.pair (.row (.pair (.int .i32) (.int .i64))) (.pair .bool (.int .i64)))) (.pair (.int .i64) (.row (.int .i64)))),none],fun xs=>match xs with | [.one (.vptr (.pair (.row (.pair (.row (.pair (.int .i32) (.int .i64))) (.pair .bool (.int .i64)))) (.pair (.int .i64) (.row (.int .i64)))) (d0,d1,d2) 0),.one (.str s)]=>some (aaH (d0,d1,d2,s)) | _=>none⟩
noncomputable def Af:GP:=bZ Sw aaH
theorem JS:∀a b,(Sw a).map aB=(Sw b).map aB->a=b:=by
 rintro⟨a0,a1,a2,a3⟩ ⟨b0,b1,b2,b3⟩ h;simp only[Sw,zK,List.map_nil,aB,aS,List.drop_zero,zG,AV.one.injEq,AV.agg.injEq,Lf.int.injEq,Lf.str.injEq,Lf.bool.injEq,Lf.vrow.injEq,Lf.vptr.injEq,and_true,true_and,and_assoc] at h;obtain⟨h0,h1⟩:=h;have h0:=Ty.enc_inj _ h0;simp only[zF] at h0;obtain⟨rfl,rfl,rfl⟩:=h0;subst h1
 rfl
theorem xQ:df Af MH:=aR JS (fun⟨_,_,_,_⟩ ⟨_,_,_,_⟩=>rfl) (fun⟨_,_,_,_⟩=>rfl) fun xs r h=>by
 simp only[MH] at h;split at h
 .cases h;rename_i d0 d1 d2 s;exact⟨(d0,d1,d2,s),rfl,rfl⟩
 .cases h
theorem ZA {S:SC}(hB:SB S) (q17:aG S 17 (az G17)) (h500:S.has 500 f500):aG S 500 (az Af):=by
 refine prM hB [] [⟨17,G17,K17⟩] trivial ⟨⟨q17,Ec⟩,trivial⟩ h500 (fun⟨d0,d1,d2,s⟩=>⟨rfl,rfl,rfl⟩) (fun(d0,d1,d2,s)=>fun _ _ _ _=>none) 400 ?_;rintro⟨d0,d1,d2,s⟩ hc;have hc1:s.length<=1099511627776:=hc.1;refine VC.use (p:=s.length<=1099511627776/\(bG s=0->(64<(↑(aJ s).length:Int)->tkL s=[]/\5=tkE s)/\(¬64<(↑(aJ s).length:Int)->aJ s=tkL s/\bG s=tkE s))/\(¬bG s=0->aJ s=tkL s/\bG s=tkE s)) (by kernel_rfl) ?_;refine⟨hc1,fun h=>⟨fun h2=>?_,fun h2=>?_⟩,fun h=>?_⟩
 .exact⟨(tu h h2).1.symm,(tu h h2).2⟩
 .exact GU h h2
 .exact FP h
def Ur:List UInt8->List SV:=fun s=>[.one (.str s)]
def Za:List UInt8->SV×List Prop:=fun s=>(.one (.int .i64 (tkE s)),[s.length<=1099511627776])
def Sa:Con:=⟨true,[none],fun xs=>match xs with | [.one (.str s)]=>some (Za s) | _=>none⟩
noncomputable def DW:GP:=bZ Ur Za
theorem NU:∀a b,(Ur a).map aB=(Ur b).map aB->a=b:=by
 rintro a0 b0 h;simp only[Ur,zK,List.map_nil,aB,aS,zG,AV.one.injEq,AV.agg.injEq,Lf.int.injEq,Lf.str.injEq,Lf.bool.injEq,Lf.vrow.injEq,and_true,true_and] at h;exact h
theorem FR:df DW Sa:=aR NU (fun _ _=>rfl) (fun _=>rfl) fun xs r h=>by
 simp only[Sa] at h;split at h
 .cases h;rename_i s;exact⟨s,rfl,rfl⟩
 .cases h
theorem YU {S:SC}(hB:SB S) (q19:aG S 19 (az G19)) (h502:S.has 502 f502):aG S 502 (az DW):=by
 refine prM hB [] [⟨19,G19,K19⟩] trivial ⟨⟨q19,NY⟩,trivial⟩ h502 (fun _=>⟨rfl,rfl,rfl⟩) (fun s=>fun _ _ _ _=>none) 400 ?_;rintro s hc;have hc1:s.length<=1099511627776:=hc.1;refine VC.use (p:=s.length<=1099511627776/\(bG s=0->(64<(↑(aJ s).length:Int)->5=tkE s)/\(¬64<(↑(aJ s).length:Int)->bG s=tkE s))/\(¬bG s=0->bG s=tkE s)) (by kernel_rfl) ?_;refine⟨hc1,fun h=>⟨fun h2=>?_,fun h2=>?_⟩,fun h=>?_⟩
 .exact(tu h h2).2
 .exact(GU h h2).2
 .exact(FP h).2
def PX:List UInt8×List UInt8->List SV:=fun(a,b)=>[.one (.str a),.one (.str b)]
def Zd:List UInt8×List UInt8->SV×List Prop:=fun(a,b)=>(.one (.bool (preB a b)),[])
def Qc:Con:=⟨true,[none,none],fun xs=>match xs with | [.one (.str a),.one (.str b)]=>some (Zd (a,b)) | _=>none⟩
noncomputable def Ew:GP:=bZ PX Zd
theorem NI:∀a b,(PX a).map aB=(PX b).map aB->a=b:=by
 rintro⟨a0,a1⟩ ⟨b0,b1⟩ h;simp only[PX,zK,List.map_nil,aB,aS,zG,AV.one.injEq,AV.agg.injEq,Lf.int.injEq,Lf.str.injEq,Lf.bool.injEq,Lf.vrow.injEq,and_true,true_and,and_assoc] at h;obtain⟨h0,h1⟩:=h;subst h0 h1
 rfl
theorem Gz:df Ew Qc:=aR NI (fun⟨_,_⟩ ⟨_,_⟩=>rfl) (fun⟨_,_⟩=>rfl) fun xs r h=>by
 simp only[Qc] at h;split at h
 .cases h;rename_i a b;exact⟨(a,b),rfl,rfl⟩
 .cases h
theorem Zf {S:SC}(hB:SB S)  (h504:S.has 504 f504):aG S 504 (az Ew):=by
 refine prM hB [] [] trivial trivial h504 (fun⟨a,b⟩=>⟨rfl,rfl,rfl⟩) (fun(a,b)=>fun _ _ _ _=>none) 400 ?_;rintro⟨a,b⟩ hc;refine VC.use (p:=((b.length:Int)<=(a.length:Int)->(0<=(b.length:Int)/\(b.length:Int)<=(a.length:Int))/\decide (aC a none (some (b.length:Int))=b)=preB a b)/\(¬(b.length:Int)<=(a.length:Int)->false=preB a b)) (by kernel_rfl) ?_;refine⟨fun h=>⟨⟨by omega,h⟩,?_⟩,fun h=>?_⟩
 .have e:aC a none (some (b.length:Int))=a.take b.length:=rfl;rw[e];unfold preB;rw[decide_eq_decide];exact⟨fun h2=>⟨by omega,h2⟩,fun h2=>h2.2⟩
 .unfold preB;rw[decide_eq_false (fun h2=>h (by omega))]
def QM:(List ((List (Int×Int))×Bool×Int))×Int×List (Int)×Int->List SV:=fun(d0,d1,d2,i)=>[.one (.vptr (.pair (.row (.pair (.row (.pair (.int .i32) (.int .i64))) (.pair .bool (.int .i64)))) (.pair (.int .i64) (.row (.int .i64)))) (d0,d1,d2) 0),.one (.int .i64 i)]
def ZE:(List ((List (Int×Int))×Bool×Int))×Int×List (Int)×Int->SV×List Prop:=fun(d0,d1,d2,i)=>(.agg [.str ((wdA d0 d2).getD i.toNat ([],0)).1,.int .i64 ((wdA d0 d2).getD i.toNat ([],0)).2],[NwD d0 d2,0<=i/\i<d2.length])
def Um:Con:=⟨true,[some (.pair (.row (.pair (.row (.pair (.int .i32) (.int .i64))) (.pair .bool (.int .i64)))) (.pair (.int .i64) (.row (.int .i64)))),none],fun xs=>match xs with | [.one (.vptr (.pair (.row (.pair (.row (.pair (.int .i32) (.int .i64))) (.pair .bool (.int .i64)))) (.pair (.int .i64) (.row (.int .i64)))) (d0,d1,d2) 0),.one (.int .i64 i)]=>some (ZE (d0,d1,d2,i)) | _=>none⟩
noncomputable def DU:GP:=bZ QM ZE
theorem Ml:∀a b,(QM a).map aB=(QM b).map aB->a=b:=by
 rintro⟨a0,a1,a2,a3⟩ ⟨b0,b1,b2,b3⟩ h;simp only[QM,zK,List.map_nil,aB,aS,List.drop_zero,zG,AV.one.injEq,AV.agg.injEq,Lf.int.injEq,Lf.str.injEq,Lf.bool.injEq,Lf.vrow.injEq,Lf.vptr.injEq,and_true,true_and,and_assoc] at h;obtain⟨h0,h1⟩:=h;have h0:=Ty.enc_inj _ h0;simp only[zF] at h0;obtain⟨rfl,rfl,rfl⟩:=h0;subst h1
 rfl
theorem Gu:df DU Um:=aR Ml (fun⟨_,_,_,_⟩ ⟨_,_,_,_⟩=>rfl) (fun⟨_,_,_,_⟩=>rfl) fun xs r h=>by
 simp only[Um] at h;split at h
 .cases h;rename_i d0 d1 d2 i;exact⟨(d0,d1,d2,i),rfl,rfl⟩
 .cases h
theorem YR {S:SC}(hB:SB S) (Wz:aG S 302 (az Oe)) (h507:S.has 507 f507):aG S 507 (az DU):=by
 refine prM hB [] [⟨302,Oe,WN⟩] trivial ⟨⟨Wz,Tx⟩,trivial⟩ h507 (fun⟨d0,d1,d2,i⟩=>⟨rfl,rfl,rfl⟩) (fun(d0,d1,d2,i)=>fun _ _ _ _=>none) 400 ?_;rintro⟨d0,d1,d2,i⟩ hc;have hc1:NwD d0 d2:=hc.1;have hc2:0<=i/\i<d2.length:=hc.2.1;refine VC.use (p:=DwS d0/\(d2.length:Int)=(stA d0 0).2.2/\(if 0<=i/\i<(d2.length:Int) then tX d0 i else [])=((wdA d0 d2).getD i.toNat ([],0)).1/\(if 0<=i/\i<(d2.length:Int) then d2.getD i.toNat 0 else 0)=((wdA d0 d2).getD i.toNat ([],0)).2) (by kernel_rfl) ?_;have h:=hc1.p;have e:=VD (d0:=d0) (d2:=d2) (i:=i.toNat) (by omega);rw[if_pos hc2,if_pos hc2,e,Int.toNat_of_nonneg hc2.1];exact⟨h.s,h.ct,rfl,rfl⟩
def Uo:List Int->List SV:=fun l=>[.one (.row (.int .i32) l)]
def YG:List Int->SV×List Prop:=fun l=>(.one (.str (iQ l)),[l.length<=1099511627776])
def Qy:Con:=⟨true,[some (.int .i32)],fun xs=>match xs with | [.one (.row (.int .i32) l)]=>some (YG l) | _=>none⟩
noncomputable def Ee:GP:=bZ Uo YG
theorem KP:∀a b,(Uo a).map aB=(Uo b).map aB->a=b:=by
 rintro a0 b0 h;simp only[Uo,zK,List.map_nil,aB,aS,zG,AV.one.injEq,AV.agg.injEq,Lf.int.injEq,Lf.str.injEq,Lf.bool.injEq,Lf.vrow.injEq,and_true,true_and] at h;exact bT h
theorem GD:df Ee Qy:=aR KP (fun _ _=>rfl) (fun _=>rfl) fun xs r h=>by
 simp only[Qy] at h;split at h
 .cases h;rename_i l;exact⟨l,rfl,rfl⟩
 .cases h
theorem YT {S:SC}(hB:SB S) (q33:aG S 33 (az G33)) (h506:S.has 506 f506):aG S 506 (az Ee):=by
 refine prM hB [] [⟨33,G33,K33⟩] trivial ⟨⟨q33,Vn⟩,trivial⟩ h506 (fun _=>⟨rfl,rfl,rfl⟩) (fun l=>fun _ _ _ _=>none) 400 ?_;rintro l hc;have hc1:l.length<=1099511627776:=hc.1;refine VC.use (p:=l.length<=1099511627776/\iQ l=iQ l) (by kernel_rfl) ?_;exact⟨hc1,rfl⟩
def Ro:(List ((List (Int×Int))×Bool×Int))×Int×List (Int)×List UInt8->List SV:=fun(d0,d1,d2,s)=>[.one (.vptr (.pair (.row (.pair (.row (.pair (.int .i32) (.int .i64))) (.pair .bool (.int .i64)))) (.pair (.int .i64) (.row (.int .i64)))) (d0,d1,d2) 0),.one (.str s)]
def YV:(List ((List (Int×Int))×Bool×Int))×Int×List (Int)×List UInt8->SV×List Prop:=fun(d0,d1,d2,s)=>(.tup [.o (.int .i64 (aV (wdA d0 d2) s)),.o (.int .i64 (dA (wdA d0 d2) s))],[NwD d0 d2,s.length<=1099511627776])
def WS:Con:=⟨true,[some (.pair (.row (.pair (.row (.pair (.int .i32) (.int .i64))) (.pair .bool (.int .i64)))) (.pair (.int .i64) (.row (.int .i64)))),none],fun xs=>match xs with | [.one (.vptr (.pair (.row (.pair (.row (.pair (.int .i32) (.int .i64))) (.pair .bool (.int .i64)))) (.pair (.int .i64) (.row (.int .i64)))) (d0,d1,d2) 0),.one (.str s)]=>some (YV (d0,d1,d2,s)) | _=>none⟩
noncomputable def Oh:GP:=bZ Ro YV
theorem Me:∀a b,(Ro a).map aB=(Ro b).map aB->a=b:=by
 rintro⟨a0,a1,a2,a3⟩ ⟨b0,b1,b2,b3⟩ h;simp only[Ro,zK,List.map_nil,aB,aS,List.drop_zero,zG,AV.one.injEq,AV.agg.injEq,Lf.int.injEq,Lf.str.injEq,Lf.bool.injEq,Lf.vrow.injEq,Lf.vptr.injEq,and_true,true_and,and_assoc] at h;obtain⟨h0,h1⟩:=h;have h0:=Ty.enc_inj _ h0;simp only[zF] at h0;obtain⟨rfl,rfl,rfl⟩:=h0;subst h1
 rfl
theorem Rv:df Oh WS:=aR Me (fun⟨_,_,_,_⟩ ⟨_,_,_,_⟩=>rfl) (fun⟨_,_,_,_⟩=>rfl) fun xs r h=>by
 simp only[WS] at h;split at h
 .cases h;rename_i d0 d1 d2 s;exact⟨(d0,d1,d2,s),rfl,rfl⟩
 .cases h
theorem aak {S:SC}(hB:SB S) (Vb:aG S 284 (az PE)) (IQ:aG S 507 (az DU)) (q65:aG S 65 (az G65)) (h511:S.has 511 f511) (h512:S.has 512 f512) (h513:S.has 513 f513) (h503:S.has 503 f503):aG S 503 (az Oh):=by
 refine prM hB [(511,f511),(512,f512),(513,f513)] [⟨284,PE,VV⟩,⟨507,DU,Um⟩,⟨65,G65,K65⟩] ⟨h511,h512,h513,trivial⟩ ⟨⟨Vb,Qu⟩,⟨IQ,Gu⟩,⟨q65,Ye⟩,trivial⟩ h503 (fun⟨d0,d1,d2,s⟩=>⟨rfl,rfl,rfl⟩) (fun(d0,d1,d2,s)=>fun f id T L=>match f,id with
  |511,0=>match T.getD 1 .junk with | .one (.fn 512 _)=>some (.inv { x:Nat×Nat // x.1<=aV (wdA d0 d2) s/\aV (wdA d0 d2) s<=x.2/\x.2<=d2.length } (fun x=>([(5,.one (.int .i64 x.1.1)),(6,.one (.int .i64 x.1.2))],[])) (fun x=>x.1.2-x.1.1)) | .one (.fn 513 _)=>some (.inv { x:Nat×Nat // x.1<=dA (wdA d0 d2) s-aV (wdA d0 d2) s/\dA (wdA d0 d2) s-aV (wdA d0 d2) s<=x.2/\x.2<=d2.length-aV (wdA d0 d2) s } (fun x=>([(5,.one (.int .i64 x.1.1)),(6,.one (.int .i64 x.1.2))],[])) (fun x=>x.1.2-x.1.1)) | _=>none
  |_,_=>none) 2000 ?_
 rintro⟨d0,d1,d2,s⟩ hc;have hc1:NwD d0 d2:=hc.1;have hc2:s.length<=1099511627776:=hc.2.1;refine VC.use (p:=(∃x1:{ x:Nat×Nat // x.1<=aV (wdA d0 d2) s/\aV (wdA d0 d2) s<=x.2/\x.2<=d2.length },0=(x1.1.1:Int)/\(d2.length:Int)=(x1.1.2:Int)/\(d0,d1,d2)=(d0,d1,d2)/\s=s)/\(∀x1:{ x:Nat×Nat // x.1<=aV (wdA d0 d2) s/\aV (wdA d0 d2) s<=x.2/\x.2<=d2.length },((x1.1.1:Int)<(x1.1.2:Int)->aA ((x1.1.1:Int)+(x1.1.2:Int))/\aA ((IntKind.u64.wrap ((x1.1.1:Int)+(x1.1.2:Int))).fdiv 2)/\NwD d0 d2/\(0<=(IntKind.u64.wrap ((x1.1.1:Int)+(x1.1.2:Int))).fdiv 2/\(IntKind.u64.wrap ((x1.1.1:Int)+(x1.1.2:Int))).fdiv 2<(d2.length:Int))/\((!!aW ((wdA d0 d2).getD ((IntKind.u64.wrap ((x1.1.1:Int)+(x1.1.2:Int))).fdiv 2).toNat ([],0)).1 s)=true->aA ((IntKind.u64.wrap ((x1.1.1:Int)+(x1.1.2:Int))).fdiv 2+1)/\(∃x2:{ x:Nat×Nat // x.1<=aV (wdA d0 d2) s/\aV (wdA d0 d2) s<=x.2/\x.2<=d2.length },x2.1.2-x2.1.1<x1.1.2-x1.1.1/\(IntKind.u64.wrap ((x1.1.1:Int)+(x1.1.2:Int))).fdiv 2+1=(x2.1.1:Int)/\(x1.1.2:Int)=(x2.1.2:Int)/\(d0,d1,d2)=(d0,d1,d2)/\s=s))/\(¬(!!aW ((wdA d0 d2).getD ((IntKind.u64.wrap ((x1.1.1:Int)+(x1.1.2:Int))).fdiv 2).toNat ([],0)).1 s)=true->∃x2:{ x:Nat×Nat // x.1<=aV (wdA d0 d2) s/\aV (wdA d0 d2) s<=x.2/\x.2<=d2.length },x2.1.2-x2.1.1<x1.1.2-x1.1.1/\(x1.1.1:Int)=(x2.1.1:Int)/\(IntKind.u64.wrap ((x1.1.1:Int)+(x1.1.2:Int))).fdiv 2=(x2.1.2:Int)/\(d0,d1,d2)=(d0,d1,d2)/\s=s))/\(¬(x1.1.1:Int)<(x1.1.2:Int)->aA ((d2.length:Int)-(x1.1.1:Int))/\(∃x2:{ x:Nat×Nat // x.1<=dA (wdA d0 d2) s-aV (wdA d0 d2) s/\dA (wdA d0 d2) s-aV (wdA d0 d2) s<=x.2/\x.2<=d2.length-aV (wdA d0 d2) s },0=(x2.1.1:Int)/\(d2.length:Int)-(x1.1.1:Int)=(x2.1.2:Int)/\(d0,d1,d2)=(d0,d1,d2)/\s=s/\(x1.1.1:Int)=(x1.1.1:Int))/\(∀x2:{ x:Nat×Nat // x.1<=dA (wdA d0 d2) s-aV (wdA d0 d2) s/\dA (wdA d0 d2) s-aV (wdA d0 d2) s<=x.2/\x.2<=d2.length-aV (wdA d0 d2) s },((x2.1.1:Int)<(x2.1.2:Int)->aA ((x2.1.1:Int)+(x2.1.2:Int))/\aA ((IntKind.u64.wrap ((x2.1.1:Int)+(x2.1.2:Int))).fdiv 2)/\aA ((x1.1.1:Int)+(IntKind.u64.wrap ((x2.1.1:Int)+(x2.1.2:Int))).fdiv 2)/\NwD d0 d2/\(0<=(x1.1.1:Int)+(IntKind.u64.wrap ((x2.1.1:Int)+(x2.1.2:Int))).fdiv 2/\(x1.1.1:Int)+(IntKind.u64.wrap ((x2.1.1:Int)+(x2.1.2:Int))).fdiv 2<(d2.length:Int))/\((!!preB ((wdA d0 d2).getD ((x1.1.1:Int)+(IntKind.u64.wrap ((x2.1.1:Int)+(x2.1.2:Int))).fdiv 2).toNat ([],0)).1 s)=true->aA ((IntKind.u64.wrap ((x2.1.1:Int)+(x2.1.2:Int))).fdiv 2+1)/\(∃x3:{ x:Nat×Nat // x.1<=dA (wdA d0 d2) s-aV (wdA d0 d2) s/\dA (wdA d0 d2) s-aV (wdA d0 d2) s<=x.2/\x.2<=d2.length-aV (wdA d0 d2) s },x3.1.2-x3.1.1<x2.1.2-x2.1.1/\(IntKind.u64.wrap ((x2.1.1:Int)+(x2.1.2:Int))).fdiv 2+1=(x3.1.1:Int)/\(x2.1.2:Int)=(x3.1.2:Int)/\(d0,d1,d2)=(d0,d1,d2)/\s=s/\(x1.1.1:Int)=(x1.1.1:Int)))/\(¬(!!preB ((wdA d0 d2).getD ((x1.1.1:Int)+(IntKind.u64.wrap ((x2.1.1:Int)+(x2.1.2:Int))).fdiv 2).toNat ([],0)).1 s)=true->∃x3:{ x:Nat×Nat // x.1<=dA (wdA d0 d2) s-aV (wdA d0 d2) s/\dA (wdA d0 d2) s-aV (wdA d0 d2) s<=x.2/\x.2<=d2.length-aV (wdA d0 d2) s },x3.1.2-x3.1.1<x2.1.2-x2.1.1/\(x2.1.1:Int)=(x3.1.1:Int)/\(IntKind.u64.wrap ((x2.1.1:Int)+(x2.1.2:Int))).fdiv 2=(x3.1.2:Int)/\(d0,d1,d2)=(d0,d1,d2)/\s=s/\(x1.1.1:Int)=(x1.1.1:Int)))/\(¬(x2.1.1:Int)<(x2.1.2:Int)->aA ((x1.1.1:Int)+(x2.1.1:Int))/\(x1.1.1:Int)=(↑(aV (wdA d0 d2) s):Int)/\(x1.1.1:Int)+(x2.1.1:Int)=(↑(dA (wdA d0 d2) s):Int)))))) (by kernel_rfl) ?_;have hw:=hc1.p;have hr:nk (wdA d0 d2):=(pJ.1 hw.e).2.1;have hpl:=Gd (wdA d0 d2) s;obtain⟨q1,q2,q3,q4⟩:=jR (wdA d0 d2) s;rw[hw.len] at hpl q2;have hfew:=hw.few;refine⟨⟨⟨(0,d2.length),Nat.zero_le _,hpl,zJ _⟩,rfl,rfl,rfl,rfl⟩,?_⟩;rintro⟨⟨a,b⟩,h1,h2,h3⟩;dsimp only at h1 h2 h3 ⊢;rw[uk a b (by omega)];refine⟨fun h=>?_,fun h=>?_⟩
 .have hm1:(a+b) / 2<b:=by omega
  have hm2:a<=(a+b) / 2:=by omega
  generalize (a+b) / 2=m at hm1 hm2 ⊢;rw[Int.toNat_natCast];refine⟨by unfold aA;omega,by unfold aA;omega,hc1,⟨by omega,by omega⟩,fun h4=>?_,fun h4=>?_⟩
  .have h6:m<aV (wdA d0 d2) s:=by
    rcases Nat.lt_or_ge m (aV (wdA d0 d2) s) with h5 | h5
    .exact h5
    .have:=GR hr h5 (by rw[hw.len];omega);rw[this] at h4;cases h4
   exact⟨by unfold aA;omega,⟨(m+1,b),h6,h2,h3⟩,by dsimp only;omega,by push_cast;rfl,rfl,rfl,rfl⟩
  .have h6:aV (wdA d0 d2) s<=m:=by
    rcases Nat.lt_or_ge m (aV (wdA d0 d2) s) with h5 | h5
    .have:=GH h5;rw[this] at h4;exact absurd rfl h4
    .exact h5
   exact⟨⟨(a,m),h1,h6,by dsimp only;omega⟩,by dsimp only;omega,rfl,rfl,rfl,rfl⟩
 .obtain rfl:a=aV (wdA d0 d2) s:=by omega
  refine⟨by unfold aA;omega,⟨⟨(0,d2.length-aV (wdA d0 d2) s),Nat.zero_le _,by dsimp only;omega,zJ _⟩,rfl,by dsimp only;omega,rfl,rfl,rfl⟩,?_⟩;rintro⟨⟨a2,b2⟩,g1,g2,g3⟩;dsimp only at g1 g2 g3 ⊢;rw[uk a2 b2 (by omega)];refine⟨fun h5=>?_,fun h5=>?_⟩
  .have hm1:(a2+b2) / 2<b2:=by omega
   have hm2:a2<=(a2+b2) / 2:=by omega
   generalize (a2+b2) / 2=m at hm1 hm2 ⊢;have e:((aV (wdA d0 d2) s:Int)+(m:Int)).toNat=aV (wdA d0 d2) s+m:=by omega
   rw[e];have hlt:aV (wdA d0 d2) s+m<(wdA d0 d2).length:=by rw[hw.len];omega
   have hpi:=sI hr (s:=s) hlt;refine⟨by unfold aA;omega,by unfold aA;omega,by unfold aA;omega,hc1,⟨by omega,by omega⟩,fun h6=>?_,fun h6=>?_⟩
   .have h7:=(hpi.1 (by simpa using h6)).2;exact⟨by unfold aA;omega,⟨(m+1,b2),by dsimp only;omega,g2,g3⟩,by dsimp only;omega,by push_cast;rfl,rfl,rfl,rfl,rfl⟩
   .have h7:¬ aV (wdA d0 d2) s+m<dA (wdA d0 d2) s:=fun h8=>h6 (by rw[hpi.2 ⟨by omega,h8⟩];rfl)
    exact⟨⟨(a2,m),g1,by dsimp only;omega,by dsimp only;omega⟩,by dsimp only;omega,rfl,rfl,rfl,rfl,rfl⟩
  .exact⟨by unfold aA;omega,rfl,by omega⟩
def QX:(List ((List (Int×Int))×Bool×Int))×Int×List (Int)×List Int->List SV:=fun(d0,d1,d2,l)=>[.one (.vptr (.pair (.row (.pair (.row (.pair (.int .i32) (.int .i64))) (.pair .bool (.int .i64)))) (.pair (.int .i64) (.row (.int .i64)))) (d0,d1,d2) 0),.one (.row (.int .i32) l)]
def ZI:(List ((List (Int×Int))×Bool×Int))×Int×List (Int)×List Int->SV×List Prop:=fun(d0,d1,d2,l)=>(.one (.row (.int .i64) (enL d0 l 0 0)),[ql d0,l.length<=1099511627776,∀r∈l,Utf8.valid r=true])
def Uw:Con:=⟨false,[some (.pair (.row (.pair (.row (.pair (.int .i32) (.int .i64))) (.pair .bool (.int .i64)))) (.pair (.int .i64) (.row (.int .i64)))),some (.int .i32)],fun xs=>match xs with | [.one (.vptr (.pair (.row (.pair (.row (.pair (.int .i32) (.int .i64))) (.pair .bool (.int .i64)))) (.pair (.int .i64) (.row (.int .i64)))) (d0,d1,d2) 0),.one (.row (.int .i32) l)]=>some (ZI (d0,d1,d2,l)) | _=>none⟩
noncomputable def EC:GP:=bZ QX ZI
theorem Mq:∀a b,(QX a).map aB=(QX b).map aB->a=b:=by
 rintro⟨a0,a1,a2,a3⟩ ⟨b0,b1,b2,b3⟩ h;simp only[QX,zK,List.map_nil,aB,aS,List.drop_zero,zG,AV.one.injEq,AV.agg.injEq,Lf.int.injEq,Lf.str.injEq,Lf.bool.injEq,Lf.vrow.injEq,Lf.vptr.injEq,and_true,true_and,and_assoc] at h;obtain⟨h0,h1⟩:=h;have h0:=Ty.enc_inj _ h0;simp only[zF] at h0;obtain⟨rfl,rfl,rfl⟩:=h0;obtain rfl:=bT h1
 rfl
theorem GX:df EC Uw:=aR Mq (fun⟨_,_,_,_⟩ ⟨_,_,_,_⟩=>rfl) (fun⟨_,_,_,_⟩=>rfl) fun xs r h=>by
 simp only[Uw] at h;split at h
 .cases h;rename_i d0 d1 d2 l;exact⟨(d0,d1,d2,l),rfl,rfl⟩
 .cases h
theorem aaw {S:SC}(hB:SB S) (Wi:aG S 286 (az Nn)) (Wm:aG S 289 (az OP)) (h501:S.has 501 f501) (h510:S.has 510 f510) (h505:S.has 505 f505):aG S 505 (az EC):=by
 refine prI hB [(501,f501),(510,f510)] [⟨286,Nn,VO⟩,⟨289,OP,VW⟩] [] ⟨h501,h510,trivial⟩ ⟨⟨Wi,Ri⟩,⟨Wm,QI⟩,trivial⟩ trivial h505 (fun⟨d0,d1,d2,l⟩=>⟨rfl,rfl,rfl⟩) (fun(d0,d1,d2,l)=>fun f id T L=>match f,id with
  |510,0=>some (.inv { x:Nat×Nat×List Int // x.1<=l.length/\x.2.1<d0.length/\x.2.2.length<=x.1/\enL d0 l 0 0=x.2.2++enL d0 (l.drop x.1) x.2.1 x.1 } (fun x=>([(4,.one (.int .i64 x.1.2.1)),(5,.one (.int .i64 x.1.1))],[(1,.cell [.osl 5]),(5,.row (.int .i64) x.1.2.2)])) (fun x=>l.length+1-x.1.1))
  |_,_=>none) 2000 ?_
 rintro⟨d0,d1,d2,l⟩ hc;have hc1:ql d0:=hc.1;have hc2:l.length<=1099511627776:=hc.2.1;have hc3:∀r∈l,Utf8.valid r=true:=hc.2.2.1;refine VC.use (p:=(∃x1:{ x:Nat×Nat×List Int // x.1<=l.length/\x.2.1<d0.length/\x.2.2.length<=x.1/\enL d0 l 0 0=x.2.2++enL d0 (List.drop x.1 l) (x.2.1:Int) (x.1:Int) },0=(x1.1.2.1:Int)/\0=(x1.1.1:Int)/\(d0,d1,d2)=(d0,d1,d2)/\x1.1.2.2=[]/\(d0,d1,d2)=(d0,d1,d2)/\l=l/\x1.1.2.2=[])/\(∀x1:{ x:Nat×Nat×List Int // x.1<=l.length/\x.2.1<d0.length/\x.2.2.length<=x.1/\enL d0 l 0 0=x.2.2++enL d0 (List.drop x.1 l) (x.2.1:Int) (x.1:Int) },((decide (0<=(x1.1.2.1:Int)/\(x1.1.2.1:Int)<(d0.length:Int))&&(stA d0 x1.1.2.1).2.1)=true->(x1.1.2.2.length+[(x1.1.1:Int)].length)*8<=140737488355328/\((x1.1.1:Int)<(l.length:Int)->(0<=(x1.1.1:Int)/\(x1.1.1:Int)<(l.length:Int))/\EdS d0/\IR (l.getD x1.1.1 0)/\((if 0<=(x1.1.2.1:Int)/\(x1.1.2.1:Int)<(d0.length:Int) then if dD (stA d0 x1.1.2.1).1 (l.getD x1.1.1 0)=true then (0:Int) else (10:Int) else 2)=0->aA ((x1.1.1:Int)+1)/\(∃x2:{ x:Nat×Nat×List Int // x.1<=l.length/\x.2.1<d0.length/\x.2.2.length<=x.1/\enL d0 l 0 0=x.2.2++enL d0 (List.drop x.1 l) (x.2.1:Int) (x.1:Int) },l.length+1-x2.1.1<l.length+1-x1.1.1/\(if 0<=(x1.1.2.1:Int)/\(x1.1.2.1:Int)<(d0.length:Int) then gM (stA d0 x1.1.2.1).1 (l.getD x1.1.1 0) else 0)=(x2.1.2.1:Int)/\(x1.1.1:Int)+1=(x2.1.1:Int)/\(d0,d1,d2)=(d0,d1,d2)/\(d0,d1,d2)=(d0,d1,d2)/\l=l/\x1.1.2.2++[(x1.1.1:Int)]=x2.1.2.2))/\(¬(if 0<=(x1.1.2.1:Int)/\(x1.1.2.1:Int)<(d0.length:Int) then if dD (stA d0 x1.1.2.1).1 (l.getD x1.1.1 0)=true then (0:Int) else (10:Int) else 2)=0->x1.1.2.2++[(x1.1.1:Int)]=enL d0 l 0 0))/\(¬(x1.1.1:Int)<(l.length:Int)->x1.1.2.2++[(x1.1.1:Int)]=enL d0 l 0 0))/\(¬(decide (0<=(x1.1.2.1:Int)/\(x1.1.2.1:Int)<(d0.length:Int))&&(stA d0 x1.1.2.1).2.1)=true->((x1.1.1:Int)<(l.length:Int)->(0<=(x1.1.1:Int)/\(x1.1.1:Int)<(l.length:Int))/\EdS d0/\IR (l.getD x1.1.1 0)/\((if 0<=(x1.1.2.1:Int)/\(x1.1.2.1:Int)<(d0.length:Int) then if dD (stA d0 x1.1.2.1).1 (l.getD x1.1.1 0)=true then (0:Int) else (10:Int) else 2)=0->aA ((x1.1.1:Int)+1)/\(∃x2:{ x:Nat×Nat×List Int // x.1<=l.length/\x.2.1<d0.length/\x.2.2.length<=x.1/\enL d0 l 0 0=x.2.2++enL d0 (List.drop x.1 l) (x.2.1:Int) (x.1:Int) },l.length+1-x2.1.1<l.length+1-x1.1.1/\(if 0<=(x1.1.2.1:Int)/\(x1.1.2.1:Int)<(d0.length:Int) then gM (stA d0 x1.1.2.1).1 (l.getD x1.1.1 0) else 0)=(x2.1.2.1:Int)/\(x1.1.1:Int)+1=(x2.1.1:Int)/\(d0,d1,d2)=(d0,d1,d2)/\(d0,d1,d2)=(d0,d1,d2)/\l=l/\x1.1.2.2=x2.1.2.2))/\(¬(if 0<=(x1.1.2.1:Int)/\(x1.1.2.1:Int)<(d0.length:Int) then if dD (stA d0 x1.1.2.1).1 (l.getD x1.1.1 0)=true then (0:Int) else (10:Int) else 2)=0->x1.1.2.2=enL d0 l 0 0))/\(¬(x1.1.1:Int)<(l.length:Int)->x1.1.2.2=enL d0 l 0 0)))) (by kernel_rfl) ?_;have hp0:=hc1.pos;refine⟨⟨⟨(0,0,[]),Nat.zero_le _,hp0,Nat.zero_le _,rfl⟩,rfl,rfl,rfl,rfl,rfl,rfl,rfl⟩,?_⟩;rintro⟨⟨i,a,o⟩,x1,x2,x3,x4⟩;dsimp only at x1 x2 x3 x4 ⊢;have hp:0<=(a:Int)/\(a:Int)<(d0.length:Int):=⟨by omega,by omega⟩;rw[decide_eq_true hp,Bool.true_and];simp only[if_pos hp];have hun:enL d0 (l.drop i) a i=(if (stA d0 a).2.1=true then [(i:Int)] else [])++(if i<l.length/\dD (stA d0 a).1 (l.getD i 0)=true then enL d0 (l.drop (i+1)) (gM (stA d0 a).1 (l.getD i 0)) (i+1) else []):=by
  by_cases hk:i<l.length
  .rw[gI hk];show (if (stA d0 (a:Int).toNat).2.1=true then [(i:Int)] else [])++(if dD (stA d0 (a:Int).toNat).1 (l.getD i 0)=true then enL d0 (l.drop (i+1)) (gM (stA d0 (a:Int).toNat).1 (l.getD i 0)) (i+1) else [])=_;rw[Int.toNat_natCast];by_cases hn:dD (stA d0 a).1 (l.getD i 0)=true
   .rw[if_pos hn,if_pos (show i<l.length/\dD (stA d0 a).1 (l.getD i 0)=true from⟨hk,hn⟩)]
   .rw[if_neg hn,if_neg (fun h:i<l.length/\dD (stA d0 a).1 (l.getD i 0)=true=>hn h.2)]
  .rw[List.drop_of_length_le (by omega),if_neg (fun h:i<l.length/\dD (stA d0 a).1 (l.getD i 0)=true=>hk h.1),List.append_nil];show (if (stA d0 (a:Int).toNat).2.1=true then [(i:Int)] else [])=_;rw[Int.toNat_natCast]
 rw[hun] at x4;refine⟨fun he=>⟨by simp only[zN];omega,?_⟩,fun he=>?_⟩
 .rw[if_pos he,<- zO] at x4;have x6:(o++[(i:Int)]).length<=i+1:=by rw[zL,zN];omega
  generalize o++[(i:Int)]=p at x4 x6 ⊢;refine⟨fun h=>?_,fun h=>?_⟩
  .have hk:i<l.length:=by omega
   have hv:Utf8.valid (l.getD i 0)=true:=hc3 _ (fq hk);have hIR:IR (l.getD i 0):=by have:=bA.1 hv;unfold IR;omega
   refine⟨⟨by omega,h⟩,hc1.eds,hIR,fun h2=>?_,fun h2=>?_⟩
   .have hn:dD (stA d0 a).1 (l.getD i 0)=true:=by
     by_cases hn:dD (stA d0 a).1 (l.getD i 0)=true
     .exact hn
     .rw[if_neg hn] at h2;cases h2
    rw[if_pos ⟨hk,hn⟩] at x4;have hto:=hc1.to a x2 _ (pq hn);dsimp only at hto;refine⟨by unfold aA;omega,⟨(i+1,(gM (stA d0 a).1 (l.getD i 0)).toNat,p),hk,by dsimp only;omega,x6,?_⟩,by dsimp only;omega,by dsimp only;omega,by push_cast;rfl,trivial,trivial,trivial,rfl⟩;dsimp only;rw[x4,Int.toNat_of_nonneg hto.1];push_cast;rfl
   .rw[if_neg (fun h3=>h2 (by rw[if_pos h3.2])),List.append_nil] at x4;exact x4.symm
  .rw[if_neg (fun h3=>h (by omega)),List.append_nil] at x4;exact x4.symm
 .rw[if_neg he,List.nil_append] at x4;have x6:o.length<=i+1:=by omega
  refine⟨fun h=>?_,fun h=>?_⟩
  .have hk:i<l.length:=by omega
   have hv:Utf8.valid (l.getD i 0)=true:=hc3 _ (fq hk);have hIR:IR (l.getD i 0):=by have:=bA.1 hv;unfold IR;omega
   refine⟨⟨by omega,h⟩,hc1.eds,hIR,fun h2=>?_,fun h2=>?_⟩
   .have hn:dD (stA d0 a).1 (l.getD i 0)=true:=by
     by_cases hn:dD (stA d0 a).1 (l.getD i 0)=true
     .exact hn
     .rw[if_neg hn] at h2;cases h2
    rw[if_pos ⟨hk,hn⟩] at x4;have hto:=hc1.to a x2 _ (pq hn);dsimp only at hto;refine⟨by unfold aA;omega,⟨(i+1,(gM (stA d0 a).1 (l.getD i 0)).toNat,o),hk,by dsimp only;omega,x6,?_⟩,by dsimp only;omega,by dsimp only;omega,by push_cast;rfl,trivial,trivial,trivial,rfl⟩;dsimp only;rw[x4,Int.toNat_of_nonneg hto.1];push_cast;rfl
   .rw[if_neg (fun h3=>h2 (by rw[if_pos h3.2])),List.append_nil] at x4;exact x4.symm
  .rw[if_neg (fun h3=>h (by omega)),List.append_nil] at x4;exact x4.symm
end Go.EA
end
section
set_option maxRecDepth 100000
set_option maxHeartbeats 0
namespace Go.EA
open F
def QR:(List ((List (Int×Int))×Bool×Int))×Int×List (Int)×List UInt8->List SV:=fun(d0,d1,d2,s)=>[.one (.vptr (.pair (.row (.pair (.row (.pair (.int .i32) (.int .i64))) (.pair .bool (.int .i64)))) (.pair (.int .i64) (.row (.int .i64)))) (d0,d1,d2) 0),.one (.str s)]
def Zg:(List ((List (Int×Int))×Bool×Int))×Int×List (Int)×List UInt8->SV×List Prop:=fun(d0,d1,d2,s)=>(.tup [.o (.str (loE d0 s).1),.o (.int .i64 (loE d0 s).2)],[ql d0,s.length<=1099511627776])
def Vq:Con:=⟨true,[some (.pair (.row (.pair (.row (.pair (.int .i32) (.int .i64))) (.pair .bool (.int .i64)))) (.pair (.int .i64) (.row (.int .i64)))),none],fun xs=>match xs with | [.one (.vptr (.pair (.row (.pair (.row (.pair (.int .i32) (.int .i64))) (.pair .bool (.int .i64)))) (.pair (.int .i64) (.row (.int .i64)))) (d0,d1,d2) 0),.one (.str s)]=>some (Zg (d0,d1,d2,s)) | _=>none⟩
noncomputable def Kq:GP:=bZ QR Zg
theorem JQ:∀a b,(QR a).map aB=(QR b).map aB->a=b:=by
 rintro⟨a0,a1,a2,a3⟩ ⟨b0,b1,b2,b3⟩ h;simp only[QR,zK,List.map_nil,aB,aS,List.drop_zero,zG,AV.one.injEq,AV.agg.injEq,Lf.int.injEq,Lf.str.injEq,Lf.bool.injEq,Lf.vrow.injEq,Lf.vptr.injEq,and_true,true_and,and_assoc] at h;obtain⟨h0,h1⟩:=h;have h0:=Ty.enc_inj _ h0;simp only[zF] at h0;obtain⟨rfl,rfl,rfl⟩:=h0;subst h1
 rfl
theorem Ul:df Kq Vq:=aR JQ (fun⟨_,_,_,_⟩ ⟨_,_,_,_⟩=>rfl) (fun⟨_,_,_,_⟩=>rfl) fun xs r h=>by
 simp only[Vq] at h;split at h
 .cases h;rename_i d0 d1 d2 s;exact⟨(d0,d1,d2,s),rfl,rfl⟩
 .cases h
theorem Zb {S:SC}(hB:SB S) (yV:aG S 500 (az Af)) (IU:aG S 505 (az EC)) (JG:aG S 506 (az Ee)) (h493:S.has 493 f493):aG S 493 (az Kq):=by
 refine prM hB [] [⟨500,Af,MH⟩,⟨505,EC,Uw⟩,⟨506,Ee,Qy⟩] trivial ⟨⟨yV,xQ⟩,⟨IU,GX⟩,⟨JG,GD⟩,trivial⟩ h493 (fun⟨d0,d1,d2,s⟩=>⟨rfl,rfl,rfl⟩) (fun(d0,d1,d2,s)=>fun _ _ _ _=>none) 400 ?_;rintro⟨d0,d1,d2,s⟩ hc;have hc1:ql d0:=hc.1;have hc2:s.length<=1099511627776:=hc.2.1;refine VC.use (p:=s.length<=1099511627776/\(tkE s=0->ql d0/\(tkL s).length<=1099511627776/\(∀(r:Int),r∈tkL s->Utf8.valid r=true)/\((↑(enL d0 (tkL s) 0 0).length:Int)=0->[]=(loE d0 s).1/\10=(loE d0 s).2)/\(¬(↑(enL d0 (tkL s) 0 0).length:Int)=0->aA ((↑(enL d0 (tkL s) 0 0).length:Int)-1)/\(0<=(↑(enL d0 (tkL s) 0 0).length:Int)-1/\(↑(enL d0 (tkL s) 0 0).length:Int)-1<(↑(enL d0 (tkL s) 0 0).length:Int))/\(0<=(enL d0 (tkL s) 0 0).getD ((↑(enL d0 (tkL s) 0 0).length:Int)-1).toNat 0/\(enL d0 (tkL s) 0 0).getD ((↑(enL d0 (tkL s) 0 0).length:Int)-1).toNat 0<=(↑(tkL s).length:Int))/\(aC (tkL s) none (some ((enL d0 (tkL s) 0 0).getD ((↑(enL d0 (tkL s) 0 0).length:Int)-1).toNat 0))).length<=1099511627776/\iQ (aC (tkL s) none (some ((enL d0 (tkL s) 0 0).getD ((↑(enL d0 (tkL s) 0 0).length:Int)-1).toNat 0)))=(loE d0 s).1/\0=(loE d0 s).2))/\(¬tkE s=0->[]=(loE d0 s).1/\tkE s=(loE d0 s).2)) (by kernel_rfl) ?_;refine⟨hc2,fun ht=>?_,fun ht=>?_⟩
 .obtain⟨t1,t2,t3⟩:=En ht;have hval:∀r∈tkL s,Utf8.valid r=true:=by rw[t3];exact lc t1
  have hlen:(tkL s).length<=64:=by rw[t3];exact t2
  have hel:=yS d0 (tkL s) 0 0;refine⟨hc1,by omega,hval,fun h=>?_,fun h=>?_⟩
  .unfold loE;rw[if_pos ht,if_pos (by omega)];exact⟨rfl,rfl⟩
  .have e:(((enL d0 (tkL s) 0 0).length:Int)-1).toNat=(enL d0 (tkL s) 0 0).length-1:=by omega
   have hm:(enL d0 (tkL s) 0 0).getD ((enL d0 (tkL s) 0 0).length-1) 0∈enL d0 (tkL s) 0 0:=fq (by omega);have hb:=sQ d0 (tkL s) 0 0 _ hm;have hE:loE d0 s=(iQ ((tkL s).take ((enL d0 (tkL s) 0 0).getD ((enL d0 (tkL s) 0 0).length-1) 0).toNat),0):=by
    unfold loE;rw[if_pos ht,if_neg (by omega)]
   rw[e,hE];have hcut:aC (tkL s) none (some ((enL d0 (tkL s) 0 0).getD ((enL d0 (tkL s) 0 0).length-1) 0))=(tkL s).take ((enL d0 (tkL s) 0 0).getD ((enL d0 (tkL s) 0 0).length-1) 0).toNat:=rfl;rw[hcut];exact⟨by unfold aA;omega,⟨by omega,by omega⟩,⟨by omega,by omega⟩,by rw[zP];omega,rfl,rfl⟩
 .unfold loE;rw[if_neg ht];exact⟨rfl,rfl⟩
def Rw:(List ((List (Int×Int))×Bool×Int))×Int×List (Int)×List UInt8×Int->List SV:=fun(d0,d1,d2,s,k)=>[.one (.vptr (.pair (.row (.pair (.row (.pair (.int .i32) (.int .i64))) (.pair .bool (.int .i64)))) (.pair (.int .i64) (.row (.int .i64)))) (d0,d1,d2) 0),.one (.str s),.one (.int .i64 k)]
def YM:(List ((List (Int×Int))×Bool×Int))×Int×List (Int)×List UInt8×Int->SV×List Prop:=fun(d0,d1,d2,s,k)=>(.tup [.o (.row WdT (cmE (wdA d0 d2) s k).1),.o (.int .i64 (cmE (wdA d0 d2) s k).2)],[NwD d0 d2,s.length<=1099511627776])
def VR:Con:=⟨false,[some (.pair (.row (.pair (.row (.pair (.int .i32) (.int .i64))) (.pair .bool (.int .i64)))) (.pair (.int .i64) (.row (.int .i64)))),none,none],fun xs=>match xs with | [.one (.vptr (.pair (.row (.pair (.row (.pair (.int .i32) (.int .i64))) (.pair .bool (.int .i64)))) (.pair (.int .i64) (.row (.int .i64)))) (d0,d1,d2) 0),.one (.str s),.one (.int .i64 k)]=>some (YM (d0,d1,d2,s,k)) | _=>none⟩
noncomputable def OH:GP:=bZ Rw YM
theorem OG:∀a b,(Rw a).map aB=(Rw b).map aB->a=b:=by
 rintro⟨a0,a1,a2,a3,a4⟩ ⟨b0,b1,b2,b3,b4⟩ h;simp only[Rw,zK,List.map_nil,aB,aS,List.drop_zero,zG,AV.one.injEq,AV.agg.injEq,Lf.int.injEq,Lf.str.injEq,Lf.bool.injEq,Lf.vrow.injEq,Lf.vptr.injEq,and_true,true_and,and_assoc] at h;obtain⟨h0,h1,h2⟩:=h;have h0:=Ty.enc_inj _ h0;simp only[zF] at h0;obtain⟨rfl,rfl,rfl⟩:=h0;subst h1;subst h2
 rfl
theorem TA:df OH VR:=aR OG (fun⟨_,_,_,_,_⟩ ⟨_,_,_,_,_⟩=>rfl) (fun⟨_,_,_,_,_⟩=>rfl) fun xs r h=>by
 simp only[VR] at h;split at h
 .cases h;rename_i d0 d1 d2 s k;exact⟨(d0,d1,d2,s,k),rfl,rfl⟩
 .cases h
theorem Zx {S:SC}(hB:SB S) (yV:aG S 500 (az Af)) (WZ:aG S 503 (az Oh)) (IQ:aG S 507 (az DU)) (h495:S.has 495 f495):aG S 495 (az OH):=by
 refine prI hB [] [⟨500,Af,MH⟩,⟨503,Oh,WS⟩,⟨507,DU,Um⟩] [] trivial ⟨⟨yV,xQ⟩,⟨WZ,Rv⟩,⟨IQ,Gu⟩,trivial⟩ trivial h495 (fun⟨d0,d1,d2,s,k⟩=>⟨rfl,rfl,rfl⟩) (fun(d0,d1,d2,s,k)=>fun f id T L=>match f,id with
  |495,0=>some (.inv { x:Nat // x<=cmN (wdA d0 d2) s k } (fun x=>([(12,.one (.int .i64 ((aV (wdA d0 d2) s:Int)+(x.1:Int)))),(6,.one (.osl 0))],[(0,.row WdT (((wdA d0 d2).drop (aV (wdA d0 d2) s)).take x.1))])) (fun x=>cmN (wdA d0 d2) s k-x.1))
  |_,_=>none) 2000 ?_
 rintro⟨d0,d1,d2,s,k⟩ hc;have hc1:NwD d0 d2:=hc.1;have hc2:s.length<=1099511627776:=hc.2.1;refine VC.use (p:=s.length<=1099511627776/\(tkE s=0->(k<0->[]=(cmE (wdA d0 d2) s k).1/\2=(cmE (wdA d0 d2) s k).2)/\(¬k<0->(1000<k->[]=(cmE (wdA d0 d2) s k).1/\2=(cmE (wdA d0 d2) s k).2)/\(¬1000<k->NwD d0 d2/\s.length<=1099511627776/\(∃x1:{ x:Nat // x<=cmN (wdA d0 d2) s k },(d0,d1,d2)=(d0,d1,d2)/\k=k/\List.take x1.1 (List.drop (aV (wdA d0 d2) s) (wdA d0 d2))=[]/\(↑(aV (wdA d0 d2) s):Int)=(↑(aV (wdA d0 d2) s):Int)/\(↑(dA (wdA d0 d2) s):Int)=(↑(dA (wdA d0 d2) s):Int)/\(↑(aV (wdA d0 d2) s):Int)=(↑(aV (wdA d0 d2) s):Int)+(x1.1:Int)/\List.take x1.1 (List.drop (aV (wdA d0 d2) s) (wdA d0 d2))=[])/\(∀x1:{ x:Nat // x<=cmN (wdA d0 d2) s k },aA ((↑(aV (wdA d0 d2) s):Int)+k)/\((↑(aV (wdA d0 d2) s):Int)+(x1.1:Int)<(if (↑(aV (wdA d0 d2) s):Int)+k<(↑(dA (wdA d0 d2) s):Int) then (↑(aV (wdA d0 d2) s):Int)+k else (↑(dA (wdA d0 d2) s):Int))->NwD d0 d2/\(0<=(↑(aV (wdA d0 d2) s):Int)+(x1.1:Int)/\(↑(aV (wdA d0 d2) s):Int)+(x1.1:Int)<(d2.length:Int))/\((List.take x1.1 (List.drop (aV (wdA d0 d2) s) (wdA d0 d2))).length+[(((wdA d0 d2).getD ((↑(aV (wdA d0 d2) s):Int)+(x1.1:Int)).toNat ([],0)).1,((wdA d0 d2).getD ((↑(aV (wdA d0 d2) s):Int)+(x1.1:Int)).toNat ([],0)).2)].length)*24<=140737488355328/\aA ((↑(aV (wdA d0 d2) s):Int)+(x1.1:Int)+1)/\(∃x2:{ x:Nat // x<=cmN (wdA d0 d2) s k },cmN (wdA d0 d2) s k-x2.1<cmN (wdA d0 d2) s k-x1.1/\(d0,d1,d2)=(d0,d1,d2)/\k=k/\(↑(aV (wdA d0 d2) s):Int)=(↑(aV (wdA d0 d2) s):Int)/\(↑(dA (wdA d0 d2) s):Int)=(↑(dA (wdA d0 d2) s):Int)/\(↑(aV (wdA d0 d2) s):Int)+(x1.1:Int)+1=(↑(aV (wdA d0 d2) s):Int)+(x2.1:Int)/\List.take x1.1 (List.drop (aV (wdA d0 d2) s) (wdA d0 d2))++[(((wdA d0 d2).getD ((↑(aV (wdA d0 d2) s):Int)+(x1.1:Int)).toNat ([],0)).1,((wdA d0 d2).getD ((↑(aV (wdA d0 d2) s):Int)+(x1.1:Int)).toNat ([],0)).2)]=List.take x2.1 (List.drop (aV (wdA d0 d2) s) (wdA d0 d2))))/\(¬(↑(aV (wdA d0 d2) s):Int)+(x1.1:Int)<(if (↑(aV (wdA d0 d2) s):Int)+k<(↑(dA (wdA d0 d2) s):Int) then (↑(aV (wdA d0 d2) s):Int)+k else (↑(dA (wdA d0 d2) s):Int))->List.take x1.1 (List.drop (aV (wdA d0 d2) s) (wdA d0 d2))=(cmE (wdA d0 d2) s k).1/\0=(cmE (wdA d0 d2) s k).2)))))/\(¬tkE s=0->[]=(cmE (wdA d0 d2) s k).1/\tkE s=(cmE (wdA d0 d2) s k).2)) (by kernel_rfl) ?_;have hw:=hc1.p;obtain⟨q1,q2,_,_⟩:=jR (wdA d0 d2) s;have hl:=hw.len;have hf:=hw.few;refine⟨hc2,fun ht=>⟨fun h=>?_,fun h=>⟨fun h2=>?_,fun h2=>⟨hc1,hc2,⟨⟨0,Nat.zero_le _⟩,rfl,rfl,rfl,rfl,rfl,by simp,rfl⟩,?_⟩⟩⟩,fun ht=>?_⟩
 .unfold cmE;rw[if_pos ht,if_neg (by omega)];exact⟨rfl,rfl⟩
 .unfold cmE;rw[if_pos ht,if_neg (by omega)];exact⟨rfl,rfl⟩
 .rintro⟨x,hx⟩;dsimp only;have hN:cmN (wdA d0 d2) s k=min (dA (wdA d0 d2) s) (aV (wdA d0 d2) s+k.toNat)-aV (wdA d0 d2) s:=rfl;have hE:cmE (wdA d0 d2) s k=(((wdA d0 d2).drop (aV (wdA d0 d2) s)).take (cmN (wdA d0 d2) s k),0):=by
   unfold cmE;rw[if_pos ht,if_pos ⟨by omega,by omega⟩]
  rw[hE];generalize cmN (wdA d0 d2) s k=N at hx hN ⊢;generalize aV (wdA d0 d2) s=P at q1 hN ⊢;generalize dA (wdA d0 d2) s=E at q1 q2 hN ⊢;have hif:(if (P:Int)+k<(E:Int) then (P:Int)+k else (E:Int))=(P:Int)+(N:Int):=by split <;> omega
  rw[hif];refine⟨by unfold aA;omega,fun h3=>?_,fun h3=>?_⟩
  .have hlt:x<N:=by omega
   have e:((P:Int)+(x:Int)).toNat=P+x:=by omega
   have hd:(List.drop P (wdA d0 d2)).getD x ([],0)=(wdA d0 d2).getD (P+x) ([],0):=by
    rw[zA,zA,List.getElem?_drop]
   rw[e];refine⟨hc1,⟨by omega,by omega⟩,?_,by unfold aA;omega,⟨x+1,hlt⟩,by dsimp only;omega,rfl,rfl,rfl,rfl,by push_cast;omega,?_⟩
   .simp only[zP,List.length_drop,zN];omega
   .dsimp only;rw[bg ([],0) (by rw[List.length_drop];omega),hd]
  .obtain rfl:x=N:=by omega
   exact⟨rfl,rfl⟩
 .unfold cmE;rw[if_neg ht];exact⟨rfl,rfl⟩
end Go.EA
end
section
set_option maxRecDepth 100000
set_option maxHeartbeats 0
namespace Go.EA
open F
def Td:(List (List UInt8×Int))×List UInt8×Int->List SV:=fun(l,s,k)=>[.one (.row (.pair .str (.int .i64)) l),.one (.str s),.one (.int .i64 k)]
def aau:(List (List UInt8×Int))×List UInt8×Int->SV×List Prop:=fun(l,s,k)=>(.tup [.o (.row WdT (cmR l s k).1),.o (.int .i64 (cmR l s k).2)],[l.length<=1048576,s.length<=1099511627776])
def Xe:Con:=⟨false,[some (.pair .str (.int .i64)),none,none],fun xs=>match xs with | [.one (.row (.pair .str (.int .i64)) l),.one (.str s),.one (.int .i64 k)]=>some (aau (l,s,k)) | _=>none⟩
noncomputable def Lt:GP:=bZ Td aau
theorem MX:∀a b,(Td a).map aB=(Td b).map aB->a=b:=by
 rintro⟨a0,a1,a2⟩ ⟨b0,b1,b2⟩ h;simp only[Td,zK,List.map_nil,aB,aS,zG,AV.one.injEq,AV.agg.injEq,Lf.int.injEq,Lf.str.injEq,Lf.bool.injEq,Lf.vrow.injEq,and_true,true_and,and_assoc] at h;obtain⟨h0,h1,h2⟩:=h;have h0:=bT h0;subst h0 h1 h2
 rfl
theorem Si:df Lt Xe:=aR MX (fun⟨_,_,_⟩ ⟨_,_,_⟩=>rfl) (fun⟨_,_,_⟩=>rfl) fun xs r h=>by
 simp only[Xe] at h;split at h
 .cases h;rename_i l s k;exact⟨(l,s,k),rfl,rfl⟩
 .cases h
theorem YX {S:SC}(hB:SB S) (IW:aG S 502 (az DW)) (Jd:aG S 504 (az Ew)) (h496:S.has 496 f496):aG S 496 (az Lt):=by
 refine prI hB [] [⟨502,DW,Sa⟩,⟨504,Ew,Qc⟩] [] trivial ⟨⟨IW,FR⟩,⟨Jd,Gz⟩,trivial⟩ trivial h496 (fun⟨l,s,k⟩=>⟨rfl,rfl,rfl⟩) (fun(l,s,k)=>fun f id T L=>match f,id with
  |496,0=>match ae L 0 with | _=>some (.inv { i:Nat // i<=l.length } (fun x=>([(25,.one (.int .i64 x.1)),(9,.one (.osl 0))],[(0,.row WdT (cmF (l.take x.1) s k))])) (fun x=>l.length-x.1))
  |_,_=>none) 2000 ?_
 rintro⟨l,s,k⟩ hc;have hc1:l.length<=1048576:=hc.1;have hc2:s.length<=1099511627776:=hc.2.1;refine VC.use (p:=s.length<=1099511627776/\(tkE s=0->(k<0->[]=(cmR l s k).1/\2=(cmR l s k).2)/\(¬k<0->(1000<k->[]=(cmR l s k).1/\2=(cmR l s k).2)/\(¬1000<k->(∃x1:{ i:Nat // i<=l.length },s=s/\k=k/\cmF (List.take x1.1 l) s k=[]/\l=l/\(l.length:Int)=(l.length:Int)/\0=(x1.1:Int)/\cmF (List.take x1.1 l) s k=[])/\(∀x1:{ i:Nat // i<=l.length },((x1.1:Int)<(l.length:Int)->(0<=(x1.1:Int)/\(x1.1:Int)<(l.length:Int))/\(preB (l.getD x1.1 ([],0)).1 s=true->((↑(cmF (List.take x1.1 l) s k).length:Int)<k->((cmF (List.take x1.1 l) s k).length+[((l.getD x1.1 ([],0)).1,(l.getD x1.1 ([],0)).2)].length)*24<=140737488355328/\aA ((x1.1:Int)+1)/\(∃x2:{ i:Nat // i<=l.length },l.length-x2.1<l.length-x1.1/\s=s/\k=k/\l=l/\(l.length:Int)=(l.length:Int)/\(x1.1:Int)+1=(x2.1:Int)/\cmF (List.take x1.1 l) s k++[((l.getD x1.1 ([],0)).1,(l.getD x1.1 ([],0)).2)]=cmF (List.take x2.1 l) s k))/\(¬(↑(cmF (List.take x1.1 l) s k).length:Int)<k->aA ((x1.1:Int)+1)/\(∃x2:{ i:Nat // i<=l.length },l.length-x2.1<l.length-x1.1/\s=s/\k=k/\l=l/\(l.length:Int)=(l.length:Int)/\(x1.1:Int)+1=(x2.1:Int)/\cmF (List.take x1.1 l) s k=cmF (List.take x2.1 l) s k)))/\(¬preB (l.getD x1.1 ([],0)).1 s=true->aA ((x1.1:Int)+1)/\(∃x2:{ i:Nat // i<=l.length },l.length-x2.1<l.length-x1.1/\s=s/\k=k/\l=l/\(l.length:Int)=(l.length:Int)/\(x1.1:Int)+1=(x2.1:Int)/\cmF (List.take x1.1 l) s k=cmF (List.take x2.1 l) s k)))/\(¬(x1.1:Int)<(l.length:Int)->cmF (List.take x1.1 l) s k=(cmR l s k).1/\0=(cmR l s k).2)))))/\(¬tkE s=0->[]=(cmR l s k).1/\tkE s=(cmR l s k).2)) (by kernel_rfl) ?_;refine⟨hc2,fun ht=>⟨fun h=>?_,fun h=>⟨fun h2=>?_,fun h2=>⟨⟨⟨0,Nat.zero_le _⟩,rfl,rfl,?_,rfl,rfl,rfl,?_⟩,?_⟩⟩⟩,fun ht=>?_⟩
 .unfold cmR;rw[if_pos ht,if_neg (by omega)];exact⟨rfl,rfl⟩
 .unfold cmR;rw[if_pos ht,if_neg (by omega)];exact⟨rfl,rfl⟩
 .simp[cmF]
 .simp[cmF]
 .rintro⟨i,hi⟩;dsimp only;have hfl:(cmF (l.take i) s k).length<=i:=by
   unfold cmF;rw[zP];exact Nat.le_trans (Nat.min_le_right _ _) (Nat.le_trans (List.length_filter_le ..) (by rw[zP];omega))
  refine⟨fun h3=>⟨⟨by omega,h3⟩,fun h4=>⟨fun h5=>⟨by simp only[zN];omega,by unfold aA;omega,⟨i+1,by omega⟩,by dsimp only;omega,rfl,rfl,rfl,rfl,by push_cast;rfl,Ue (by omega) h4 h5⟩,fun h5=>⟨by unfold aA;omega,⟨i+1,by omega⟩,by dsimp only;omega,rfl,rfl,rfl,rfl,by push_cast;rfl,MJ (by omega) h4 h5⟩⟩,fun h4=>⟨by unfold aA;omega,⟨i+1,by omega⟩,by dsimp only;omega,rfl,rfl,rfl,rfl,by push_cast;rfl,VG (by omega) h4⟩⟩,fun h3=>?_⟩;rw[List.take_of_length_le (by omega)];unfold cmR;rw[if_pos ht,if_pos ⟨by omega,by omega⟩];exact⟨rfl,rfl⟩
 .unfold cmR;rw[if_neg ht];exact⟨rfl,rfl⟩
end Go.EA
end
section
set_option maxRecDepth 100000
set_option maxHeartbeats 0
namespace Go.EA
open F
def enX (d:List StD) (s:List UInt8) (i:Nat):List Int:=enL d (aC (tkL s) (some ((i:Int)-1)) none) 0 0
def fX (x:Nat×List Int×List Int) (y:Nat×Int×Int):List Int:=(x.2.1.set ((x.1:Int)-1).toNat 65).set ((x.1:Int)-1).toNat y.2.1
def gX (x:Nat×List Int×List Int) (y:Nat×Int×Int):List Int:=x.2.2.set ((x.1:Int)-1).toNat y.2.2
def Us:(List ((List (Int×Int))×Bool×Int))×Int×List (Int)×List UInt8->List SV:=fun(d0,d1,d2,s)=>[.one (.vptr (.pair (.row (.pair (.row (.pair (.int .i32) (.int .i64))) (.pair .bool (.int .i64)))) (.pair (.int .i64) (.row (.int .i64)))) (d0,d1,d2) 0),.one (.str s)]
def Zk:(List ((List (Int×Int))×Bool×Int))×Int×List (Int)×List UInt8->SV×List Prop:=fun(d0,d1,d2,s)=>(.tup [.o (.row .str (spE d0 s).1),.o (.int .i64 (spE d0 s).2)],[NwD d0 d2,s.length<=1099511627776])
def TS:Con:=⟨false,[some (.pair (.row (.pair (.row (.pair (.int .i32) (.int .i64))) (.pair .bool (.int .i64)))) (.pair (.int .i64) (.row (.int .i64)))),none],fun xs=>match xs with | [.one (.vptr (.pair (.row (.pair (.row (.pair (.int .i32) (.int .i64))) (.pair .bool (.int .i64)))) (.pair (.int .i64) (.row (.int .i64)))) (d0,d1,d2) 0),.one (.str s)]=>some (Zk (d0,d1,d2,s)) | _=>none⟩
noncomputable def Eb:GP:=bZ Us Zk
theorem Ou:∀a b,(Us a).map aB=(Us b).map aB->a=b:=by
 rintro⟨a0,a1,a2,a3⟩ ⟨b0,b1,b2,b3⟩ h;simp only[Us,zK,List.map_nil,aB,aS,List.drop_zero,zG,AV.one.injEq,AV.agg.injEq,Lf.int.injEq,Lf.str.injEq,Lf.bool.injEq,Lf.vrow.injEq,Lf.vptr.injEq,and_true,true_and,and_assoc] at h;obtain⟨h0,h1⟩:=h;have h0:=Ty.enc_inj _ h0;simp only[zF] at h0;obtain⟨rfl,rfl,rfl⟩:=h0;subst h1
 rfl
theorem FX:df Eb TS:=aR Ou (fun⟨_,_,_,_⟩ ⟨_,_,_,_⟩=>rfl) (fun⟨_,_,_,_⟩=>rfl) fun xs r h=>by
 simp only[TS] at h;split at h
 .cases h;rename_i d0 d1 d2 s;exact⟨(d0,d1,d2,s),rfl,rfl⟩
 .cases h
theorem YI {S:SC}(hB:SB S) (yV:aG S 500 (az Af)) (IU:aG S 505 (az EC)) (JG:aG S 506 (az Ee)) (h508:S.has 508 f508) (h514:S.has 514 f514) (h497:S.has 497 f497):aG S 497 (az Eb):=by
 refine prI hB [(508,f508),(514,f514)] [⟨500,Af,MH⟩,⟨505,EC,Uw⟩,⟨506,Ee,Qy⟩] [] ⟨h508,h514,trivial⟩ ⟨⟨yV,xQ⟩,⟨IU,GX⟩,⟨JG,GD⟩,trivial⟩ trivial h497 (fun⟨d0,d1,d2,s⟩=>⟨rfl,rfl,rfl⟩) (fun(d0,d1,d2,s)=>fun f id T L=>match f,id with
  |497,0=>match T.getD 10 .junk with | .one (.ptr c _ _)=>some (.inv { x:Nat×List Int×List Int // SpI d0 (tkL s) x } (fun x=>([(10,.one (.ptr c 0 0))],[(c,.cell [.int .i64 ((x.1.1:Int)-1)]),(0,.row (.int .i64) x.1.2.1),(2,.row (.int .i64) x.1.2.2)])) (fun x=>x.1.1)) | _=>none
  |514,0=>match ae L 0,ae L 2,ae L 4,ae L 5 with | .row (.int .i64) F,.row (.int .i64) G,.cell [.int .i64 a],.cell [.row (.int .i64) E]=>some (.inv { x:Nat×Int×Int // SpJ d0 (tkL s) a E x } (fun x=>([(3,.one (.int .i64 ((x.1.1:Int)-1)))],[(0,.row (.int .i64) (F.set a.toNat x.1.2.1)),(2,.row (.int .i64) (G.set a.toNat x.1.2.2))])) (fun x=>x.1.1)) | _,_,_,_=>none
  |497,4=>match ae L 0,ae L 2 with | .row (.int .i64) F,.row (.int .i64) G=>some (.inv { x:Nat×Nat×List (List UInt8) // SpO d0 (tkL s) x } (fun x=>([(15,.one (.int .i64 x.1.2.1)),(14,.one (.osl L.length))],[(L.length,.row .str x.1.2.2)])) (fun x=>(tkL s).length-x.1.2.1)) | _,_=>none
  |_,_=>none) 4000 ?_
 rintro⟨d0,d1,d2,s⟩ hc;have hc1:NwD d0 d2:=hc.1;have hc2:s.length<=1099511627776:=hc.2.1;refine VC.use (p:=s.length<=1099511627776/\(tkE s=0->aA ((↑(tkL s).length:Int)+1)/\(0<=(↑(tkL s).length:Int)+1/\(↑(tkL s).length:Int)+1<=(↑(tkL s).length:Int)+1/\((↑(tkL s).length:Int)+1)*8<=140737488355328/\(↑(tkL s).length:Int)+1<=140737488355328)/\aA ((↑(tkL s).length:Int)+1)/\(0<=(↑(tkL s).length:Int)+1/\(↑(tkL s).length:Int)+1<=(↑(tkL s).length:Int)+1/\((↑(tkL s).length:Int)+1)*8<=140737488355328/\(↑(tkL s).length:Int)+1<=140737488355328)/\aA ((↑(tkL s).length:Int)-1)/\(∃x1:{ x:Nat×List Int×List Int // SpI d0 (tkL s) x },(d0,d1,d2)=(d0,d1,d2)/\tkL s=tkL s/\List.replicate ((↑(tkL s).length:Int)+1).toNat 0=x1.1.2.1/\List.replicate ((↑(tkL s).length:Int)+1).toNat 0=x1.1.2.2/\(↑(tkL s).length:Int)-1=(x1.1.1:Int)-1)/\(∀x1:{ x:Nat×List Int×List Int // SpI d0 (tkL s) x },(0<=(x1.1.1:Int)-1->(0<=(x1.1.1:Int)-1/\(x1.1.1:Int)-1<(x1.1.2.1.length:Int))/\((x1.1.1:Int)-1).toNat<x1.1.2.1.length/\(0<=(x1.1.1:Int)-1/\(x1.1.1:Int)-1<=(↑(tkL s).length:Int))/\ql d0/\(aC (tkL s) (some ((x1.1.1:Int)-1)) none).length<=1099511627776/\(∀(r:Int),r∈aC (tkL s) (some ((x1.1.1:Int)-1)) none->Utf8.valid r=true)/\aA ((↑(enX d0 s x1.1.1).length:Int)-1)/\(∃x2:{ x:Nat×Int×Int // SpJ d0 (tkL s) ((x1.1.1:Int)-1) (enX d0 s x1.1.1) x },(↑(enX d0 s x1.1.1).length:Int)-1=(x2.1.1:Int)-1/\x1.1.2.1.set ((x1.1.1:Int)-1).toNat 65=fX x1.1 x2.1/\x1.1.2.2=gX x1.1 x2.1/\(x1.1.1:Int)-1=(x1.1.1:Int)-1/\enX d0 s x1.1.1=enX d0 s x1.1.1)/\(∀x2:{ x:Nat×Int×Int // SpJ d0 (tkL s) ((x1.1.1:Int)-1) (enX d0 s x1.1.1) x },(0<=(x2.1.1:Int)-1->(0<=(x2.1.1:Int)-1/\(x2.1.1:Int)-1<(↑(enX d0 s x1.1.1).length:Int))/\aA ((x1.1.1:Int)-1+(enX d0 s x1.1.1).getD ((x2.1.1:Int)-1).toNat 0)/\(0<=(x1.1.1:Int)-1+(enX d0 s x1.1.1).getD ((x2.1.1:Int)-1).toNat 0/\(x1.1.1:Int)-1+(enX d0 s x1.1.1).getD ((x2.1.1:Int)-1).toNat 0<(↑(fX x1.1 x2.1).length:Int))/\((x1.1.1:Int)-1+(enX d0 s x1.1.1).getD ((x2.1.1:Int)-1).toNat 0).toNat<(fX x1.1 x2.1).length/\aA ((fX x1.1 x2.1).getD ((x1.1.1:Int)-1+(enX d0 s x1.1.1).getD ((x2.1.1:Int)-1).toNat 0).toNat 0+1)/\(0<=(x1.1.1:Int)-1/\(x1.1.1:Int)-1<(↑(fX x1.1 x2.1).length:Int))/\((x1.1.1:Int)-1).toNat<(fX x1.1 x2.1).length/\((fX x1.1 x2.1).getD ((x1.1.1:Int)-1+(enX d0 s x1.1.1).getD ((x2.1.1:Int)-1).toNat 0).toNat 0+1<(fX x1.1 x2.1).getD ((x1.1.1:Int)-1).toNat 0->((0<=(x1.1.1:Int)-1/\(x1.1.1:Int)-1<(↑(fX x1.1 x2.1).length:Int))/\((x1.1.1:Int)-1).toNat<(fX x1.1 x2.1).length/\(0<=(x1.1.1:Int)-1/\(x1.1.1:Int)-1<(↑(gX x1.1 x2.1).length:Int))/\((x1.1.1:Int)-1).toNat<(gX x1.1 x2.1).length/\aA ((x2.1.1:Int)-1-1)/\(∃x3:{ x:Nat×Int×Int // SpJ d0 (tkL s) ((x1.1.1:Int)-1) (enX d0 s x1.1.1) x },x3.1.1<x2.1.1/\(x2.1.1:Int)-1-1=(x3.1.1:Int)-1/\(fX x1.1 x2.1).set ((x1.1.1:Int)-1).toNat ((fX x1.1 x2.1).getD ((x1.1.1:Int)-1+(enX d0 s x1.1.1).getD ((x2.1.1:Int)-1).toNat 0).toNat 0+1)=fX x1.1 x3.1/\(gX x1.1 x2.1).set ((x1.1.1:Int)-1).toNat ((enX d0 s x1.1.1).getD ((x2.1.1:Int)-1).toNat 0)=gX x1.1 x3.1/\(x1.1.1:Int)-1=(x1.1.1:Int)-1/\enX d0 s x1.1.1=enX d0 s x1.1.1))/\((0<=(x1.1.1:Int)-1/\(x1.1.1:Int)-1<(↑(fX x1.1 x2.1).length:Int))/\((x1.1.1:Int)-1).toNat<(fX x1.1 x2.1).length/\(0<=(x1.1.1:Int)-1/\(x1.1.1:Int)-1<(↑(gX x1.1 x2.1).length:Int))/\((x1.1.1:Int)-1).toNat<(gX x1.1 x2.1).length/\aA ((x2.1.1:Int)-1-1)/\(∃x3:{ x:Nat×Int×Int // SpJ d0 (tkL s) ((x1.1.1:Int)-1) (enX d0 s x1.1.1) x },x3.1.1<x2.1.1/\(x2.1.1:Int)-1-1=(x3.1.1:Int)-1/\(fX x1.1 x2.1).set ((x1.1.1:Int)-1).toNat ((fX x1.1 x2.1).getD ((x1.1.1:Int)-1+(enX d0 s x1.1.1).getD ((x2.1.1:Int)-1).toNat 0).toNat 0+1)=fX x1.1 x3.1/\(gX x1.1 x2.1).set ((x1.1.1:Int)-1).toNat ((enX d0 s x1.1.1).getD ((x2.1.1:Int)-1).toNat 0)=gX x1.1 x3.1/\(x1.1.1:Int)-1=(x1.1.1:Int)-1/\enX d0 s x1.1.1=enX d0 s x1.1.1))/\((0<=(x1.1.1:Int)-1/\(x1.1.1:Int)-1<(↑(fX x1.1 x2.1).length:Int))/\((x1.1.1:Int)-1).toNat<(fX x1.1 x2.1).length/\(0<=(x1.1.1:Int)-1/\(x1.1.1:Int)-1<(↑(gX x1.1 x2.1).length:Int))/\((x1.1.1:Int)-1).toNat<(gX x1.1 x2.1).length/\aA ((x2.1.1:Int)-1-1)/\(∃x3:{ x:Nat×Int×Int // SpJ d0 (tkL s) ((x1.1.1:Int)-1) (enX d0 s x1.1.1) x },x3.1.1<x2.1.1/\(x2.1.1:Int)-1-1=(x3.1.1:Int)-1/\(fX x1.1 x2.1).set ((x1.1.1:Int)-1).toNat ((fX x1.1 x2.1).getD ((x1.1.1:Int)-1+(enX d0 s x1.1.1).getD ((x2.1.1:Int)-1).toNat 0).toNat 0+1)=fX x1.1 x3.1/\(gX x1.1 x2.1).set ((x1.1.1:Int)-1).toNat ((enX d0 s x1.1.1).getD ((x2.1.1:Int)-1).toNat 0)=gX x1.1 x3.1/\(x1.1.1:Int)-1=(x1.1.1:Int)-1/\enX d0 s x1.1.1=enX d0 s x1.1.1))/\(0<=(x1.1.1:Int)-1/\(x1.1.1:Int)-1<(↑(fX x1.1 x2.1).length:Int))/\((x1.1.1:Int)-1).toNat<(fX x1.1 x2.1).length/\(0<=(x1.1.1:Int)-1/\(x1.1.1:Int)-1<(↑(gX x1.1 x2.1).length:Int))/\((x1.1.1:Int)-1).toNat<(gX x1.1 x2.1).length/\aA ((x2.1.1:Int)-1-1)/\(∃x3:{ x:Nat×Int×Int // SpJ d0 (tkL s) ((x1.1.1:Int)-1) (enX d0 s x1.1.1) x },x3.1.1<x2.1.1/\(x2.1.1:Int)-1-1=(x3.1.1:Int)-1/\(fX x1.1 x2.1).set ((x1.1.1:Int)-1).toNat ((fX x1.1 x2.1).getD ((x1.1.1:Int)-1+(enX d0 s x1.1.1).getD ((x2.1.1:Int)-1).toNat 0).toNat 0+1)=fX x1.1 x3.1/\(gX x1.1 x2.1).set ((x1.1.1:Int)-1).toNat ((enX d0 s x1.1.1).getD ((x2.1.1:Int)-1).toNat 0)=gX x1.1 x3.1/\(x1.1.1:Int)-1=(x1.1.1:Int)-1/\enX d0 s x1.1.1=enX d0 s x1.1.1))/\(¬(fX x1.1 x2.1).getD ((x1.1.1:Int)-1+(enX d0 s x1.1.1).getD ((x2.1.1:Int)-1).toNat 0).toNat 0+1<(fX x1.1 x2.1).getD ((x1.1.1:Int)-1).toNat 0->aA ((x2.1.1:Int)-1-1)/\(∃x3:{ x:Nat×Int×Int // SpJ d0 (tkL s) ((x1.1.1:Int)-1) (enX d0 s x1.1.1) x },x3.1.1<x2.1.1/\(x2.1.1:Int)-1-1=(x3.1.1:Int)-1/\fX x1.1 x2.1=fX x1.1 x3.1/\gX x1.1 x2.1=gX x1.1 x3.1/\(x1.1.1:Int)-1=(x1.1.1:Int)-1/\enX d0 s x1.1.1=enX d0 s x1.1.1)))/\(¬0<=(x2.1.1:Int)-1->aA ((x1.1.1:Int)-1-1)/\(∃x3:{ x:Nat×List Int×List Int // SpI d0 (tkL s) x },x3.1.1<x1.1.1/\(d0,d1,d2)=(d0,d1,d2)/\tkL s=tkL s/\fX x1.1 x2.1=x3.1.2.1/\gX x1.1 x2.1=x3.1.2.2/\(x1.1.1:Int)-1-1=(x3.1.1:Int)-1))))/\(¬0<=(x1.1.1:Int)-1->((0:Int)<=(0:Int)/\(0:Int)<(x1.1.2.1.length:Int))/\0<x1.1.2.1.length/\(64<x1.1.2.1.getD 0 0->[]=(spE d0 s).1/\10=(spE d0 s).2)/\(¬64<x1.1.2.1.getD 0 0->(∃x2:{ x:Nat×Nat×List (List UInt8) // SpO d0 (tkL s) x },tkL s=tkL s/\x2.1.2.2=[]/\0=(x2.1.2.1:Int)/\x1.1.2.1=x1.1.2.1/\x1.1.2.2=x1.1.2.2/\(x1.1.1:Int)-1=(x1.1.1:Int)-1/\x2.1.2.2=[])/\(∀x2:{ x:Nat×Nat×List (List UInt8) // SpO d0 (tkL s) x },((x2.1.2.1:Int)<(↑(tkL s).length:Int)->(0<=(x2.1.2.1:Int)/\(x2.1.2.1:Int)<(x1.1.2.2.length:Int))/\x2.1.2.1<x1.1.2.2.length/\aA ((x2.1.2.1:Int)+x1.1.2.2.getD x2.1.2.1 0)/\(0<=(x2.1.2.1:Int)/\(x2.1.2.1:Int)<=(x2.1.2.1:Int)+x1.1.2.2.getD x2.1.2.1 0/\(x2.1.2.1:Int)+x1.1.2.2.getD x2.1.2.1 0<=(↑(tkL s).length:Int))/\(aC (tkL s) (some (x2.1.2.1:Int)) (some ((x2.1.2.1:Int)+x1.1.2.2.getD x2.1.2.1 0))).length<=1099511627776/\(x2.1.2.2.length+[iQ (aC (tkL s) (some (x2.1.2.1:Int)) (some ((x2.1.2.1:Int)+x1.1.2.2.getD x2.1.2.1 0)))].length)*16<=140737488355328/\(0<=(x2.1.2.1:Int)/\(x2.1.2.1:Int)<(x1.1.2.2.length:Int))/\x2.1.2.1<x1.1.2.2.length/\aA ((x2.1.2.1:Int)+x1.1.2.2.getD x2.1.2.1 0)/\(∃x3:{ x:Nat×Nat×List (List UInt8) // SpO d0 (tkL s) x },(tkL s).length-x3.1.2.1<(tkL s).length-x2.1.2.1/\tkL s=tkL s/\(x2.1.2.1:Int)+x1.1.2.2.getD x2.1.2.1 0=(x3.1.2.1:Int)/\x1.1.2.1=x1.1.2.1/\x1.1.2.2=x1.1.2.2/\(x1.1.1:Int)-1=(x1.1.1:Int)-1/\x2.1.2.2++[iQ (aC (tkL s) (some (x2.1.2.1:Int)) (some ((x2.1.2.1:Int)+x1.1.2.2.getD x2.1.2.1 0)))]=x3.1.2.2))/\(¬(x2.1.2.1:Int)<(↑(tkL s).length:Int)->x2.1.2.2=(spE d0 s).1/\0=(spE d0 s).2))))))/\(¬tkE s=0->[]=(spE d0 s).1/\tkE s=(spE d0 s).2)) (by kernel_rfl) ?_;have hw:=hc1.p;refine⟨hc2,fun ht=>?_,fun ht=>?_⟩
 .obtain⟨t1,t2,t3⟩:=En ht;have hval:∀r∈tkL s,Utf8.valid r=true:=by rw[t3];exact lc t1
  have hlen:(tkL s).length<=64:=by rw[t3];exact t2
  have hSE:spE d0 s=if 64<((spT d0 (tkL s)).getD 0 (0,0)).1 then ([],10) else (spW (spT d0 (tkL s)) (tkL s) ((tkL s).length+1) 0,0):=by unfold spE;rw[if_pos ht]
  have hEX:∀i:Nat,enX d0 s (i+1)=enL d0 ((tkL s).drop i) 0 0:=fun i=>by
   unfold enX;have e:aC (tkL s) (some (((i+1:Nat):Int)-1)) none=(tkL s).drop (((i+1:Nat):Int)-1).toNat:=rfl;rw[e,show (((i+1:Nat):Int)-1).toNat=i by omega]
  have eL:((tkL s).length+1:Int).toNat=(tkL s).length+1:=by omega
  rw[eL];refine⟨by unfold aA;omega,⟨by omega,by omega,by omega,by omega⟩,by unfold aA;omega,⟨by omega,by omega,by omega,by omega⟩,by unfold aA;omega,⟨⟨((tkL s).length,List.replicate ((tkL s).length+1) 0,List.replicate ((tkL s).length+1) 0),SpI.start d0 (tkL s)⟩,rfl,rfl,rfl,rfl,rfl⟩,?_⟩;rintro⟨⟨i,F,G⟩,hI⟩;have hle:=hI.le;have hlf:=hI.lf;have hlg:=hI.lg;dsimp only at hle hlf hlg ⊢;refine⟨fun h=>?_,fun h=>?_⟩
  .obtain⟨a,rfl⟩:∃a,i=a+1:=⟨i-1,by omega⟩;have ea:((a+1:Nat):Int)-1=(a:Int):=by omega
   have hcut:aC (tkL s) (some ((a:Int))) none=(tkL s).drop a:=rfl;have hfX:∀y:Nat×Int×Int,fX (a+1,F,G) y=F.set a y.2.1:=fun y=>by
    unfold fX;dsimp only;rw[ea,Int.toNat_natCast,List.set_set]
   have hgX:∀y:Nat×Int×Int,gX (a+1,F,G) y=G.set a y.2.2:=fun y=>by
    unfold gX;dsimp only;rw[ea,Int.toNat_natCast]
   have hen:=hw.en ((tkL s).drop a);have hel:=yS d0 ((tkL s).drop a) 0 0;rw[List.length_drop] at hen hel;simp only[hEX,ea,hcut,Int.toNat_natCast,hfX,hgX];generalize hE:enL d0 ((tkL s).drop a) 0 0=E at hen hel ⊢;have hJE:∀y,SpJ d0 (tkL s) (((a+1:Nat):Int)-1) (enX d0 s (a+1)) y↔SpJ d0 (tkL s) (a:Int) E y:=fun y=>by rw[ea,hEX,hE]
   refine⟨⟨by omega,by omega⟩,by omega,⟨by omega,by omega⟩,hw.ok,by rw[List.length_drop];omega,fun r hr=>hval r (List.mem_of_mem_drop hr),by unfold aA;omega,⟨⟨(E.length,65,0),(hJE _).2 ⟨zJ _,by dsimp only;omega,by dsimp only;omega,by dsimp only;rw[List.take_length]⟩⟩,rfl,rfl,?_,trivial,trivial⟩,?_⟩
   .have:=hI.zr a (Nat.lt_succ_self a);dsimp only at this
    conv=>lhs;rw[<- vL (l:=G) (a:=a),this]
   .rintro⟨⟨m,p,q⟩,hJ⟩;have hJ:=(hJE _).1 hJ;dsimp only;have hJ1:=hJ.1;have hJ2:=hJ.2.1;have hJ3:=hJ.2.2.1;dsimp only at hJ1 hJ2 hJ3;have hsl:(F.set a p).length=(tkL s).length+1:=by rw[List.length_set];exact hlf
    have hsg:(G.set a q).length=(tkL s).length+1:=by rw[List.length_set];exact hlg
    refine⟨fun hm=>?_,fun hm=>?_⟩
    .obtain⟨b,rfl⟩:∃b,m=b+1:=⟨m-1,by omega⟩;have eb:((b+1:Nat):Int)-1=(b:Int):=by omega
     rw[eb,Int.toNat_natCast];have hn:=hen (E.getD b 0) (fq (by omega));have hst:=SpJ.step hJ;have e1:((a:Int)+E.getD b 0).toNat=a+(E.getD b 0).toNat:=by omega
     have hv:=SpJ.val (p:=p) hI hn.1 (by omega);have hvb:=xX d0 ((tkL s).drop (a+1)) ((E.getD b 0).toNat-1);rw[e1,hv,hsl,hsg,jB (by omega),List.set_set,List.set_set];generalize ((spT d0 ((tkL s).drop (a+1))).getD ((E.getD b 0).toNat-1) (0,0)).1=v at hst hvb ⊢;refine⟨⟨by omega,by omega⟩,by unfold aA;omega,⟨by omega,by omega⟩,by omega,by unfold aA;omega,⟨by omega,by omega⟩,by omega,fun hlt=>?_,fun hlt=>?_⟩
     .rw[if_pos hlt] at hst;have fin:(0<=(a:Int)/\(a:Int)<(((tkL s).length+1:Nat):Int))/\a<(tkL s).length+1/\(0<=(a:Int)/\(a:Int)<(((tkL s).length+1:Nat):Int))/\a<(tkL s).length+1/\aA ((b:Int)-1)/\∃x3:{ x:Nat×Int×Int // SpJ d0 (tkL s) (((a+1:Nat):Int)-1) (enX d0 s (a+1)) x },x3.1.1<b+1/\(b:Int)-1=(x3.1.1:Int)-1/\F.set a (v+1)=F.set a x3.1.2.1/\G.set a (E.getD b 0)=G.set a x3.1.2.2/\True/\True:=
       ⟨⟨by omega,by omega⟩,by omega,⟨by omega,by omega⟩,by omega,by unfold aA;omega,⟨(b,v+1,E.getD b 0),(hJE _).2 hst⟩,Nat.lt_succ_self b,rfl,rfl,rfl,trivial,trivial⟩
      exact⟨fin,fin,fin,fin⟩
     .rw[if_neg hlt] at hst;exact⟨by unfold aA;omega,⟨(b,p,q),(hJE _).2 hst⟩,Nat.lt_succ_self b,rfl,rfl,rfl,trivial,trivial⟩
    .obtain rfl:m=0:=by omega
     subst hE;exact⟨by unfold aA;omega,⟨(a,F.set a p,G.set a q),SpJ.out hI hJ⟩,Nat.lt_succ_self a,trivial,trivial,rfl,rfl,rfl⟩
  .obtain rfl:i=0:=by omega
   have h0:=(hI.at' 0 (zJ _) (Nat.zero_le _)).1;dsimp only at h0;refine⟨⟨by omega,by omega⟩,by omega,fun h2=>?_,fun h2=>⟨⟨⟨((tkL s).length+1,0,[]),Nat.zero_le _,by dsimp only;omega,Nat.zero_le _,by dsimp only;omega,rfl⟩,rfl,rfl,rfl,rfl,rfl,rfl,rfl⟩,?_⟩⟩
   .rw[hSE,if_pos (by omega)];exact⟨rfl,rfl⟩
   .rw[if_neg (by omega)] at hSE;rintro⟨⟨k,a,o⟩,hO⟩;have ho1:=hO.1;have ho2:=hO.2.1;have ho3:=hO.2.2.1;dsimp only at ho1 ho2 ho3 ⊢;refine⟨fun h3=>?_,fun h3=>?_⟩
    .obtain⟨k,rfl⟩:∃k',k=k'+1:=⟨k-1,by omega⟩;obtain⟨f1,f2,f3⟩:=SpO.next hw hI hO (by omega);have hcut:aC (tkL s) (some (a:Int)) (some ((a:Int)+G.getD a 0))=((tkL s).drop a).take (G.getD a 0).toNat:=by
      have e:aC (tkL s) (some (a:Int)) (some ((a:Int)+G.getD a 0))=((tkL s).drop (a:Int).toNat).take (((a:Int)+G.getD a 0).toNat-(a:Int).toNat):=rfl;rw[e,show ((a:Int)+G.getD a 0).toNat=a+(G.getD a 0).toNat by omega];rw[Int.toNat_natCast,Nat.add_sub_cancel_left]
     rw[hcut];refine⟨⟨by omega,by omega⟩,by omega,by unfold aA;omega,⟨by omega,by omega,by omega⟩,by rw[zP,List.length_drop];omega,by simp only[zN];omega,⟨by omega,by omega⟩,by omega,by unfold aA;omega,⟨(k,a+(G.getD a 0).toNat,o++[iQ (((tkL s).drop a).take (G.getD a 0).toNat)]),f3⟩,by dsimp only;omega,rfl,by dsimp only;omega,rfl,rfl,rfl,rfl⟩
    .rw[hSE,SpO.end hO (by omega)];exact⟨rfl,rfl⟩
 .unfold spE;rw[if_neg ht];exact⟨rfl,rfl⟩
end Go.EA
end
section
set_option maxRecDepth 100000
set_option maxHeartbeats 0
namespace Go.EA
open F
def mdB (l:List Wd) (s:List UInt8):Prop:=((l.length:Int)<=60/\(s.length:Int)+nZ l<=800)/\kQ l=0
instance (l:List Wd) (s:List UInt8):Decidable (mdB l s):=by unfold mdB;infer_instance
def wxW:List Wd:=[([97],1),([97,98],1),([98],1)]
def Wo:Unit->List SV:=fun _=>[]
def YY:Unit->SV×List Prop:=fun _=>(.one (.bool true),[])
def XI:Con:=⟨true,[],fun xs=>match xs with | []=>some (YY ()) | _=>none⟩
noncomputable def Oy:GP:=bZ Wo YY
theorem Kk:∀a b,(Wo a).map aB=(Wo b).map aB->a=b:=by
 intro a b _;rfl
theorem QU:df Oy XI:=aR Kk (fun _ _=>rfl) (fun _=>rfl) fun xs r h=>by
 simp only[XI] at h;split at h
 .cases h;exact⟨(),rfl,rfl⟩
 .cases h
theorem Zq {S:SC}(hB:SB S) (Ic:aG S 278 (az Dz)) (YD:aG S 493 (az Kq)) (Jm:aG S 497 (az Eb)) (h491:S.has 491 f491) (h500:S.has 500 f500) (h487:S.has 487 f487):aG S 487 (az Oy):=by
 refine prM hB [(491,f491),(500,f500)] [⟨278,Dz,QB⟩,⟨493,Kq,Vq⟩,⟨497,Eb,TS⟩] ⟨h491,h500,trivial⟩ ⟨⟨Ic,Gw⟩,⟨YD,Ul⟩,⟨Jm,FX⟩,trivial⟩ h487 (fun _=>⟨rfl,rfl,rfl⟩) (fun _=>fun _ _ _ _=>none) 2000 ?_;rintro _ hc;refine VC.use (p:=(3:Nat)<=(1099511627776:Nat)/\SmW [([97],1),([97,98],1),([98],1)]/\((0:Int)=(0:Int)->ql (List.map stD (bM [([97],1),([97,98],1),([98],1)]))/\(3:Nat)<=(1099511627776:Nat)/\NwD (List.map stD (bM [([97],1),([97,98],1),([98],1)])) (List.map (fun x=>x.2) [([97],1),([97,98],1),([98],1)])/\(3:Nat)<=(1099511627776:Nat)/\((0:Int)=(0:Int)->((loE (List.map stD (bM [([(97:UInt8)],(1:Int)),([(97:UInt8),(98:UInt8)],(1:Int)),([(98:UInt8)],(1:Int))])) [(97:UInt8),(98:UInt8),(98:UInt8)]).1=[(97:UInt8),(98:UInt8)]->((0:Int)=(0:Int)->((2:Int)=(2:Int)->((0:Int)<=(1:Int)/\(1:Int)<(2:Int))/\((spE (List.map stD (bM [([(97:UInt8)],(1:Int)),([(97:UInt8),(98:UInt8)],(1:Int)),([(98:UInt8)],(1:Int))])) [(97:UInt8),(98:UInt8),(98:UInt8)]).1.getD (1:Nat) []=[(98:UInt8)]->((0:Int)=(0:Int)->true=true)/\(¬(0:Int)=(0:Int)->false=true))/\(¬(spE (List.map stD (bM [([(97:UInt8)],(1:Int)),([(97:UInt8),(98:UInt8)],(1:Int)),([(98:UInt8)],(1:Int))])) [(97:UInt8),(98:UInt8),(98:UInt8)]).1.getD (1:Nat) []=[(98:UInt8)]->false=true))/\(¬(2:Int)=(2:Int)->false=true))/\(¬(0:Int)=(0:Int)->false=true))/\(¬(loE (List.map stD (bM [([(97:UInt8)],(1:Int)),([(97:UInt8),(98:UInt8)],(1:Int)),([(98:UInt8)],(1:Int))])) [(97:UInt8),(98:UInt8),(98:UInt8)]).1=[(97:UInt8),(98:UInt8)]->false=true))/\(¬(0:Int)=(0:Int)->false=true))/\(¬(0:Int)=(0:Int)->False)) (by kernel_rfl) ?_;have hN:NwD (List.map stD (bM wxW)) (List.map (fun x=>x.2) wxW):=⟨wxW,by decide +kernel,rfl,rfl⟩;refine⟨by decide,by unfold SmW;decide,fun _=>⟨hN.p.ok,by decide,hN,by decide,fun _=>⟨fun _=>⟨fun _=>⟨fun _=>⟨⟨by decide,by decide⟩,fun _=>⟨fun _=>rfl,fun h=>absurd rfl h⟩,fun h=>absurd (by decide +kernel) h⟩,fun h=>absurd rfl h⟩,fun h=>absurd rfl h⟩,fun h=>absurd (by decide +kernel) h⟩,fun h=>absurd rfl h⟩,fun h=>absurd rfl h⟩
def Qv:(List (List UInt8×Int))×List UInt8->List SV:=fun(l,s)=>[.one (.row (.pair .str (.int .i64)) l),.one (.str s)]
def Zo:(List (List UInt8×Int))×List UInt8->SV×List Prop:=fun(l,s)=>(.ite (mdB l s) inferInstance (.tup [.o (.vptr DwT (tY (bv l)) 0),.o (.row WdT (bv l)),.o (.bool true)]) (.tup [.o .nilp,.o (.row WdT []),.o (.bool false)]),[l.length<=1048576,SmX l,s.length<=1099511627776])
def Xz:Con:=⟨false,[some (.pair .str (.int .i64)),none],fun xs=>match xs with | [.one (.row (.pair .str (.int .i64)) l),.one (.str s)]=>some (Zo (l,s)) | _=>none⟩
noncomputable def Lv:GP:=bZ Qv Zo
theorem Ng:∀a b,(Qv a).map aB=(Qv b).map aB->a=b:=by
 rintro⟨a0,a1⟩ ⟨b0,b1⟩ h;simp only[Qv,zK,List.map_nil,aB,aS,zG,AV.one.injEq,AV.agg.injEq,Lf.int.injEq,Lf.str.injEq,Lf.bool.injEq,Lf.vrow.injEq,and_true,true_and,and_assoc] at h;obtain⟨h0,h1⟩:=h;have h0:=bT h0;subst h0 h1
 rfl
theorem QN:df Lv Xz:=aR Ng (fun⟨_,_⟩ ⟨_,_⟩=>rfl) (fun⟨_,_⟩=>rfl) fun xs r h=>by
 simp only[Xz] at h;split at h
 .cases h;rename_i l s;exact⟨(l,s),rfl,rfl⟩
 .cases h
theorem aaM {S:SC}(hB:SB S) (Ic:aG S 278 (az Dz)) (Yl:aG S 291 (az LY)) (h488:S.has 488 f488):aG S 488 (az Lv):=by
 refine prI hB [] [⟨278,Dz,QB⟩,⟨291,LY,Ws⟩] [] trivial ⟨⟨Ic,Gw⟩,⟨Yl,RS⟩,trivial⟩ trivial h488 (fun⟨l,s⟩=>⟨rfl,rfl,rfl⟩) (fun(l,s)=>fun f id T L=>match f,id with
  |488,0=>some (.inv { i:Nat // i<=l.length } (fun x=>([(17,.one (.int .i64 x.1)),(7,.one (.int .i64 ((s.length:Int)+nZ (l.take x.1))))],[])) (fun x=>l.length-x.1))
  |_,_=>none) 2000 ?_
 rintro⟨l,s⟩ hc;have hc1:l.length<=1048576:=hc.1;have hc2:SmX l:=hc.2.1;have hc3:s.length<=1099511627776:=hc.2.2.1;refine VC.use (p:=(∃x1:{ i:Nat // i<=l.length },l=l/\(s.length:Int)=(s.length:Int)+nZ (List.take x1.1 l)/\l=l/\(l.length:Int)=(l.length:Int)/\0=(x1.1:Int))/\(∀x1:{ i:Nat // i<=l.length },((x1.1:Int)<(l.length:Int)->(0<=(x1.1:Int)/\(x1.1:Int)<(l.length:Int))/\aA ((s.length:Int)+nZ (List.take x1.1 l)+(↑(List.length (l.getD x1.1 ([],0)).1):Int))/\aA ((x1.1:Int)+1)/\(∃x2:{ i:Nat // i<=l.length },l.length-x2.1<l.length-x1.1/\l=l/\(s.length:Int)+nZ (List.take x1.1 l)+(↑(List.length (l.getD x1.1 ([],0)).1):Int)=(s.length:Int)+nZ (List.take x2.1 l)/\l=l/\(l.length:Int)=(l.length:Int)/\(x1.1:Int)+1=(x2.1:Int)))/\(¬(x1.1:Int)<(l.length:Int)->(60<(l.length:Int)->(mdB l s->False)/\(¬mdB l s->([]:List Wd)=[]/\false=false))/\(¬60<(l.length:Int)->(800<(s.length:Int)+nZ (List.take x1.1 l)->(mdB l s->False)/\(¬mdB l s->([]:List Wd)=[]/\false=false))/\(¬800<(s.length:Int)+nZ (List.take x1.1 l)->l.length<=1099511627776/\SmW l/\(kQ l=0->(bv l).length<=1099511627776/\SmW (bv l)/\(isE (bv l)=0->(mdB l s->tY (bv l)=tY (bv l)/\bv l=bv l/\decide ((0:Int)=(0:Int))=true)/\(¬mdB l s->False))/\(¬isE (bv l)=0->(mdB l s->False)/\(¬mdB l s->bv l=[]/\decide (isE (bv l)=0)=false)))/\(¬kQ l=0->(mdB l s->False)/\(¬mdB l s->([]:List Wd)=[]/\false=false))))))) (by kernel_rfl) ?_;refine⟨⟨⟨0,Nat.zero_le _⟩,rfl,by simp[nZ],rfl,rfl,rfl⟩,?_⟩;rintro⟨i,hi⟩;dsimp only;obtain⟨b1,b2⟩:=FL hc2 i hi;have b3:=hc2.at i;refine⟨fun h=>⟨⟨by omega,h⟩,by unfold aA;omega,by unfold aA;omega,⟨i+1,by omega⟩,by dsimp only;omega,rfl,by dsimp only;rw[vZ (by omega)];omega,rfl,rfl,by push_cast;rfl⟩,fun h=>?_⟩;rw[List.take_of_length_le (by omega)];refine⟨fun h2=>⟨fun hm=>absurd hm.1.1 (by omega),fun _=>⟨rfl,rfl⟩⟩,fun h2=>⟨fun h3=>⟨fun hm=>absurd hm.1.2 (by omega),fun _=>⟨rfl,rfl⟩⟩,fun h3=>⟨by omega,fun x hx=>Nat.le_trans (hc2 x hx) (by decide),fun hz=>?_,fun hz=>⟨fun hm=>absurd hm.2 hz,fun _=>⟨rfl,rfl⟩⟩⟩⟩⟩;obtain⟨e1,e2,e3⟩:=Bu hz;have he:isE (bv l)=0:=by rw[e1];exact e3
 have hm:mdB l s:=⟨⟨by omega,by omega⟩,hz⟩;have hn1:=CP l;exact⟨by omega,fun x hx=>Nat.le_trans (GY hc2 x hx) (by decide),fun _=>⟨fun _=>⟨rfl,rfl,rfl⟩,fun h=>absurd hm h⟩,fun h=>absurd he h⟩
end Go.EA
end
section
set_option maxRecDepth 100000
set_option maxHeartbeats 0
namespace Go.EA
open F
def mX (l:List Wd) (s:List UInt8) (x:Nat×List Bool×List TX) (k:Nat):List Bool:=x.2.1.set ((x.1:Int)-1).toNat (sM (BiJ l s ((x.1:Int)-1).toNat k))
def wX (l:List Wd) (s:List UInt8) (x:Nat×List Bool×List TX) (k:Nat):List TX:=x.2.2.set ((x.1:Int)-1).toNat (sW (BiJ l s ((x.1:Int)-1).toNat k))
def Qz:List (List UInt8)×List (List UInt8)->List SV:=fun(a,b)=>[.one (.row .str a),.one (.row .str b)]
def aay:List (List UInt8)×List (List UInt8)->SV×List Prop:=fun(a,b)=>(.one (.bool (kI a b)),[a.length<=1099511627776])
def Ww:Con:=⟨true,[some .str,some .str],fun xs=>match xs with | [.one (.row .str a),.one (.row .str b)]=>some (aay (a,b)) | _=>none⟩
noncomputable def Mj:GP:=bZ Qz aay
theorem Nc:∀a b,(Qz a).map aB=(Qz b).map aB->a=b:=by
 rintro⟨a0,a1⟩ ⟨b0,b1⟩ h;simp only[Qz,zK,List.map_nil,aB,aS,zG,AV.one.injEq,AV.agg.injEq,Lf.int.injEq,Lf.str.injEq,Lf.bool.injEq,Lf.vrow.injEq,and_true,true_and,and_assoc] at h;obtain⟨h0,h1⟩:=h;have h0:=bT h0;have h1:=bT h1;subst h0 h1
 rfl
theorem Tt:df Mj Ww:=aR Nc (fun⟨_,_⟩ ⟨_,_⟩=>rfl) (fun⟨_,_⟩=>rfl) fun xs r h=>by
 simp only[Ww] at h;split at h
 .cases h;rename_i a b;exact⟨(a,b),rfl,rfl⟩
 .cases h
theorem aad {S:SC}(hB:SB S)  (h509:S.has 509 f509):aG S 509 (az Mj):=by
 refine prM hB [] [] trivial trivial h509 (fun⟨a,b⟩=>⟨rfl,rfl,rfl⟩) (fun(a,b)=>fun f id T L=>match f,id with
  |509,0=>some (.inv { i:Nat // i<=a.length/\btL a b=btL (a.drop i) (b.drop i) } (fun x=>([(18,.one (.int .i64 x.1))],[])) (fun x=>a.length-x.1))
  |_,_=>none) 400 ?_
 rintro⟨a,b⟩ hc;have hc1:a.length<=1099511627776:=hc.1;refine VC.use (p:=((a.length:Int)=(b.length:Int)->(∃x1:{ i:Nat // i<=a.length/\btL a b=btL (List.drop i a) (List.drop i b) },a=a/\b=b/\(a.length:Int)=(a.length:Int)/\0=(x1.1:Int))/\(∀x1:{ i:Nat // i<=a.length/\btL a b=btL (List.drop i a) (List.drop i b) },((x1.1:Int)<(a.length:Int)->(0<=(x1.1:Int)/\(x1.1:Int)<(a.length:Int))/\(0<=(x1.1:Int)/\(x1.1:Int)<(b.length:Int))/\((↑(List.length (a.getD x1.1 [])):Int)=(↑(List.length (b.getD x1.1 [])):Int)->aA ((x1.1:Int)+1)/\(∃x2:{ i:Nat // i<=a.length/\btL a b=btL (List.drop i a) (List.drop i b) },a.length-x2.1<a.length-x1.1/\a=a/\b=b/\(a.length:Int)=(a.length:Int)/\(x1.1:Int)+1=(x2.1:Int)))/\(¬(↑(List.length (a.getD x1.1 [])):Int)=(↑(List.length (b.getD x1.1 [])):Int)->(0<=(x1.1:Int)/\(x1.1:Int)<(a.length:Int))/\(0<=(x1.1:Int)/\(x1.1:Int)<(b.length:Int))/\decide ((↑(List.length (b.getD x1.1 [])):Int)<(↑(List.length (a.getD x1.1 [])):Int))=kI a b))/\(¬(x1.1:Int)<(a.length:Int)->false=kI a b)))/\(¬(a.length:Int)=(b.length:Int)->decide ((a.length:Int)<(b.length:Int))=kI a b)) (by kernel_rfl) ?_;refine⟨fun he=>⟨⟨⟨0,Nat.zero_le _,rfl⟩,rfl,rfl,rfl,rfl⟩,?_⟩,fun he=>?_⟩
 .have hB:kI a b=btL a b:=by unfold kI;rw[if_neg (by omega)]
  rintro⟨i,hi,hb⟩;dsimp only;rw[hB];refine⟨fun h=>⟨⟨by omega,h⟩,⟨by omega,by omega⟩,fun h2=>⟨by unfold aA;omega,⟨i+1,by omega,?_⟩,by dsimp only;omega,rfl,rfl,rfl,by push_cast;rfl⟩,fun h2=>⟨⟨by omega,h⟩,⟨by omega,by omega⟩,?_⟩⟩,fun h=>?_⟩
  .rw[hb,Bq (by omega) (by omega),if_neg (by omega)]
  .have e2:=hb.trans (Bq (by omega) (by omega));rw[if_pos (by omega)] at e2;exact Eq.trans (decide_eq_decide.2 (by omega)) e2.symm
  .refine Eq.trans ?_ hb.symm;rw[List.drop_of_length_le (show a.length<=i by omega)];simp[btL]
 .unfold kI;rw[if_pos (by omega),decide_eq_decide];omega
def QD:(List (List UInt8×Int))×List UInt8->List SV:=fun(l,s)=>[.one (.row (.pair .str (.int .i64)) l),.one (.str s)]
def YO:(List (List UInt8×Int))×List UInt8->SV×List Prop:=fun(l,s)=>(.tup [.o (.row .str (biE l s).1),.o (.int .i64 (biE l s).2)],[isE l=0,s.length<=1048576])
def XU:Con:=⟨false,[some (.pair .str (.int .i64)),none],fun xs=>match xs with | [.one (.row (.pair .str (.int .i64)) l),.one (.str s)]=>some (YO (l,s)) | _=>none⟩
noncomputable def Ms:GP:=bZ QD YO
theorem Nv:∀a b,(QD a).map aB=(QD b).map aB->a=b:=by
 rintro⟨a0,a1⟩ ⟨b0,b1⟩ h;simp only[QD,zK,List.map_nil,aB,aS,zG,AV.one.injEq,AV.agg.injEq,Lf.int.injEq,Lf.str.injEq,Lf.bool.injEq,Lf.vrow.injEq,and_true,true_and,and_assoc] at h;obtain⟨h0,h1⟩:=h;have h0:=bT h0;subst h0 h1
 rfl
theorem PT:df Ms XU:=aR Nv (fun⟨_,_⟩ ⟨_,_⟩=>rfl) (fun⟨_,_⟩=>rfl) fun xs r h=>by
 simp only[XU] at h;split at h
 .cases h;rename_i l s;exact⟨(l,s),rfl,rfl⟩
 .cases h
theorem aah {S:SC}(hB:SB S) (IW:aG S 502 (az DW)) (Jd:aG S 504 (az Ew)) (XM:aG S 509 (az Mj)) (h498:S.has 498 f498):aG S 498 (az Ms):=by
 refine prI hB [] [⟨502,DW,Sa⟩,⟨504,Ew,Qc⟩,⟨509,Mj,Ww⟩] [] trivial ⟨⟨IW,FR⟩,⟨Jd,Gz⟩,⟨XM,Tt⟩,trivial⟩ trivial h498 (fun⟨l,s⟩=>⟨rfl,rfl,rfl⟩) (fun(l,s)=>fun f id T L=>match f,id with
  |498,0=>match T.getD 7 .junk,T.getD 8 .junk with | .one (.osl w),.one (.osl m)=>some (.inv { x:Nat×List Bool×List TX // BiI l s x } (fun x=>([(9,.one (.int .i64 ((x.1.1:Int)-1))),(7,.one (.osl w)),(8,.one (.osl m))],[(m,.row .bool x.1.2.1),(w,.row (.row .str) x.1.2.2)])) (fun x=>x.1.1)) | _,_=>none
  |498,2=>match ae L 0,ae L 1,T.getD 9 .junk with | .row (.row .str) W,.row .bool M,.one (.int _ a)=>some (.inv { k:Nat // k<=l.length } (fun x=>([(39,.one (.int .i64 x.1))],[(1,.row .bool (M.set a.toNat (sM (BiJ l s a.toNat x.1)))),(0,.row (.row .str) (W.set a.toNat (sW (BiJ l s a.toNat x.1))))])) (fun x=>l.length-x.1)) | _,_,_=>none
  |498,4073=>match ae L 0,T.getD 9 .junk,T.getD 39 .junk with | .row (.row .str) W,.one (.int _ a),.one (.int _ k)=>some (.cut Unit fun _=>([(12,.one (.osl L.length))],[(L.length,.row .str ([(l.getD k.toNat ([],0)).1]++W.getD (a+((l.getD k.toNat ([],0)).1.length:Int)).toNat []))])) | _,_,_=>none
  |498,6091=>match T.getD 12 .junk with | .one (.osl k)=>some (.rnd k) | _=>none
  |_,_=>none) 4000 ?_
 rintro⟨l,s⟩ hc;have hc1:isE l=0:=hc.1;have hc2:s.length<=1048576:=hc.2.1;refine VC.use (p:=s.length<=1099511627776/\(tkE s=0->aA ((s.length:Int)+1)/\(0<=(s.length:Int)+1/\(s.length:Int)+1=(s.length:Int)+1/\((s.length:Int)+1)*24<=140737488355328/\(s.length:Int)+1<=140737488355328)/\aA ((s.length:Int)+1)/\(0<=(s.length:Int)+1/\(s.length:Int)+1<=(s.length:Int)+1/\((s.length:Int)+1)*1<=140737488355328/\(s.length:Int)+1<=140737488355328)/\(0<=(s.length:Int)/\(s.length:Int)<(↑(List.replicate ((s.length:Int)+1).toNat false).length:Int))/\s.length<(List.replicate ((s.length:Int)+1).toNat false).length/\aA ((s.length:Int)-1)/\(∃x1:{ x:Nat×List Bool×List TX // BiI l s x },l=l/\s=s/\(s.length:Int)-1=(x1.1.1:Int)-1/\x1.1.2.2=List.replicate ((s.length:Int)+1).toNat []/\(List.replicate ((s.length:Int)+1).toNat false).set s.length true=x1.1.2.1)/\(∀x1:{ x:Nat×List Bool×List TX // BiI l s x },(0<=(x1.1.1:Int)-1->(∃x2:{ k:Nat // k<=l.length },l=l/\s=s/\(x1.1.1:Int)-1=(x1.1.1:Int)-1/\l=l/\(l.length:Int)=(l.length:Int)/\0=(x2.1:Int)/\x1.1.2.2=wX l s x1.1 x2.1/\x1.1.2.1=mX l s x1.1 x2.1)/\(∀x2:{ k:Nat // k<=l.length },((x2.1:Int)<(l.length:Int)->(0<=(x2.1:Int)/\(x2.1:Int)<(l.length:Int))/\(0<=(x1.1.1:Int)-1/\(x1.1.1:Int)-1<=(s.length:Int))/\((!preB (aC s (some ((x1.1.1:Int)-1)) none) (l.getD x2.1 ([],0)).1)=true->aA ((x2.1:Int)+1)/\(∃x3:{ k:Nat // k<=l.length },l.length-x3.1<l.length-x2.1/\l=l/\s=s/\(x1.1.1:Int)-1=(x1.1.1:Int)-1/\l=l/\(l.length:Int)=(l.length:Int)/\(x2.1:Int)+1=(x3.1:Int)/\wX l s x1.1 x2.1=wX l s x1.1 x3.1/\mX l s x1.1 x2.1=mX l s x1.1 x3.1))/\(¬(!preB (aC s (some ((x1.1.1:Int)-1)) none) (l.getD x2.1 ([],0)).1)=true->aA ((x1.1.1:Int)-1+(↑(List.length (l.getD x2.1 ([],0)).1):Int))/\(0<=(x1.1.1:Int)-1+(↑(List.length (l.getD x2.1 ([],0)).1):Int)/\(x1.1.1:Int)-1+(↑(List.length (l.getD x2.1 ([],0)).1):Int)<(↑(mX l s x1.1 x2.1).length:Int))/\((x1.1.1:Int)-1+(↑(List.length (l.getD x2.1 ([],0)).1):Int)).toNat<(mX l s x1.1 x2.1).length/\((!(mX l s x1.1 x2.1).getD ((x1.1.1:Int)-1+(↑(List.length (l.getD x2.1 ([],0)).1):Int)).toNat false)=true->aA ((x2.1:Int)+1)/\(∃x3:{ k:Nat // k<=l.length },l.length-x3.1<l.length-x2.1/\l=l/\s=s/\(x1.1.1:Int)-1=(x1.1.1:Int)-1/\l=l/\(l.length:Int)=(l.length:Int)/\(x2.1:Int)+1=(x3.1:Int)/\wX l s x1.1 x2.1=wX l s x1.1 x3.1/\mX l s x1.1 x2.1=mX l s x1.1 x3.1))/\(¬(!(mX l s x1.1 x2.1).getD ((x1.1.1:Int)-1+(↑(List.length (l.getD x2.1 ([],0)).1):Int)).toNat false)=true->((aA ((x1.1.1:Int)-1+(↑(List.length (l.getD x2.1 ([],0)).1):Int))/\(0<=(x1.1.1:Int)-1+(↑(List.length (l.getD x2.1 ([],0)).1):Int)/\(x1.1.1:Int)-1+(↑(List.length (l.getD x2.1 ([],0)).1):Int)<(↑(wX l s x1.1 x2.1).length:Int))/\((x1.1.1:Int)-1+(↑(List.length (l.getD x2.1 ([],0)).1):Int)).toNat<(wX l s x1.1 x2.1).length/\([(l.getD x2.1 ([],0)).1].length+List.length ((wX l s x1.1 x2.1).getD ((x1.1.1:Int)-1+(↑(List.length (l.getD x2.1 ([],0)).1):Int)).toNat []))*16<=140737488355328/\(∃x3:Unit,l=l/\s=s/\(x1.1.1:Int)-1=(x1.1.1:Int)-1/\l=l/\(l.length:Int)=(l.length:Int)/\(x2.1:Int)=(x2.1:Int)/\wX l s x1.1 x2.1=wX l s x1.1 x2.1/\mX l s x1.1 x2.1=mX l s x1.1 x2.1/\(l.getD x2.1 ([],0)).1=(l.getD x2.1 ([],0)).1/\(l.getD x2.1 ([],0)).2=(l.getD x2.1 ([],0)).2/\[(l.getD x2.1 ([],0)).1]++(wX l s x1.1 x2.1).getD ((x1.1.1:Int)-1+(↑(List.length (l.getD x2.1 ([],0)).1):Int)).toNat []=[(l.getD x2.1 ([],0)).1]++(wX l s x1.1 x2.1).getD ((x1.1.1:Int)-1+(↑(l.getD x2.1 ([],0)).1.length:Int)).toNat []))/\(aA ((x1.1.1:Int)-1+(↑(List.length (l.getD x2.1 ([],0)).1):Int))/\(0<=(x1.1.1:Int)-1+(↑(List.length (l.getD x2.1 ([],0)).1):Int)/\(x1.1.1:Int)-1+(↑(List.length (l.getD x2.1 ([],0)).1):Int)<(↑(wX l s x1.1 x2.1).length:Int))/\((x1.1.1:Int)-1+(↑(List.length (l.getD x2.1 ([],0)).1):Int)).toNat<(wX l s x1.1 x2.1).length/\([(l.getD x2.1 ([],0)).1].length+List.length ((wX l s x1.1 x2.1).getD ((x1.1.1:Int)-1+(↑(List.length (l.getD x2.1 ([],0)).1):Int)).toNat []))*16<=140737488355328/\(∃x3:Unit,l=l/\s=s/\(x1.1.1:Int)-1=(x1.1.1:Int)-1/\l=l/\(l.length:Int)=(l.length:Int)/\(x2.1:Int)=(x2.1:Int)/\wX l s x1.1 x2.1=wX l s x1.1 x2.1/\mX l s x1.1 x2.1=mX l s x1.1 x2.1/\(l.getD x2.1 ([],0)).1=(l.getD x2.1 ([],0)).1/\(l.getD x2.1 ([],0)).2=(l.getD x2.1 ([],0)).2/\[(l.getD x2.1 ([],0)).1]++(wX l s x1.1 x2.1).getD ((x1.1.1:Int)-1+(↑(List.length (l.getD x2.1 ([],0)).1):Int)).toNat []=[(l.getD x2.1 ([],0)).1]++(wX l s x1.1 x2.1).getD ((x1.1.1:Int)-1+(↑(l.getD x2.1 ([],0)).1.length:Int)).toNat []))/\(aA ((x1.1.1:Int)-1+(↑(List.length (l.getD x2.1 ([],0)).1):Int))/\(0<=(x1.1.1:Int)-1+(↑(List.length (l.getD x2.1 ([],0)).1):Int)/\(x1.1.1:Int)-1+(↑(List.length (l.getD x2.1 ([],0)).1):Int)<(↑(wX l s x1.1 x2.1).length:Int))/\((x1.1.1:Int)-1+(↑(List.length (l.getD x2.1 ([],0)).1):Int)).toNat<(wX l s x1.1 x2.1).length/\([(l.getD x2.1 ([],0)).1].length+List.length ((wX l s x1.1 x2.1).getD ((x1.1.1:Int)-1+(↑(List.length (l.getD x2.1 ([],0)).1):Int)).toNat []))*16<=140737488355328/\(∃x3:Unit,l=l/\s=s/\(x1.1.1:Int)-1=(x1.1.1:Int)-1/\l=l/\(l.length:Int)=(l.length:Int)/\(x2.1:Int)=(x2.1:Int)/\wX l s x1.1 x2.1=wX l s x1.1 x2.1/\mX l s x1.1 x2.1=mX l s x1.1 x2.1/\(l.getD x2.1 ([],0)).1=(l.getD x2.1 ([],0)).1/\(l.getD x2.1 ([],0)).2=(l.getD x2.1 ([],0)).2/\[(l.getD x2.1 ([],0)).1]++(wX l s x1.1 x2.1).getD ((x1.1.1:Int)-1+(↑(List.length (l.getD x2.1 ([],0)).1):Int)).toNat []=[(l.getD x2.1 ([],0)).1]++(wX l s x1.1 x2.1).getD ((x1.1.1:Int)-1+(↑(l.getD x2.1 ([],0)).1.length:Int)).toNat []))/\aA ((x1.1.1:Int)-1+(↑(List.length (l.getD x2.1 ([],0)).1):Int))/\(0<=(x1.1.1:Int)-1+(↑(List.length (l.getD x2.1 ([],0)).1):Int)/\(x1.1.1:Int)-1+(↑(List.length (l.getD x2.1 ([],0)).1):Int)<(↑(wX l s x1.1 x2.1).length:Int))/\((x1.1.1:Int)-1+(↑(List.length (l.getD x2.1 ([],0)).1):Int)).toNat<(wX l s x1.1 x2.1).length/\([(l.getD x2.1 ([],0)).1].length+List.length ((wX l s x1.1 x2.1).getD ((x1.1.1:Int)-1+(↑(List.length (l.getD x2.1 ([],0)).1):Int)).toNat []))*16<=140737488355328/\(∃x3:Unit,l=l/\s=s/\(x1.1.1:Int)-1=(x1.1.1:Int)-1/\l=l/\(l.length:Int)=(l.length:Int)/\(x2.1:Int)=(x2.1:Int)/\wX l s x1.1 x2.1=wX l s x1.1 x2.1/\mX l s x1.1 x2.1=mX l s x1.1 x2.1/\(l.getD x2.1 ([],0)).1=(l.getD x2.1 ([],0)).1/\(l.getD x2.1 ([],0)).2=(l.getD x2.1 ([],0)).2/\[(l.getD x2.1 ([],0)).1]++(wX l s x1.1 x2.1).getD ((x1.1.1:Int)-1+(↑(List.length (l.getD x2.1 ([],0)).1):Int)).toNat []=[(l.getD x2.1 ([],0)).1]++(wX l s x1.1 x2.1).getD ((x1.1.1:Int)-1+(↑(l.getD x2.1 ([],0)).1.length:Int)).toNat []))/\(∀x3:Unit,(0<=(x1.1.1:Int)-1/\(x1.1.1:Int)-1<(↑(mX l s x1.1 x2.1).length:Int))/\((x1.1.1:Int)-1).toNat<(mX l s x1.1 x2.1).length/\((!(mX l s x1.1 x2.1).getD ((x1.1.1:Int)-1).toNat false)=true->(0<=(x1.1.1:Int)-1/\(x1.1.1:Int)-1<(↑(mX l s x1.1 x2.1).length:Int))/\((x1.1.1:Int)-1).toNat<(mX l s x1.1 x2.1).length/\(0<=(x1.1.1:Int)-1/\(x1.1.1:Int)-1<(↑(wX l s x1.1 x2.1).length:Int))/\((x1.1.1:Int)-1).toNat<(wX l s x1.1 x2.1).length/\aA ((x2.1:Int)+1)/\(∃x4:{ k:Nat // k<=l.length },l.length-x4.1<l.length-x2.1/\l=l/\s=s/\(x1.1.1:Int)-1=(x1.1.1:Int)-1/\l=l/\(l.length:Int)=(l.length:Int)/\(x2.1:Int)+1=(x4.1:Int)/\(wX l s x1.1 x2.1).set ((x1.1.1:Int)-1).toNat ([(l.getD x2.1 ([],0)).1]++(wX l s x1.1 x2.1).getD ((x1.1.1:Int)-1+(↑(l.getD x2.1 ([],0)).1.length:Int)).toNat [])=wX l s x1.1 x4.1/\(mX l s x1.1 x2.1).set ((x1.1.1:Int)-1).toNat true=mX l s x1.1 x4.1))/\(¬(!(mX l s x1.1 x2.1).getD ((x1.1.1:Int)-1).toNat false)=true->(0<=(x1.1.1:Int)-1/\(x1.1.1:Int)-1<(↑(wX l s x1.1 x2.1).length:Int))/\((x1.1.1:Int)-1).toNat<(wX l s x1.1 x2.1).length/\([(l.getD x2.1 ([],0)).1]++(wX l s x1.1 x2.1).getD ((x1.1.1:Int)-1+(↑(l.getD x2.1 ([],0)).1.length:Int)).toNat []).length<=1099511627776/\(kI ([(l.getD x2.1 ([],0)).1]++(wX l s x1.1 x2.1).getD ((x1.1.1:Int)-1+(↑(l.getD x2.1 ([],0)).1.length:Int)).toNat []) ((wX l s x1.1 x2.1).getD ((x1.1.1:Int)-1).toNat [])=true->(0<=(x1.1.1:Int)-1/\(x1.1.1:Int)-1<(↑(mX l s x1.1 x2.1).length:Int))/\((x1.1.1:Int)-1).toNat<(mX l s x1.1 x2.1).length/\(0<=(x1.1.1:Int)-1/\(x1.1.1:Int)-1<(↑(wX l s x1.1 x2.1).length:Int))/\((x1.1.1:Int)-1).toNat<(wX l s x1.1 x2.1).length/\aA ((x2.1:Int)+1)/\(∃x4:{ k:Nat // k<=l.length },l.length-x4.1<l.length-x2.1/\l=l/\s=s/\(x1.1.1:Int)-1=(x1.1.1:Int)-1/\l=l/\(l.length:Int)=(l.length:Int)/\(x2.1:Int)+1=(x4.1:Int)/\(wX l s x1.1 x2.1).set ((x1.1.1:Int)-1).toNat ([(l.getD x2.1 ([],0)).1]++(wX l s x1.1 x2.1).getD ((x1.1.1:Int)-1+(↑(l.getD x2.1 ([],0)).1.length:Int)).toNat [])=wX l s x1.1 x4.1/\(mX l s x1.1 x2.1).set ((x1.1.1:Int)-1).toNat true=mX l s x1.1 x4.1))/\(¬kI ([(l.getD x2.1 ([],0)).1]++(wX l s x1.1 x2.1).getD ((x1.1.1:Int)-1+(↑(l.getD x2.1 ([],0)).1.length:Int)).toNat []) ((wX l s x1.1 x2.1).getD ((x1.1.1:Int)-1).toNat [])=true->aA ((x2.1:Int)+1)/\(∃x4:{ k:Nat // k<=l.length },l.length-x4.1<l.length-x2.1/\l=l/\s=s/\(x1.1.1:Int)-1=(x1.1.1:Int)-1/\l=l/\(l.length:Int)=(l.length:Int)/\(x2.1:Int)+1=(x4.1:Int)/\wX l s x1.1 x2.1=wX l s x1.1 x4.1/\mX l s x1.1 x2.1=mX l s x1.1 x4.1)))))))/\(¬(x2.1:Int)<(l.length:Int)->aA ((x1.1.1:Int)-1-1)/\(∃x3:{ x:Nat×List Bool×List TX // BiI l s x },x3.1.1<x1.1.1/\l=l/\s=s/\(x1.1.1:Int)-1-1=(x3.1.1:Int)-1/\wX l s x1.1 x2.1=x3.1.2.2/\mX l s x1.1 x2.1=x3.1.2.1))))/\(¬0<=(x1.1.1:Int)-1->((0:Int)<=(0:Int)/\(0:Int)<(x1.1.2.1.length:Int))/\0<x1.1.2.1.length/\((!x1.1.2.1.getD 0 false)=true->[]=(biE l s).1/\10=(biE l s).2)/\(¬(!x1.1.2.1.getD 0 false)=true->((0:Int)<=(0:Int)/\(0:Int)<(x1.1.2.2.length:Int))/\0<x1.1.2.2.length/\x1.1.2.2.getD 0 []=(biE l s).1/\0=(biE l s).2))))/\(¬tkE s=0->[]=(biE l s).1/\tkE s=(biE l s).2)) (by kernel_rfl) ?_;have hN:=nml hc1;have hll:=hN.len;refine⟨by omega,fun ht=>?_,fun ht=>?_⟩
 .have eL:((s.length:Int)+1).toNat=s.length+1:=by omega
  rw[eL];refine⟨by unfold aA;omega,⟨by omega,rfl,by omega,by omega⟩,by unfold aA;omega,⟨by omega,by omega,by omega,by omega⟩,⟨by omega,by rw[List.length_replicate];omega⟩,by rw[List.length_replicate];omega,by unfold aA;omega,⟨⟨_,BiI.start l s⟩,rfl,rfl,rfl,rfl,rfl⟩,?_⟩;rintro⟨⟨i,M,W⟩,hI⟩;have hle:=hI.le;have hlm:=hI.lm;have hlw:=hI.lw;dsimp only at hle hlm hlw ⊢;refine⟨fun h=>?_,fun h=>?_⟩
  .obtain⟨a,rfl⟩:∃a,i=a+1:=⟨i-1,by omega⟩;have ea:((a+1:Nat):Int)-1=(a:Int):=by omega
   have hcut:aC s (some (a:Int)) none=s.drop a:=rfl;have hmX:∀k,mX l s (a+1,M,W) k=M.set a (sM (BiJ l s a k)):=fun k=>by
    unfold mX;dsimp only;rw[ea,Int.toNat_natCast]
   have hwX:∀k,wX l s (a+1,M,W) k=W.set a (sW (BiJ l s a k)):=fun k=>by
    unfold wX;dsimp only;rw[ea,Int.toNat_natCast]
   simp only[ea,hcut,hmX,hwX,Int.toNat_natCast];refine⟨⟨⟨0,Nat.zero_le _⟩,by trivial,by trivial,by trivial,by trivial,by trivial,by trivial,?_,?_⟩,?_⟩
   .have:=(hI.zr a (Nat.lt_succ_self a)).2;dsimp only at this
    conv=>lhs;rw[<- KS (l:=W) (a:=a) (d:=[]),this]
    rfl
   .have:=(hI.zr a (Nat.lt_succ_self a)).1;dsimp only at this
    conv=>lhs;rw[<- KS (l:=M) (a:=a) (d:=false),this]
    rfl
   .rintro⟨k,hk⟩;dsimp only;refine⟨fun h2=>?_,fun h2=>?_⟩
    .have hk2:k<l.length:=by omega
     have hmem:l.getD k ([],0)∈l:=by
      rw[zA,zB hk2];exact List.getElem_mem _
     have hne:1<=(l.getD k ([],0)).1.length:=by
      have h3:=hN.one _ hmem;have h4:(aJ (l.getD k ([],0)).1).length<=(l.getD k ([],0)).1.length:=by
       unfold aJ;split
       .rw[zR];exact wC _
       .exact Nat.zero_le _
      omega
     have hst:=OM (s:=s) (a:=a) hk2;generalize l.getD k ([],0)=w at hne hst ⊢;have hlm2:(M.set a (sM (BiJ l s a k))).length=s.length+1:=by rw[List.length_set];exact hlm
     have hlw2:(W.set a (sW (BiJ l s a k))).length=s.length+1:=by rw[List.length_set];exact hlw
     refine⟨⟨by omega,h2⟩,⟨by omega,by omega⟩,fun hp=>?_,fun hp=>?_⟩
     .rw[YF (by simpa using hp)] at hst;exact⟨by unfold aA;omega,⟨k+1,by omega⟩,by dsimp only;omega,by trivial,by trivial,by trivial,by trivial,by trivial,by push_cast;rfl,by dsimp only;rw[hst],by dsimp only;rw[hst]⟩
     .have hp2:preB (s.drop a) w.1=true:=by simpa using hp
      have hpl:=(of_decide_eq_true hp2).1;rw[List.length_drop] at hpl;obtain⟨b1,b2⟩:=hI.behind hne (by omega) (sM (BiJ l s a k)) (sW (BiJ l s a k));have e1:((a:Int)+(w.1.length:Int)).toNat=a+w.1.length:=by omega
      have hbl:(sW ((bsT l (s.drop (a+1))).getD (w.1.length-1) none)).length<=s.length:=by
       cases hq:(bsT l (s.drop (a+1))).getD (w.1.length-1) none with
       |none=>exact Nat.zero_le _
       | some r=>
         have:=xM l _ _ r hq;rw[List.length_drop] at this;show r.length<=_;omega
      simp only[e1,b1,b2,hlm2,hlw2];refine⟨by unfold aA;omega,⟨by omega,by omega⟩,by omega,fun hm=>?_,fun hm=>?_⟩
      .rw[NH (by simpa using hm)] at hst;exact⟨by unfold aA;omega,⟨k+1,by omega⟩,by dsimp only;omega,by trivial,by trivial,by trivial,by trivial,by trivial,by push_cast;rfl,by dsimp only;rw[hst],by dsimp only;rw[hst]⟩
      .obtain⟨y1,y2⟩:=TP (o:=BiJ l s a k) hp2 (by simpa using hm);have gm:(M.set a (sM (BiJ l s a k))).getD a false=sM (BiJ l s a k):=pO (by omega);have gw:(W.set a (sW (BiJ l s a k))).getD a []=sW (BiJ l s a k):=pO (by omega);refine⟨⟨?_,?_,?_,?_⟩,fun _=>?_⟩
       iterate 4 exact⟨by unfold aA;omega,⟨by omega,by omega⟩,by omega,by simp only[zN];omega,(),by trivial,by trivial,by trivial,by trivial,by trivial,by trivial,by trivial,by trivial,by trivial,by trivial,by trivial⟩
       rw[gm,gw];refine⟨⟨by omega,by omega⟩,by omega,fun hz=>?_,fun hz=>?_⟩
       .rw[y1 (by simpa using hz)] at hst;exact⟨⟨by omega,by omega⟩,by omega,⟨by omega,by omega⟩,by omega,by unfold aA;omega,⟨k+1,by omega⟩,by dsimp only;omega,by trivial,by trivial,by trivial,by trivial,by trivial,by push_cast;rfl,by dsimp only;rw[hst,List.set_set];rfl,by dsimp only;rw[hst,List.set_set];rfl⟩
       .have hz2:¬ sM (BiJ l s a k)=false:=by simpa using hz
        refine⟨⟨by omega,by omega⟩,by omega,by rw[zL,zN];omega,fun hb=>?_,fun hb=>?_⟩
        .rw[(y2 hz2).1 hb] at hst;exact⟨⟨by omega,by omega⟩,by omega,⟨by omega,by omega⟩,by omega,by unfold aA;omega,⟨k+1,by omega⟩,by dsimp only;omega,by trivial,by trivial,by trivial,by trivial,by trivial,by push_cast;rfl,by dsimp only;rw[hst,List.set_set];rfl,by dsimp only;rw[hst,List.set_set];rfl⟩
        .rw[(y2 hz2).2 hb] at hst;exact⟨by unfold aA;omega,⟨k+1,by omega⟩,by dsimp only;omega,by trivial,by trivial,by trivial,by trivial,by trivial,by push_cast;rfl,by dsimp only;rw[hst],by dsimp only;rw[hst]⟩
    .obtain rfl:k=l.length:=by omega
     exact⟨by unfold aA;omega,⟨(a,_,_),hI.out⟩,Nat.lt_succ_self a,by trivial,by trivial,by trivial,rfl,rfl⟩
  .obtain rfl:i=0:=by omega
   have h0:=hI.at' 0 (zJ _) (Nat.zero_le _);dsimp only at h0;have hE:biE l s=(match (bsT l s).getD 0 none with
    |some r=>(r,0)
    |none=>([],10)):=by
    unfold biE;rw[if_pos ht];cases (bsT l s).getD 0 none <;> rfl
   rw[h0.1,h0.2,hE];cases (bsT l s).getD 0 none with
   |none=>exact⟨⟨by omega,by omega⟩,by omega,fun _=>⟨rfl,rfl⟩,fun h=>absurd rfl h⟩
   |some r=>exact⟨⟨by omega,by omega⟩,by omega,fun h=>(by cases h),fun _=>⟨⟨by omega,by omega⟩,by omega,rfl,rfl⟩⟩
 .unfold biE;rw[if_neg ht];exact⟨rfl,rfl⟩
end Go.EA
end
