/- Layer 9: whether words may be, are normal; words each once, in order. Conditions: none. -/
import Derived.Test.YtgkhohpekfjlmaaDoorEK12
import Derived.Test.YtgkhohpekfjlmaaDoorERu
import Derived.Test.YtgkhohpekfjlmaaDoorERf
import Derived.KernelRfl
set_option linter.unusedVariables false
set_option linter.unusedSimpArgs false
set_option maxRecDepth 100000
set_option maxHeartbeats 0
namespace Go.EA
open F
def Ul:List UInt8×Int->List SV:=fun(w0,w1)=>[.agg [.str w0,.int .i64 w1]]
def Zn:List UInt8×Int->SV×List Prop:=fun(w0,w1)=>(.one (.int .i64 (wE (w0,w1))),[w0.length<=1099511627776])
def Ry:Con:=⟨true,[none],fun xs=>match xs with | [.agg [.str w0,.int .i64 w1]]=>some (Zn (w0,w1)) | _=>none⟩
noncomputable def DJ:GP:=bS Ul Zn
theorem JV:∀a b,(Ul a).map aB=(Ul b).map aB->a=b:=by
 rintro⟨a0,a1⟩ ⟨b0,b1⟩ h;simp only[Ul,zK,List.map_nil,aB,aS,zG,AV.one.injEq,AV.agg.injEq,Lf.int.injEq,Lf.str.injEq,Lf.bool.injEq,Lf.vrow.injEq,and_true,true_and,and_assoc] at h;obtain⟨h0,h1⟩:=h;subst h0 h1
 rfl
theorem Gb:bW DJ Ry:=aN JV (fun⟨_,_⟩ ⟨_,_⟩=>rfl) (fun⟨_,_⟩=>rfl) fun xs r h=>by
 simp only[Ry] at h;split at h
 .cases h;rename_i w0 w1;exact⟨(w0,w1),rfl,rfl⟩
 .cases h
theorem aby {S:SC}(hB:SB S) (q20:aG S 20 (az G20)) (h298:S.has 298 f298):aG S 298 (az DJ):=by
 refine prM hB [] [⟨20,G20,K20⟩] trivial ⟨⟨q20,Zg⟩,trivial⟩ h298 (fun⟨w0,w1⟩=>⟨rfl,rfl,rfl⟩) (fun(w0,w1)=>fun _ _ _ _=>none) 400 ?_;rintro⟨w0,w1⟩ hc;have hc1:w0.length<=1099511627776:=hc.1;refine VC.use (p:=w0.length<=1099511627776/\(eP w0=0->(w1<1->2=wE (w0,w1))/\(¬w1<1->(1073741824<w1->2=wE (w0,w1))/\(¬1073741824<w1->eP w0=wE (w0,w1))))/\(¬eP w0=0->eP w0=wE (w0,w1))) (by kernel_rfl) ?_;refine⟨hc1,fun h=>⟨fun h1=>?_,fun h1=>⟨fun h2=>?_,fun h2=>?_⟩⟩,fun h=>?_⟩
 all_goals
  unfold wE;dsimp only;split <;> (try split) <;> omega
def QS:List UInt8×Int->List SV:=fun(w0,w1)=>[.agg [.str w0,.int .i64 w1]]
def abw:List UInt8×Int->SV×List Prop:=fun(w0,w1)=>(.one (.bool (iB (w0,w1))),[w0.length<=1099511627776])
def Zj:Con:=⟨true,[none],fun xs=>match xs with | [.agg [.str w0,.int .i64 w1]]=>some (abw (w0,w1)) | _=>none⟩
noncomputable def NQ:GP:=bS QS abw
theorem NR:∀a b,(QS a).map aB=(QS b).map aB->a=b:=by
 rintro⟨a0,a1⟩ ⟨b0,b1⟩ h;simp only[QS,zK,List.map_nil,aB,aS,zG,AV.one.injEq,AV.agg.injEq,Lf.int.injEq,Lf.str.injEq,Lf.bool.injEq,Lf.vrow.injEq,and_true,true_and,and_assoc] at h;obtain⟨h0,h1⟩:=h;subst h0 h1
 rfl
theorem RA:bW NQ Zj:=aN NR (fun⟨_,_⟩ ⟨_,_⟩=>rfl) (fun⟨_,_⟩=>rfl) fun xs r h=>by
 simp only[Zj] at h;split at h
 .cases h;rename_i w0 w1;exact⟨(w0,w1),rfl,rfl⟩
 .cases h
theorem aak {S:SC}(hB:SB S) (IQ:aG S 298 (az DJ)) (h337:S.has 337 f337):aG S 337 (az NQ):=by
 refine prM hB [] [⟨298,DJ,Ry⟩] trivial ⟨⟨IQ,Gb⟩,trivial⟩ h337 (fun⟨w0,w1⟩=>⟨rfl,rfl,rfl⟩) (fun(w0,w1)=>fun _ _ _ _=>none) 400 ?_;rintro⟨w0,w1⟩ hc;have hc1:w0.length<=1099511627776:=hc.1;refine VC.use (p:=w0.length<=1099511627776/\(!decide (wE (w0,w1)=0))=iB (w0,w1)) (by kernel_rfl) ?_;exact⟨hc1,rfl⟩
def Rn:(List (List UInt8×Int))->List SV:=fun l=>[.one (.row (.pair .str (.int .i64)) l),.one (.fn 337 [])]
def aaw:(List (List UInt8×Int))->SV×List Prop:=fun l=>(.one (.int .i64 (lN l)),[l.length<=1099511627776,SmW l])
def WR:Con:=⟨true,[some (.pair .str (.int .i64)),none],fun xs=>match xs with | [.one (.row (.pair .str (.int .i64)) l),.one (.fn 337 [])]=>some (aaw l) | _=>none⟩
noncomputable def Qa:GP:=bS Rn aaw
theorem Kc:∀a b,(Rn a).map aB=(Rn b).map aB->a=b:=by
 rintro a0 b0 h;simp only[Rn,zK,List.map_nil,aB,aS,zG,AV.one.injEq,AV.agg.injEq,Lf.int.injEq,Lf.str.injEq,Lf.bool.injEq,Lf.vrow.injEq,and_true,true_and] at h;exact bD h
theorem UB:bW Qa WR:=aN Kc (fun _ _=>rfl) (fun _=>rfl) fun xs r h=>by
 simp only[WR] at h;split at h
 .cases h;rename_i l;exact⟨l,rfl,rfl⟩
 .cases h
theorem Zo {S:SC}(hB:SB S) (VA:aG S 337 (az NQ)) (h336:S.has 336 f336):aG S 336 (az Qa):=by
 refine prM hB [] [⟨337,NQ,Zj⟩] trivial ⟨⟨VA,RA⟩,trivial⟩ h336 (fun _=>⟨rfl,rfl,rfl⟩) (fun l=>fun f id T L=>match f,id with
  |336,0=>some (.inv { i:Nat // i<=l.length/\∀j,j<i->iB (l.getD j ([],0))=false } (fun x=>([(8,.one (.int .i64 x.1))],[])) (fun x=>l.length-x.1))
  |_,_=>none) 400 ?_
 rintro l hc;have hc1:l.length<=1099511627776:=hc.1;have hc2:SmW l:=hc.2.1;refine VC.use (p:=(∃x1:{ i:Nat // i<=l.length/\∀(j:Nat),j<i->iB (l.getD j ([],0))=false },l=l/\(l.length:Int)=(l.length:Int)/\0=(x1.1:Int))/\(∀x1:{ i:Nat // i<=l.length/\∀(j:Nat),j<i->iB (l.getD j ([],0))=false },((x1.1:Int)<(l.length:Int)->(0<=(x1.1:Int)/\(x1.1:Int)<(l.length:Int))/\List.length (l.getD x1.1 ([],0)).1<=1099511627776/\(iB ((l.getD x1.1 ([],0)).1,(l.getD x1.1 ([],0)).2)=true->(x1.1:Int)=lN l)/\(¬iB ((l.getD x1.1 ([],0)).1,(l.getD x1.1 ([],0)).2)=true->aC ((x1.1:Int)+1)/\(∃x2:{ i:Nat // i<=l.length/\∀(j:Nat),j<i->iB (l.getD j ([],0))=false },l.length-x2.1<l.length-x1.1/\l=l/\(l.length:Int)=(l.length:Int)/\(x1.1:Int)+1=(x2.1:Int))))/\(¬(x1.1:Int)<(l.length:Int) -> -1=lN l))) (by kernel_rfl) ?_;refine⟨⟨⟨0,Nat.zero_le _,fun j h=>absurd h (zS _)⟩,rfl,rfl,rfl⟩,?_⟩;rintro⟨i,hi,ha⟩;dsimp only;exact⟨fun h=>⟨by omega,hc2.at i,fun h1=>(MV (by omega) ha h1).symm,fun h1=>⟨by unfold aC;omega,⟨i+1,by omega,tJ ha (by simpa using h1)⟩,by show l.length-(i+1)<l.length-i;omega,rfl,rfl,rfl⟩⟩,fun h=>(JR fun j hj=>ha j (by omega)).symm⟩
def Sq:(List (List UInt8×Int))->List SV:=fun l=>[.one (.row (.pair .str (.int .i64)) l)]
def abr:(List (List UInt8×Int))->SV×List Prop:=fun l=>(.one (.int .i64 (eF l)),[l.length<=1099511627776,SmW l])
def YY:Con:=⟨true,[some (.pair .str (.int .i64))],fun xs=>match xs with | [.one (.row (.pair .str (.int .i64)) l)]=>some (abr l) | _=>none⟩
noncomputable def MB:GP:=bS Sq abr
theorem Lr:∀a b,(Sq a).map aB=(Sq b).map aB->a=b:=by
 rintro a0 b0 h;simp only[Sq,zK,List.map_nil,aB,aS,zG,AV.one.injEq,AV.agg.injEq,Lf.int.injEq,Lf.str.injEq,Lf.bool.injEq,Lf.vrow.injEq,and_true,true_and] at h;exact bD h
theorem SX:bW MB YY:=aN Lr (fun _ _=>rfl) (fun _=>rfl) fun xs r h=>by
 simp only[YY] at h;split at h
 .cases h;rename_i l;exact⟨l,rfl,rfl⟩
 .cases h
theorem aaO {S:SC}(hB:SB S) (Zh:aG S 336 (az Qa)) (IQ:aG S 298 (az DJ)) (h318:S.has 318 f318):aG S 318 (az MB):=by
 refine prM hB [] [⟨336,Qa,WR⟩,⟨298,DJ,Ry⟩] trivial ⟨⟨Zh,UB⟩,⟨IQ,Gb⟩,trivial⟩ h318 (fun _=>⟨rfl,rfl,rfl⟩) (fun l=>fun _ _ _ _=>none) 400 ?_;rintro l hc;have hc1:l.length<=1099511627776:=hc.1;have hc2:SmW l:=hc.2.1;refine VC.use (p:=l.length<=1099511627776/\SmW l/\(lN l<0->0=eF l)/\(¬lN l<0->(0<=lN l/\lN l<(l.length:Int))/\List.length (l.getD (lN l).toNat ([],0)).1<=1099511627776/\wE ((l.getD (lN l).toNat ([],0)).1,(l.getD (lN l).toNat ([],0)).2)=eF l)) (by kernel_rfl) ?_;refine⟨hc1,hc2,?_⟩;rcases Iz l with ⟨h1,h2⟩ | ⟨i,h1,h2,h3⟩
 .rw[h1,h2];exact⟨fun _=>rfl,fun h=>absurd h (by decide)⟩
 .rw[h2];exact⟨fun h=>absurd h (by omega),fun _=>⟨by omega,hc2.at _,h3⟩⟩
def SN:(List (List UInt8×Int))->List SV:=fun l=>[.one (.row (.pair .str (.int .i64)) l)]
def Zl:(List (List UInt8×Int))->SV×List Prop:=fun l=>(.one (.int .i64 (isE l)),[l.length<=1099511627776,SmW l])
def VY:Con:=⟨true,[some (.pair .str (.int .i64))],fun xs=>match xs with | [.one (.row (.pair .str (.int .i64)) l)]=>some (Zl l) | _=>none⟩
noncomputable def ME:GP:=bS SN Zl
theorem Pf:∀a b,(SN a).map aB=(SN b).map aB->a=b:=by
 rintro a0 b0 h;simp only[SN,zK,List.map_nil,aB,aS,zG,AV.one.injEq,AV.agg.injEq,Lf.int.injEq,Lf.str.injEq,Lf.bool.injEq,Lf.vrow.injEq,and_true,true_and] at h;exact bD h
theorem Qz:bW ME VY:=aN Pf (fun _ _=>rfl) (fun _=>rfl) fun xs r h=>by
 simp only[VY] at h;split at h
 .cases h;rename_i l;exact⟨l,rfl,rfl⟩
 .cases h
theorem aaZ {S:SC}(hB:SB S) (XI:aG S 318 (az MB)) (h296:S.has 296 f296):aG S 296 (az ME):=by
 refine prM hB [] [⟨318,MB,YY⟩] trivial ⟨⟨XI,SX⟩,trivial⟩ h296 (fun _=>⟨rfl,rfl,rfl⟩) (fun l=>fun f id T L=>match f,id with
  |296,0=>some (.inv { i:Nat // i<=l.length/\∀j,j+1<i->ltW (l.getD j ([],0)) (l.getD (j+1) ([],0))=true } (fun x=>([(12,.one (.int .i64 x.1))],[])) (fun x=>l.length-x.1))
  |_,_=>none) 400 ?_
 rintro l hc;have hc1:l.length<=1099511627776:=hc.1;have hc2:SmW l:=hc.2.1;refine VC.use (p:=l.length<=1099511627776/\SmW l/\(eF l=0->(∃x1:{ i:Nat // i<=l.length/\∀(j:Nat),j+1<i->ltW (l.getD j ([],0)) (l.getD (j+1) ([],0))=true },l=l/\(l.length:Int)=(l.length:Int)/\0=(x1.1:Int))/\(∀x1:{ i:Nat // i<=l.length/\∀(j:Nat),j+1<i->ltW (l.getD j ([],0)) (l.getD (j+1) ([],0))=true },((x1.1:Int)<(l.length:Int)->(0<(x1.1:Int)->aC ((x1.1:Int)-1)/\(0<=(x1.1:Int)-1/\(x1.1:Int)-1<(l.length:Int))/\(0<=(x1.1:Int)/\(x1.1:Int)<(l.length:Int))/\((!aX (l.getD ((x1.1:Int)-1).toNat ([],0)).1 (l.getD x1.1 ([],0)).1)=true->7=isE l)/\(¬(!aX (l.getD ((x1.1:Int)-1).toNat ([],0)).1 (l.getD x1.1 ([],0)).1)=true->aC ((x1.1:Int)+1)/\(∃x2:{ i:Nat // i<=l.length/\∀(j:Nat),j+1<i->ltW (l.getD j ([],0)) (l.getD (j+1) ([],0))=true },l.length-x2.1<l.length-x1.1/\l=l/\(l.length:Int)=(l.length:Int)/\(x1.1:Int)+1=(x2.1:Int))))/\(¬0<(x1.1:Int)->aC ((x1.1:Int)+1)/\(∃x2:{ i:Nat // i<=l.length/\∀(j:Nat),j+1<i->ltW (l.getD j ([],0)) (l.getD (j+1) ([],0))=true },l.length-x2.1<l.length-x1.1/\l=l/\(l.length:Int)=(l.length:Int)/\(x1.1:Int)+1=(x2.1:Int))))/\(¬(x1.1:Int)<(l.length:Int)->(65536<(l.length:Int)->6=isE l)/\(¬65536<(l.length:Int)->0=isE l))))/\(¬eF l=0->eF l=isE l)) (by kernel_rfl) ?_;refine⟨hc1,hc2,fun he=>⟨⟨⟨0,Nat.zero_le _,fun j h=>absurd h (by omega)⟩,rfl,rfl,rfl⟩,?_⟩,fun he=>?_⟩
 .rintro⟨i,hi,ha⟩;dsimp only;refine⟨fun h=>⟨fun h0=>⟨by unfold aC;omega,by omega,by omega,ZN he h0 (by omega),fun h1=>⟨by unfold aC;omega,⟨i+1,by omega,CK ha fun _=>h1⟩,by show l.length-(i+1)<l.length-i;omega,rfl,rfl,rfl⟩⟩,fun h0=>⟨by unfold aC;omega,⟨i+1,by omega,CK ha fun h1=>absurd h1 h0⟩,by show l.length-(i+1)<l.length-i;omega,rfl,rfl,rfl⟩⟩,fun h=>?_⟩;rw[QX he fun j hj=>ha j (by omega)];exact⟨fun h1=>by rw[if_pos (by omega)],fun h1=>by rw[if_neg (by omega)]⟩
 .unfold isE;rw[if_neg he]
def UK:List UInt8×Int->List SV:=fun(w0,w1)=>[.agg [.str w0,.int .i64 w1]]
def ZV:List UInt8×Int->SV×List Prop:=fun(w0,w1)=>(.one (.int .i64 (wE (w0,w1))),[w0.length<=1099511627776])
def VV:Con:=⟨true,[none],fun xs=>match xs with | [.agg [.str w0,.int .i64 w1]]=>some (ZV (w0,w1)) | _=>none⟩
noncomputable def NP:GP:=bS UK ZV
theorem Lg:∀a b,(UK a).map aB=(UK b).map aB->a=b:=by
 rintro⟨a0,a1⟩ ⟨b0,b1⟩ h;simp only[UK,zK,List.map_nil,aB,aS,zG,AV.one.injEq,AV.agg.injEq,Lf.int.injEq,Lf.str.injEq,Lf.bool.injEq,Lf.vrow.injEq,and_true,true_and,and_assoc] at h;obtain⟨h0,h1⟩:=h;subst h0 h1
 rfl
theorem UT:bW NP VV:=aN Lg (fun⟨_,_⟩ ⟨_,_⟩=>rfl) (fun⟨_,_⟩=>rfl) fun xs r h=>by
 simp only[VV] at h;split at h
 .cases h;rename_i w0 w1;exact⟨(w0,w1),rfl,rfl⟩
 .cases h
theorem abg {S:SC}(hB:SB S) (q21:aG S 21 (az G21)) (h299:S.has 299 f299):aG S 299 (az NP):=by
 refine prM hB [] [⟨21,G21,K21⟩] trivial ⟨⟨q21,Yp⟩,trivial⟩ h299 (fun⟨w0,w1⟩=>⟨rfl,rfl,rfl⟩) (fun(w0,w1)=>fun _ _ _ _=>none) 400 ?_;rintro⟨w0,w1⟩ hc;have hc1:w0.length<=1099511627776:=hc.1;refine VC.use (p:=w0.length<=1099511627776/\(eP w0=0->(w1<1->2=wE (w0,w1))/\(¬w1<1->(1073741824<w1->2=wE (w0,w1))/\(¬1073741824<w1->0=wE (w0,w1))))/\(¬eP w0=0->eP w0=wE (w0,w1))) (by kernel_rfl) ?_;refine⟨hc1,fun h=>⟨fun h1=>?_,fun h1=>⟨fun h2=>?_,fun h2=>?_⟩⟩,fun h=>?_⟩
 all_goals
  unfold wE;dsimp only;split <;> (try split) <;> omega
def QO:(List (List UInt8×Int))->List SV:=fun l=>[.one (.row (.pair .str (.int .i64)) l)]
def aa7:(List (List UInt8×Int))->SV×List Prop:=fun l=>(.one (.int .i64 (eF l)),[l.length<=1099511627776,SmW l])
def We:Con:=⟨true,[some (.pair .str (.int .i64))],fun xs=>match xs with | [.one (.row (.pair .str (.int .i64)) l)]=>some (aa7 l) | _=>none⟩
noncomputable def NY:GP:=bS QO aa7
theorem Oz:∀a b,(QO a).map aB=(QO b).map aB->a=b:=by
 rintro a0 b0 h;simp only[QO,zK,List.map_nil,aB,aS,zG,AV.one.injEq,AV.agg.injEq,Lf.int.injEq,Lf.str.injEq,Lf.bool.injEq,Lf.vrow.injEq,and_true,true_and] at h;exact bD h
theorem Qg:bW NY We:=aN Oz (fun _ _=>rfl) (fun _=>rfl) fun xs r h=>by
 simp only[We] at h;split at h
 .cases h;rename_i l;exact⟨l,rfl,rfl⟩
 .cases h
theorem aaT {S:SC}(hB:SB S) (WK:aG S 299 (az NP)) (h317:S.has 317 f317):aG S 317 (az NY):=by
 refine prM hB [] [⟨299,NP,VV⟩] trivial ⟨⟨WK,UT⟩,trivial⟩ h317 (fun _=>⟨rfl,rfl,rfl⟩) (fun l=>fun f id T L=>match f,id with
  |317,0=>some (.inv { i:Nat // i<=l.length/\∀j,j<i->iB (l.getD j ([],0))=false } (fun x=>([(8,.one (.int .i64 x.1))],[])) (fun x=>l.length-x.1))
  |_,_=>none) 400 ?_
 rintro l hc;have hc1:l.length<=1099511627776:=hc.1;have hc2:SmW l:=hc.2.1;refine VC.use (p:=(∃x1:{ i:Nat // i<=l.length/\∀(j:Nat),j<i->iB (l.getD j ([],0))=false },l=l/\(l.length:Int)=(l.length:Int)/\0=(x1.1:Int))/\(∀x1:{ i:Nat // i<=l.length/\∀(j:Nat),j<i->iB (l.getD j ([],0))=false },((x1.1:Int)<(l.length:Int)->(0<=(x1.1:Int)/\(x1.1:Int)<(l.length:Int))/\List.length (l.getD x1.1 ([],0)).1<=1099511627776/\(wE ((l.getD x1.1 ([],0)).1,(l.getD x1.1 ([],0)).2)=0->aC ((x1.1:Int)+1)/\(∃x2:{ i:Nat // i<=l.length/\∀(j:Nat),j<i->iB (l.getD j ([],0))=false },l.length-x2.1<l.length-x1.1/\l=l/\(l.length:Int)=(l.length:Int)/\(x1.1:Int)+1=(x2.1:Int)))/\(¬wE ((l.getD x1.1 ([],0)).1,(l.getD x1.1 ([],0)).2)=0->wE ((l.getD x1.1 ([],0)).1,(l.getD x1.1 ([],0)).2)=eF l))/\(¬(x1.1:Int)<(l.length:Int)->0=eF l))) (by kernel_rfl) ?_;refine⟨⟨⟨0,Nat.zero_le _,fun j h=>absurd h (zS _)⟩,rfl,rfl,rfl⟩,?_⟩;rintro⟨i,hi,ha⟩;dsimp only;exact⟨fun h=>⟨by omega,hc2.at i,fun h1=>⟨by unfold aC;omega,⟨i+1,by omega,tJ ha (yF.2 h1)⟩,by show l.length-(i+1)<l.length-i;omega,rfl,rfl,rfl⟩,fun h1=>(yX (by omega) ha (NM.2 h1)).symm⟩,fun h=>(pO fun j hj=>ha j (by omega)).symm⟩
end Go.EA
