/- Layer 9: whether words may be, are normal; words each once, in order. Conditions: none. -/
import Derived.Test.YtgkhohpekfjlmaaDoorEK12
import Derived.Test.YtgkhohpekfjlmaaDoorERu
import Derived.Test.YtgkhohpekfjlmaaDoorERf
import Derived.KernelRfl
set_option linter.unusedVariables false
set_option linter.unusedSimpArgs false
set_option maxRecDepth 100000
set_option maxHeartbeats 0
namespace Go.EA
open F
def QD:List UInt8×Int->List SV:=fun(w0,w1)=>[.agg [.str w0,.int .i64 w1]]
def XH:List UInt8×Int->SV×List Prop:=fun(w0,w1)=>(.one (.int .i64 (wE (w0,w1))),[w0.length<=1099511627776])
def PG:Con:=⟨true,[none],fun xs=>match xs with | [.agg [.str w0,.int .i64 w1]]=>some (XH (w0,w1)) | _=>none⟩
noncomputable def DX:GP:=cZ QD XH
theorem Jd:∀a b,(QD a).map aA=(QD b).map aA->a=b:=by
 rintro⟨a0,a1⟩ ⟨b0,b1⟩ h;simp only[QD,zK,List.map_nil,aA,aW,zG,AV.one.injEq,AV.agg.injEq,Lf.int.injEq,Lf.str.injEq,Lf.bool.injEq,Lf.vrow.injEq,and_true,true_and,and_assoc] at h;obtain⟨h0,h1⟩:=h;subst h0 h1
 rfl
theorem FW:dz DX PG:=aX Jd (fun⟨_,_⟩ ⟨_,_⟩=>rfl) (fun⟨_,_⟩=>rfl) fun xs r h=>by
 simp only[PG] at h;split at h
 .cases h;rename_i w0 w1;exact⟨(w0,w1),rfl,rfl⟩
 .cases h
theorem Xk {S:SC}(hB:SB S) (q20:aI S 20 (az G20)) (h298:S.has 298 f298):aI S 298 (az DX):=by
 refine prM hB [] [⟨20,G20,K20⟩] trivial ⟨⟨q20,WI⟩,trivial⟩ h298 (fun⟨w0,w1⟩=>⟨rfl,rfl,rfl⟩) (fun(w0,w1)=>fun _ _ _ _=>none) 400 ?_;rintro⟨w0,w1⟩ hc;have hc1:w0.length<=1099511627776:=hc.1;refine VC.use (p:=w0.length<=1099511627776/\(eB w0=0->(w1<1->2=wE (w0,w1))/\(¬w1<1->(1073741824<w1->2=wE (w0,w1))/\(¬1073741824<w1->eB w0=wE (w0,w1))))/\(¬eB w0=0->eB w0=wE (w0,w1))) (by kernel_rfl) ?_;refine⟨hc1,fun h=>⟨fun h1=>?_,fun h1=>⟨fun h2=>?_,fun h2=>?_⟩⟩,fun h=>?_⟩
 all_goals
  unfold wE;dsimp only;split <;> (try split) <;> omega
def Sz:List UInt8×Int->List SV:=fun(w0,w1)=>[.agg [.str w0,.int .i64 w1]]
def YH:List UInt8×Int->SV×List Prop:=fun(w0,w1)=>(.one (.bool (gZ (w0,w1))),[w0.length<=1099511627776])
def WS:Con:=⟨true,[none],fun xs=>match xs with | [.agg [.str w0,.int .i64 w1]]=>some (YH (w0,w1)) | _=>none⟩
noncomputable def Kz:GP:=cZ Sz YH
theorem Nu:∀a b,(Sz a).map aA=(Sz b).map aA->a=b:=by
 rintro⟨a0,a1⟩ ⟨b0,b1⟩ h;simp only[Sz,zK,List.map_nil,aA,aW,zG,AV.one.injEq,AV.agg.injEq,Lf.int.injEq,Lf.str.injEq,Lf.bool.injEq,Lf.vrow.injEq,and_true,true_and,and_assoc] at h;obtain⟨h0,h1⟩:=h;subst h0 h1
 rfl
theorem QB:dz Kz WS:=aX Nu (fun⟨_,_⟩ ⟨_,_⟩=>rfl) (fun⟨_,_⟩=>rfl) fun xs r h=>by
 simp only[WS] at h;split at h
 .cases h;rename_i w0 w1;exact⟨(w0,w1),rfl,rfl⟩
 .cases h
theorem Ya {S:SC}(hB:SB S) (Ho:aI S 298 (az DX)) (h337:S.has 337 f337):aI S 337 (az Kz):=by
 refine prM hB [] [⟨298,DX,PG⟩] trivial ⟨⟨Ho,FW⟩,trivial⟩ h337 (fun⟨w0,w1⟩=>⟨rfl,rfl,rfl⟩) (fun(w0,w1)=>fun _ _ _ _=>none) 400 ?_;rintro⟨w0,w1⟩ hc;have hc1:w0.length<=1099511627776:=hc.1;refine VC.use (p:=w0.length<=1099511627776/\(!decide (wE (w0,w1)=0))=gZ (w0,w1)) (by kernel_rfl) ?_;exact⟨hc1,rfl⟩
def Qt:(List (List UInt8×Int))->List SV:=fun l=>[.one (.row (.pair .str (.int .i64)) l),.one (.fn 337 [])]
def Xc:(List (List UInt8×Int))->SV×List Prop:=fun l=>(.one (.int .i64 (lc l)),[l.length<=1099511627776,SmW l])
def VJ:Con:=⟨true,[some (.pair .str (.int .i64)),none],fun xs=>match xs with | [.one (.row (.pair .str (.int .i64)) l),.one (.fn 337 [])]=>some (Xc l) | _=>none⟩
noncomputable def KA:GP:=cZ Qt Xc
theorem LJ:∀a b,(Qt a).map aA=(Qt b).map aA->a=b:=by
 rintro a0 b0 h;simp only[Qt,zK,List.map_nil,aA,aW,zG,AV.one.injEq,AV.agg.injEq,Lf.int.injEq,Lf.str.injEq,Lf.bool.injEq,Lf.vrow.injEq,and_true,true_and] at h;exact dD h
theorem OP:dz KA VJ:=aX LJ (fun _ _=>rfl) (fun _=>rfl) fun xs r h=>by
 simp only[VJ] at h;split at h
 .cases h;rename_i l;exact⟨l,rfl,rfl⟩
 .cases h
theorem WZ {S:SC}(hB:SB S) (UU:aI S 337 (az Kz)) (h336:S.has 336 f336):aI S 336 (az KA):=by
 refine prM hB [] [⟨337,Kz,WS⟩] trivial ⟨⟨UU,QB⟩,trivial⟩ h336 (fun _=>⟨rfl,rfl,rfl⟩) (fun l=>fun f id T L=>match f,id with
  |336,0=>some (.inv { i:Nat // i<=l.length/\∀j,j<i->gZ (l.getD j ([],0))=false } (fun x=>([(8,.one (.int .i64 x.1))],[])) (fun x=>l.length-x.1))
  |_,_=>none) 400 ?_
 rintro l hc;have hc1:l.length<=1099511627776:=hc.1;have hc2:SmW l:=hc.2.1;refine VC.use (p:=(∃x1:{ i:Nat // i<=l.length/\∀(j:Nat),j<i->gZ (l.getD j ([],0))=false },l=l/\(l.length:Int)=(l.length:Int)/\0=(x1.1:Int))/\(∀x1:{ i:Nat // i<=l.length/\∀(j:Nat),j<i->gZ (l.getD j ([],0))=false },((x1.1:Int)<(l.length:Int)->(0<=(x1.1:Int)/\(x1.1:Int)<(l.length:Int))/\List.length (l.getD x1.1 ([],0)).1<=1099511627776/\(gZ ((l.getD x1.1 ([],0)).1,(l.getD x1.1 ([],0)).2)=true->(x1.1:Int)=lc l)/\(¬gZ ((l.getD x1.1 ([],0)).1,(l.getD x1.1 ([],0)).2)=true->aB ((x1.1:Int)+1)/\(∃x2:{ i:Nat // i<=l.length/\∀(j:Nat),j<i->gZ (l.getD j ([],0))=false },l.length-x2.1<l.length-x1.1/\l=l/\(l.length:Int)=(l.length:Int)/\(x1.1:Int)+1=(x2.1:Int))))/\(¬(x1.1:Int)<(l.length:Int) -> -1=lc l))) (by kernel_rfl) ?_;refine⟨⟨⟨0,Nat.zero_le _,fun j h=>absurd h (zS _)⟩,rfl,rfl,rfl⟩,?_⟩;rintro⟨i,hi,ha⟩;dsimp only;exact⟨fun h=>⟨by omega,hc2.at i,fun h1=>(Ml (by omega) ha h1).symm,fun h1=>⟨by unfold aB;omega,⟨i+1,by omega,oO ha (by simpa using h1)⟩,by show l.length-(i+1)<l.length-i;omega,rfl,rfl,rfl⟩⟩,fun h=>(IP fun j hj=>ha j (by omega)).symm⟩
def QP:(List (List UInt8×Int))->List SV:=fun l=>[.one (.row (.pair .str (.int .i64)) l)]
def Xx:(List (List UInt8×Int))->SV×List Prop:=fun l=>(.one (.int .i64 (dY l)),[l.length<=1099511627776,SmW l])
def Vn:Con:=⟨true,[some (.pair .str (.int .i64))],fun xs=>match xs with | [.one (.row (.pair .str (.int .i64)) l)]=>some (Xx l) | _=>none⟩
noncomputable def IV:GP:=cZ QP Xx
theorem Ma:∀a b,(QP a).map aA=(QP b).map aA->a=b:=by
 rintro a0 b0 h;simp only[QP,zK,List.map_nil,aA,aW,zG,AV.one.injEq,AV.agg.injEq,Lf.int.injEq,Lf.str.injEq,Lf.bool.injEq,Lf.vrow.injEq,and_true,true_and] at h;exact dD h
theorem RU:dz IV Vn:=aX Ma (fun _ _=>rfl) (fun _=>rfl) fun xs r h=>by
 simp only[Vn] at h;split at h
 .cases h;rename_i l;exact⟨l,rfl,rfl⟩
 .cases h
theorem YN {S:SC}(hB:SB S) (Wm:aI S 336 (az KA)) (Ho:aI S 298 (az DX)) (h318:S.has 318 f318):aI S 318 (az IV):=by
 refine prM hB [] [⟨336,KA,VJ⟩,⟨298,DX,PG⟩] trivial ⟨⟨Wm,OP⟩,⟨Ho,FW⟩,trivial⟩ h318 (fun _=>⟨rfl,rfl,rfl⟩) (fun l=>fun _ _ _ _=>none) 400 ?_;rintro l hc;have hc1:l.length<=1099511627776:=hc.1;have hc2:SmW l:=hc.2.1;refine VC.use (p:=l.length<=1099511627776/\SmW l/\(lc l<0->0=dY l)/\(¬lc l<0->(0<=lc l/\lc l<(l.length:Int))/\List.length (l.getD (lc l).toNat ([],0)).1<=1099511627776/\wE ((l.getD (lc l).toNat ([],0)).1,(l.getD (lc l).toNat ([],0)).2)=dY l)) (by kernel_rfl) ?_;refine⟨hc1,hc2,?_⟩;rcases IK l with ⟨h1,h2⟩ | ⟨i,h1,h2,h3⟩
 .rw[h1,h2];exact⟨fun _=>rfl,fun h=>absurd h (by decide)⟩
 .rw[h2];exact⟨fun h=>absurd h (by omega),fun _=>⟨by omega,hc2.at _,h3⟩⟩
def Pb:(List (List UInt8×Int))->List SV:=fun l=>[.one (.row (.pair .str (.int .i64)) l)]
def Ym:(List (List UInt8×Int))->SV×List Prop:=fun l=>(.one (.int .i64 (isE l)),[l.length<=1099511627776,SmW l])
def VN:Con:=⟨true,[some (.pair .str (.int .i64))],fun xs=>match xs with | [.one (.row (.pair .str (.int .i64)) l)]=>some (Ym l) | _=>none⟩
noncomputable def NZ:GP:=cZ Pb Ym
theorem Jy:∀a b,(Pb a).map aA=(Pb b).map aA->a=b:=by
 rintro a0 b0 h;simp only[Pb,zK,List.map_nil,aA,aW,zG,AV.one.injEq,AV.agg.injEq,Lf.int.injEq,Lf.str.injEq,Lf.bool.injEq,Lf.vrow.injEq,and_true,true_and] at h;exact dD h
theorem RZ:dz NZ VN:=aX Jy (fun _ _=>rfl) (fun _=>rfl) fun xs r h=>by
 simp only[VN] at h;split at h
 .cases h;rename_i l;exact⟨l,rfl,rfl⟩
 .cases h
theorem Yl {S:SC}(hB:SB S) (Uu:aI S 318 (az IV)) (h296:S.has 296 f296):aI S 296 (az NZ):=by
 refine prM hB [] [⟨318,IV,Vn⟩] trivial ⟨⟨Uu,RU⟩,trivial⟩ h296 (fun _=>⟨rfl,rfl,rfl⟩) (fun l=>fun f id T L=>match f,id with
  |296,0=>some (.inv { i:Nat // i<=l.length/\∀j,j+1<i->ltW (l.getD j ([],0)) (l.getD (j+1) ([],0))=true } (fun x=>([(12,.one (.int .i64 x.1))],[])) (fun x=>l.length-x.1))
  |_,_=>none) 400 ?_
 rintro l hc;have hc1:l.length<=1099511627776:=hc.1;have hc2:SmW l:=hc.2.1;refine VC.use (p:=l.length<=1099511627776/\SmW l/\(dY l=0->(∃x1:{ i:Nat // i<=l.length/\∀(j:Nat),j+1<i->ltW (l.getD j ([],0)) (l.getD (j+1) ([],0))=true },l=l/\(l.length:Int)=(l.length:Int)/\0=(x1.1:Int))/\(∀x1:{ i:Nat // i<=l.length/\∀(j:Nat),j+1<i->ltW (l.getD j ([],0)) (l.getD (j+1) ([],0))=true },((x1.1:Int)<(l.length:Int)->(0<(x1.1:Int)->aB ((x1.1:Int)-1)/\(0<=(x1.1:Int)-1/\(x1.1:Int)-1<(l.length:Int))/\(0<=(x1.1:Int)/\(x1.1:Int)<(l.length:Int))/\((!aV (l.getD ((x1.1:Int)-1).toNat ([],0)).1 (l.getD x1.1 ([],0)).1)=true->7=isE l)/\(¬(!aV (l.getD ((x1.1:Int)-1).toNat ([],0)).1 (l.getD x1.1 ([],0)).1)=true->aB ((x1.1:Int)+1)/\(∃x2:{ i:Nat // i<=l.length/\∀(j:Nat),j+1<i->ltW (l.getD j ([],0)) (l.getD (j+1) ([],0))=true },l.length-x2.1<l.length-x1.1/\l=l/\(l.length:Int)=(l.length:Int)/\(x1.1:Int)+1=(x2.1:Int))))/\(¬0<(x1.1:Int)->aB ((x1.1:Int)+1)/\(∃x2:{ i:Nat // i<=l.length/\∀(j:Nat),j+1<i->ltW (l.getD j ([],0)) (l.getD (j+1) ([],0))=true },l.length-x2.1<l.length-x1.1/\l=l/\(l.length:Int)=(l.length:Int)/\(x1.1:Int)+1=(x2.1:Int))))/\(¬(x1.1:Int)<(l.length:Int)->(65536<(l.length:Int)->6=isE l)/\(¬65536<(l.length:Int)->0=isE l))))/\(¬dY l=0->dY l=isE l)) (by kernel_rfl) ?_;refine⟨hc1,hc2,fun he=>⟨⟨⟨0,Nat.zero_le _,fun j h=>absurd h (by omega)⟩,rfl,rfl,rfl⟩,?_⟩,fun he=>?_⟩
 .rintro⟨i,hi,ha⟩;dsimp only;refine⟨fun h=>⟨fun h0=>⟨by unfold aB;omega,by omega,by omega,YA he h0 (by omega),fun h1=>⟨by unfold aB;omega,⟨i+1,by omega,yD ha fun _=>h1⟩,by show l.length-(i+1)<l.length-i;omega,rfl,rfl,rfl⟩⟩,fun h0=>⟨by unfold aB;omega,⟨i+1,by omega,yD ha fun h1=>absurd h1 h0⟩,by show l.length-(i+1)<l.length-i;omega,rfl,rfl,rfl⟩⟩,fun h=>?_⟩;rw[QL he fun j hj=>ha j (by omega)];exact⟨fun h1=>by rw[if_pos (by omega)],fun h1=>by rw[if_neg (by omega)]⟩
 .unfold isE;rw[if_neg he]
def Pj:List UInt8×Int->List SV:=fun(w0,w1)=>[.agg [.str w0,.int .i64 w1]]
def Yh:List UInt8×Int->SV×List Prop:=fun(w0,w1)=>(.one (.int .i64 (wE (w0,w1))),[w0.length<=1099511627776])
def VK:Con:=⟨true,[none],fun xs=>match xs with | [.agg [.str w0,.int .i64 w1]]=>some (Yh (w0,w1)) | _=>none⟩
noncomputable def NE:GP:=cZ Pj Yh
theorem KW:∀a b,(Pj a).map aA=(Pj b).map aA->a=b:=by
 rintro⟨a0,a1⟩ ⟨b0,b1⟩ h;simp only[Pj,zK,List.map_nil,aA,aW,zG,AV.one.injEq,AV.agg.injEq,Lf.int.injEq,Lf.str.injEq,Lf.bool.injEq,Lf.vrow.injEq,and_true,true_and,and_assoc] at h;obtain⟨h0,h1⟩:=h;subst h0 h1
 rfl
theorem PH:dz NE VK:=aX KW (fun⟨_,_⟩ ⟨_,_⟩=>rfl) (fun⟨_,_⟩=>rfl) fun xs r h=>by
 simp only[VK] at h;split at h
 .cases h;rename_i w0 w1;exact⟨(w0,w1),rfl,rfl⟩
 .cases h
theorem XE {S:SC}(hB:SB S) (q21:aI S 21 (az G21)) (h299:S.has 299 f299):aI S 299 (az NE):=by
 refine prM hB [] [⟨21,G21,K21⟩] trivial ⟨⟨q21,Ui⟩,trivial⟩ h299 (fun⟨w0,w1⟩=>⟨rfl,rfl,rfl⟩) (fun(w0,w1)=>fun _ _ _ _=>none) 400 ?_;rintro⟨w0,w1⟩ hc;have hc1:w0.length<=1099511627776:=hc.1;refine VC.use (p:=w0.length<=1099511627776/\(eB w0=0->(w1<1->2=wE (w0,w1))/\(¬w1<1->(1073741824<w1->2=wE (w0,w1))/\(¬1073741824<w1->0=wE (w0,w1))))/\(¬eB w0=0->eB w0=wE (w0,w1))) (by kernel_rfl) ?_;refine⟨hc1,fun h=>⟨fun h1=>?_,fun h1=>⟨fun h2=>?_,fun h2=>?_⟩⟩,fun h=>?_⟩
 all_goals
  unfold wE;dsimp only;split <;> (try split) <;> omega
def OO:(List (List UInt8×Int))->List SV:=fun l=>[.one (.row (.pair .str (.int .i64)) l)]
def XK:(List (List UInt8×Int))->SV×List Prop:=fun l=>(.one (.int .i64 (dY l)),[l.length<=1099511627776,SmW l])
def Wp:Con:=⟨true,[some (.pair .str (.int .i64))],fun xs=>match xs with | [.one (.row (.pair .str (.int .i64)) l)]=>some (XK l) | _=>none⟩
noncomputable def Jb:GP:=cZ OO XK
theorem NC:∀a b,(OO a).map aA=(OO b).map aA->a=b:=by
 rintro a0 b0 h;simp only[OO,zK,List.map_nil,aA,aW,zG,AV.one.injEq,AV.agg.injEq,Lf.int.injEq,Lf.str.injEq,Lf.bool.injEq,Lf.vrow.injEq,and_true,true_and] at h;exact dD h
theorem OB:dz Jb Wp:=aX NC (fun _ _=>rfl) (fun _=>rfl) fun xs r h=>by
 simp only[Wp] at h;split at h
 .cases h;rename_i l;exact⟨l,rfl,rfl⟩
 .cases h
theorem XD {S:SC}(hB:SB S) (Wq:aI S 299 (az NE)) (h317:S.has 317 f317):aI S 317 (az Jb):=by
 refine prM hB [] [⟨299,NE,VK⟩] trivial ⟨⟨Wq,PH⟩,trivial⟩ h317 (fun _=>⟨rfl,rfl,rfl⟩) (fun l=>fun f id T L=>match f,id with
  |317,0=>some (.inv { i:Nat // i<=l.length/\∀j,j<i->gZ (l.getD j ([],0))=false } (fun x=>([(8,.one (.int .i64 x.1))],[])) (fun x=>l.length-x.1))
  |_,_=>none) 400 ?_
 rintro l hc;have hc1:l.length<=1099511627776:=hc.1;have hc2:SmW l:=hc.2.1;refine VC.use (p:=(∃x1:{ i:Nat // i<=l.length/\∀(j:Nat),j<i->gZ (l.getD j ([],0))=false },l=l/\(l.length:Int)=(l.length:Int)/\0=(x1.1:Int))/\(∀x1:{ i:Nat // i<=l.length/\∀(j:Nat),j<i->gZ (l.getD j ([],0))=false },((x1.1:Int)<(l.length:Int)->(0<=(x1.1:Int)/\(x1.1:Int)<(l.length:Int))/\List.length (l.getD x1.1 ([],0)).1<=1099511627776/\(wE ((l.getD x1.1 ([],0)).1,(l.getD x1.1 ([],0)).2)=0->aB ((x1.1:Int)+1)/\(∃x2:{ i:Nat // i<=l.length/\∀(j:Nat),j<i->gZ (l.getD j ([],0))=false },l.length-x2.1<l.length-x1.1/\l=l/\(l.length:Int)=(l.length:Int)/\(x1.1:Int)+1=(x2.1:Int)))/\(¬wE ((l.getD x1.1 ([],0)).1,(l.getD x1.1 ([],0)).2)=0->wE ((l.getD x1.1 ([],0)).1,(l.getD x1.1 ([],0)).2)=dY l))/\(¬(x1.1:Int)<(l.length:Int)->0=dY l))) (by kernel_rfl) ?_;refine⟨⟨⟨0,Nat.zero_le _,fun j h=>absurd h (zS _)⟩,rfl,rfl,rfl⟩,?_⟩;rintro⟨i,hi,ha⟩;dsimp only;exact⟨fun h=>⟨by omega,hc2.at i,fun h1=>⟨by unfold aB;omega,⟨i+1,by omega,oO ha (yn.2 h1)⟩,by show l.length-(i+1)<l.length-i;omega,rfl,rfl,rfl⟩,fun h1=>(yC (by omega) ha (NJ.2 h1)).symm⟩,fun h=>(qm fun j hj=>ha j (by omega)).symm⟩
def Rz:(List (List UInt8×Int))×(List (List UInt8×Int))->List SV:=fun(a,b)=>[.one (.row (.pair .str (.int .i64)) a),.one (.row (.pair .str (.int .i64)) b)]
def Xl:(List (List UInt8×Int))×(List (List UInt8×Int))->SV×List Prop:=fun(a,b)=>(.one (.bool (ol a b)),[a.length<=1099511627776,b.length<=1099511627776])
def UY:Con:=⟨true,[some (.pair .str (.int .i64)),some (.pair .str (.int .i64))],fun xs=>match xs with | [.one (.row (.pair .str (.int .i64)) a),.one (.row (.pair .str (.int .i64)) b)]=>some (Xl (a,b)) | _=>none⟩
noncomputable def Mt:GP:=cZ Rz Xl
theorem JK:∀a b,(Rz a).map aA=(Rz b).map aA->a=b:=by
 rintro⟨a0,a1⟩ ⟨b0,b1⟩ h;simp only[Rz,zK,List.map_nil,aA,aW,zG,AV.one.injEq,AV.agg.injEq,Lf.int.injEq,Lf.str.injEq,Lf.bool.injEq,Lf.vrow.injEq,and_true,true_and,and_assoc] at h;obtain⟨h0,h1⟩:=h;have h0:=dD h0;have h1:=dD h1;subst h0 h1
 rfl
theorem QO:dz Mt UY:=aX JK (fun⟨_,_⟩ ⟨_,_⟩=>rfl) (fun⟨_,_⟩=>rfl) fun xs r h=>by
 simp only[UY] at h;split at h
 .cases h;rename_i a b;exact⟨(a,b),rfl,rfl⟩
 .cases h
theorem YR {S:SC}(hB:SB S)  (h300:S.has 300 f300):aI S 300 (az Mt):=by
 refine prM hB [] [] trivial trivial h300 (fun⟨a,b⟩=>⟨rfl,rfl,rfl⟩) (fun(a,b)=>fun f id T L=>match f,id with
  |300,0=>some (.inv { i:Nat // i<=a.length/\∀j,j<i->a.getD j ([],0)=b.getD j ([],0) } (fun x=>([(13,.one (.int .i64 x.1))],[])) (fun x=>a.length-x.1))
  |_,_=>none) 400 ?_
 rintro⟨a,b⟩ hc;have hc1:a.length<=1099511627776:=hc.1;have hc2:b.length<=1099511627776:=hc.2.1;refine VC.use (p:=((a.length:Int)=(b.length:Int)->(∃x1:{ i:Nat // i<=a.length/\∀(j:Nat),j<i->a.getD j ([],0)=b.getD j ([],0) },a=a/\b=b/\(a.length:Int)=(a.length:Int)/\0=(x1.1:Int))/\(∀x1:{ i:Nat // i<=a.length/\∀(j:Nat),j<i->a.getD j ([],0)=b.getD j ([],0) },((x1.1:Int)<(a.length:Int)->(0<=(x1.1:Int)/\(x1.1:Int)<(a.length:Int))/\(0<=(x1.1:Int)/\(x1.1:Int)<(b.length:Int))/\((!mI (List.take 2 (List.drop 0 ((Ty.str.pair (Ty.int IntKind.i64)).cells (a.getD x1.1 ([],0))))) (List.take 2 (List.drop 0 ((Ty.str.pair (Ty.int IntKind.i64)).cells (b.getD x1.1 ([],0))))))=true->false=ol a b)/\(¬(!mI (List.take 2 (List.drop 0 ((Ty.str.pair (Ty.int IntKind.i64)).cells (a.getD x1.1 ([],0))))) (List.take 2 (List.drop 0 ((Ty.str.pair (Ty.int IntKind.i64)).cells (b.getD x1.1 ([],0))))))=true->aB ((x1.1:Int)+1)/\(∃x2:{ i:Nat // i<=a.length/\∀(j:Nat),j<i->a.getD j ([],0)=b.getD j ([],0) },a.length-x2.1<a.length-x1.1/\a=a/\b=b/\(a.length:Int)=(a.length:Int)/\(x1.1:Int)+1=(x2.1:Int))))/\(¬(x1.1:Int)<(a.length:Int)->true=ol a b)))/\(¬(a.length:Int)=(b.length:Int)->false=ol a b)) (by kernel_rfl) ?_;simp only[Qv];refine⟨fun hl=>⟨⟨⟨0,Nat.zero_le _,fun j h=>absurd h (zS _)⟩,by trivial,by trivial,by trivial,rfl⟩,?_⟩,fun hl=>?_⟩
 .rintro⟨i,hi,ha⟩;dsimp only;refine⟨fun h=>⟨by omega,by omega,fun h1=>?_,fun h1=>⟨by unfold aB;omega,⟨i+1,by omega,oO ha (by simpa using h1)⟩,by show a.length-(i+1)<a.length-i;omega,by trivial,by trivial,by trivial,rfl⟩⟩,fun h=>?_⟩
  .unfold ol;rw[decide_eq_false];rintro rfl;simp at h1
  .unfold ol;rw[NP hl fun j hj=>ha j (by omega)];simp
 .unfold ol;rw[decide_eq_false];rintro rfl;exact hl rfl
end Go.EA
