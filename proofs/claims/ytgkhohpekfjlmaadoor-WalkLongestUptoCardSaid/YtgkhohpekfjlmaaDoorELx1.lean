/- Layer 9: whether words may be, are normal; words each once, in order. Conditions: none. -/
import Derived.Test.YtgkhohpekfjlmaaDoorEK12
import Derived.Test.YtgkhohpekfjlmaaDoorERu
import Derived.Test.YtgkhohpekfjlmaaDoorERf
import Derived.KernelRfl
set_option linter.unusedVariables false
set_option linter.unusedSimpArgs false
set_option maxRecDepth 100000
set_option maxHeartbeats 0
namespace Go.EA
open F
def OZ:List UInt8×Int->List SV:=fun(w0,w1)=>[.agg [.str w0,.int .i64 w1]]
def YF:List UInt8×Int->SV×List Prop:=fun(w0,w1)=>(.one (.int .i64 (wE (w0,w1))),[w0.length<=1099511627776])
def SN:Con:=⟨true,[none],fun xs=>match xs with | [.agg [.str w0,.int .i64 w1]]=>some (YF (w0,w1)) | _=>none⟩
noncomputable def Ep:GP:=di OZ YF
theorem Jm:∀a b,(OZ a).map aB=(OZ b).map aB->a=b:=by
 rintro⟨a0,a1⟩ ⟨b0,b1⟩ h;simp only[OZ,zK,List.map_nil,aB,aW,zG,AV.one.injEq,AV.agg.injEq,Lf.int.injEq,Lf.str.injEq,Lf.bool.injEq,Lf.vrow.injEq,and_true,true_and,and_assoc] at h;obtain⟨h0,h1⟩:=h;subst h0 h1
 rfl
theorem Ga:dC Ep SN:=aX Jm (fun⟨_,_⟩ ⟨_,_⟩=>rfl) (fun⟨_,_⟩=>rfl) fun xs r h=>by
 simp only[SN] at h;split at h
 .cases h;rename_i w0 w1;exact⟨(w0,w1),rfl,rfl⟩
 .cases h
theorem Yz {S:SC}(hB:SB S) (q20:aM S 20 (aA G20)) (h298:S.has 298 f298):aM S 298 (aA Ep):=by
 refine prM hB [] [⟨20,G20,K20⟩] trivial ⟨⟨q20,UX⟩,trivial⟩ h298 (fun⟨w0,w1⟩=>⟨rfl,rfl,rfl⟩) (fun(w0,w1)=>fun _ _ _ _=>none) 400 ?_;rintro⟨w0,w1⟩ hc;have hc1:w0.length<=1099511627776:=hc.1;refine VC.use (p:=w0.length<=1099511627776/\(ek w0=0->(w1<1->2=wE (w0,w1))/\(¬w1<1->(1073741824<w1->2=wE (w0,w1))/\(¬1073741824<w1->ek w0=wE (w0,w1))))/\(¬ek w0=0->ek w0=wE (w0,w1))) (by kernel_rfl) ?_;refine⟨hc1,fun h=>⟨fun h1=>?_,fun h1=>⟨fun h2=>?_,fun h2=>?_⟩⟩,fun h=>?_⟩
 all_goals
  unfold wE;dsimp only;split <;> (try split) <;> omega
def OW:List UInt8×Int->List SV:=fun(w0,w1)=>[.agg [.str w0,.int .i64 w1]]
def XV:List UInt8×Int->SV×List Prop:=fun(w0,w1)=>(.one (.bool (ic (w0,w1))),[w0.length<=1099511627776])
def WO:Con:=⟨true,[none],fun xs=>match xs with | [.agg [.str w0,.int .i64 w1]]=>some (XV (w0,w1)) | _=>none⟩
noncomputable def Mr:GP:=di OW XV
theorem Ou:∀a b,(OW a).map aB=(OW b).map aB->a=b:=by
 rintro⟨a0,a1⟩ ⟨b0,b1⟩ h;simp only[OW,zK,List.map_nil,aB,aW,zG,AV.one.injEq,AV.agg.injEq,Lf.int.injEq,Lf.str.injEq,Lf.bool.injEq,Lf.vrow.injEq,and_true,true_and,and_assoc] at h;obtain⟨h0,h1⟩:=h;subst h0 h1
 rfl
theorem Sk:dC Mr WO:=aX Ou (fun⟨_,_⟩ ⟨_,_⟩=>rfl) (fun⟨_,_⟩=>rfl) fun xs r h=>by
 simp only[WO] at h;split at h
 .cases h;rename_i w0 w1;exact⟨(w0,w1),rfl,rfl⟩
 .cases h
theorem Xt {S:SC}(hB:SB S) (Ht:aM S 298 (aA Ep)) (h337:S.has 337 f337):aM S 337 (aA Mr):=by
 refine prM hB [] [⟨298,Ep,SN⟩] trivial ⟨⟨Ht,Ga⟩,trivial⟩ h337 (fun⟨w0,w1⟩=>⟨rfl,rfl,rfl⟩) (fun(w0,w1)=>fun _ _ _ _=>none) 400 ?_;rintro⟨w0,w1⟩ hc;have hc1:w0.length<=1099511627776:=hc.1;refine VC.use (p:=w0.length<=1099511627776/\(!decide (wE (w0,w1)=0))=ic (w0,w1)) (by kernel_rfl) ?_;exact⟨hc1,rfl⟩
def PN:(List (List UInt8×Int))->List SV:=fun l=>[.one (.row (.pair .str (.int .i64)) l),.one (.fn 337 [])]
def Xk:(List (List UInt8×Int))->SV×List Prop:=fun l=>(.one (.int .i64 (lm l)),[l.length<=1099511627776,SmW l])
def VX:Con:=⟨true,[some (.pair .str (.int .i64)),none],fun xs=>match xs with | [.one (.row (.pair .str (.int .i64)) l),.one (.fn 337 [])]=>some (Xk l) | _=>none⟩
noncomputable def JX:GP:=di PN Xk
theorem MV:∀a b,(PN a).map aB=(PN b).map aB->a=b:=by
 rintro a0 b0 h;simp only[PN,zK,List.map_nil,aB,aW,zG,AV.one.injEq,AV.agg.injEq,Lf.int.injEq,Lf.str.injEq,Lf.bool.injEq,Lf.vrow.injEq,and_true,true_and] at h;exact dw h
theorem Tp:dC JX VX:=aX MV (fun _ _=>rfl) (fun _=>rfl) fun xs r h=>by
 simp only[VX] at h;split at h
 .cases h;rename_i l;exact⟨l,rfl,rfl⟩
 .cases h
theorem Yx {S:SC}(hB:SB S) (Wi:aM S 337 (aA Mr)) (h336:S.has 336 f336):aM S 336 (aA JX):=by
 refine prM hB [] [⟨337,Mr,WO⟩] trivial ⟨⟨Wi,Sk⟩,trivial⟩ h336 (fun _=>⟨rfl,rfl,rfl⟩) (fun l=>fun f id T L=>match f,id with
  |336,0=>some (.inv { i:Nat // i<=l.length/\∀j,j<i->ic (l.getD j ([],0))=false } (fun x=>([(8,.one (.int .i64 x.1))],[])) (fun x=>l.length-x.1))
  |_,_=>none) 400 ?_
 rintro l hc;have hc1:l.length<=1099511627776:=hc.1;have hc2:SmW l:=hc.2.1;refine VC.use (p:=(∃x1:{ i:Nat // i<=l.length/\∀(j:Nat),j<i->ic (l.getD j ([],0))=false },l=l/\(l.length:Int)=(l.length:Int)/\0=(x1.1:Int))/\(∀x1:{ i:Nat // i<=l.length/\∀(j:Nat),j<i->ic (l.getD j ([],0))=false },((x1.1:Int)<(l.length:Int)->(0<=(x1.1:Int)/\(x1.1:Int)<(l.length:Int))/\List.length (l.getD x1.1 ([],0)).1<=1099511627776/\(ic ((l.getD x1.1 ([],0)).1,(l.getD x1.1 ([],0)).2)=true->(x1.1:Int)=lm l)/\(¬ic ((l.getD x1.1 ([],0)).1,(l.getD x1.1 ([],0)).2)=true->aF ((x1.1:Int)+1)/\(∃x2:{ i:Nat // i<=l.length/\∀(j:Nat),j<i->ic (l.getD j ([],0))=false },l.length-x2.1<l.length-x1.1/\l=l/\(l.length:Int)=(l.length:Int)/\(x1.1:Int)+1=(x2.1:Int))))/\(¬(x1.1:Int)<(l.length:Int) -> -1=lm l))) (by kernel_rfl) ?_;refine⟨⟨⟨0,Nat.zero_le _,fun j h=>absurd h (zS _)⟩,rfl,rfl,rfl⟩,?_⟩;rintro⟨i,hi,ha⟩;dsimp only;exact⟨fun h=>⟨by omega,hc2.at i,fun h1=>(MN (by omega) ha h1).symm,fun h1=>⟨by unfold aF;omega,⟨i+1,by omega,tJ ha (by simpa using h1)⟩,by show l.length-(i+1)<l.length-i;omega,rfl,rfl,rfl⟩⟩,fun h=>(Jd fun j hj=>ha j (by omega)).symm⟩
def PY:(List (List UInt8×Int))->List SV:=fun l=>[.one (.row (.pair .str (.int .i64)) l)]
def Yk:(List (List UInt8×Int))->SV×List Prop:=fun l=>(.one (.int .i64 (dX l)),[l.length<=1099511627776,SmW l])
def UF:Con:=⟨true,[some (.pair .str (.int .i64))],fun xs=>match xs with | [.one (.row (.pair .str (.int .i64)) l)]=>some (Yk l) | _=>none⟩
noncomputable def JA:GP:=di PY Yk
theorem Ol:∀a b,(PY a).map aB=(PY b).map aB->a=b:=by
 rintro a0 b0 h;simp only[PY,zK,List.map_nil,aB,aW,zG,AV.one.injEq,AV.agg.injEq,Lf.int.injEq,Lf.str.injEq,Lf.bool.injEq,Lf.vrow.injEq,and_true,true_and] at h;exact dw h
theorem Tj:dC JA UF:=aX Ol (fun _ _=>rfl) (fun _=>rfl) fun xs r h=>by
 simp only[UF] at h;split at h
 .cases h;rename_i l;exact⟨l,rfl,rfl⟩
 .cases h
theorem YS {S:SC}(hB:SB S) (VE:aM S 336 (aA JX)) (Ht:aM S 298 (aA Ep)) (h318:S.has 318 f318):aM S 318 (aA JA):=by
 refine prM hB [] [⟨336,JX,VX⟩,⟨298,Ep,SN⟩] trivial ⟨⟨VE,Tp⟩,⟨Ht,Ga⟩,trivial⟩ h318 (fun _=>⟨rfl,rfl,rfl⟩) (fun l=>fun _ _ _ _=>none) 400 ?_;rintro l hc;have hc1:l.length<=1099511627776:=hc.1;have hc2:SmW l:=hc.2.1;refine VC.use (p:=l.length<=1099511627776/\SmW l/\(lm l<0->0=dX l)/\(¬lm l<0->(0<=lm l/\lm l<(l.length:Int))/\List.length (l.getD (lm l).toNat ([],0)).1<=1099511627776/\wE ((l.getD (lm l).toNat ([],0)).1,(l.getD (lm l).toNat ([],0)).2)=dX l)) (by kernel_rfl) ?_;refine⟨hc1,hc2,?_⟩;rcases Iu l with ⟨h1,h2⟩ | ⟨i,h1,h2,h3⟩
 .rw[h1,h2];exact⟨fun _=>rfl,fun h=>absurd h (by decide)⟩
 .rw[h2];exact⟨fun h=>absurd h (by omega),fun _=>⟨by omega,hc2.at _,h3⟩⟩
def Rt:(List (List UInt8×Int))->List SV:=fun l=>[.one (.row (.pair .str (.int .i64)) l)]
def Yr:(List (List UInt8×Int))->SV×List Prop:=fun l=>(.one (.int .i64 (isE l)),[l.length<=1099511627776,SmW l])
def QK:Con:=⟨true,[some (.pair .str (.int .i64))],fun xs=>match xs with | [.one (.row (.pair .str (.int .i64)) l)]=>some (Yr l) | _=>none⟩
noncomputable def DV:GP:=di Rt Yr
theorem Mm:∀a b,(Rt a).map aB=(Rt b).map aB->a=b:=by
 rintro a0 b0 h;simp only[Rt,zK,List.map_nil,aB,aW,zG,AV.one.injEq,AV.agg.injEq,Lf.int.injEq,Lf.str.injEq,Lf.bool.injEq,Lf.vrow.injEq,and_true,true_and] at h;exact dw h
theorem Fh:dC DV QK:=aX Mm (fun _ _=>rfl) (fun _=>rfl) fun xs r h=>by
 simp only[QK] at h;split at h
 .cases h;rename_i l;exact⟨l,rfl,rfl⟩
 .cases h
theorem Xp {S:SC}(hB:SB S) (WQ:aM S 318 (aA JA)) (h296:S.has 296 f296):aM S 296 (aA DV):=by
 refine prM hB [] [⟨318,JA,UF⟩] trivial ⟨⟨WQ,Tj⟩,trivial⟩ h296 (fun _=>⟨rfl,rfl,rfl⟩) (fun l=>fun f id T L=>match f,id with
  |296,0=>some (.inv { i:Nat // i<=l.length/\∀j,j+1<i->ltW (l.getD j ([],0)) (l.getD (j+1) ([],0))=true } (fun x=>([(12,.one (.int .i64 x.1))],[])) (fun x=>l.length-x.1))
  |_,_=>none) 400 ?_
 rintro l hc;have hc1:l.length<=1099511627776:=hc.1;have hc2:SmW l:=hc.2.1;refine VC.use (p:=l.length<=1099511627776/\SmW l/\(dX l=0->(∃x1:{ i:Nat // i<=l.length/\∀(j:Nat),j+1<i->ltW (l.getD j ([],0)) (l.getD (j+1) ([],0))=true },l=l/\(l.length:Int)=(l.length:Int)/\0=(x1.1:Int))/\(∀x1:{ i:Nat // i<=l.length/\∀(j:Nat),j+1<i->ltW (l.getD j ([],0)) (l.getD (j+1) ([],0))=true },((x1.1:Int)<(l.length:Int)->(0<(x1.1:Int)->aF ((x1.1:Int)-1)/\(0<=(x1.1:Int)-1/\(x1.1:Int)-1<(l.length:Int))/\(0<=(x1.1:Int)/\(x1.1:Int)<(l.length:Int))/\((!aO (l.getD ((x1.1:Int)-1).toNat ([],0)).1 (l.getD x1.1 ([],0)).1)=true->7=isE l)/\(¬(!aO (l.getD ((x1.1:Int)-1).toNat ([],0)).1 (l.getD x1.1 ([],0)).1)=true->aF ((x1.1:Int)+1)/\(∃x2:{ i:Nat // i<=l.length/\∀(j:Nat),j+1<i->ltW (l.getD j ([],0)) (l.getD (j+1) ([],0))=true },l.length-x2.1<l.length-x1.1/\l=l/\(l.length:Int)=(l.length:Int)/\(x1.1:Int)+1=(x2.1:Int))))/\(¬0<(x1.1:Int)->aF ((x1.1:Int)+1)/\(∃x2:{ i:Nat // i<=l.length/\∀(j:Nat),j+1<i->ltW (l.getD j ([],0)) (l.getD (j+1) ([],0))=true },l.length-x2.1<l.length-x1.1/\l=l/\(l.length:Int)=(l.length:Int)/\(x1.1:Int)+1=(x2.1:Int))))/\(¬(x1.1:Int)<(l.length:Int)->(65536<(l.length:Int)->6=isE l)/\(¬65536<(l.length:Int)->0=isE l))))/\(¬dX l=0->dX l=isE l)) (by kernel_rfl) ?_;refine⟨hc1,hc2,fun he=>⟨⟨⟨0,Nat.zero_le _,fun j h=>absurd h (by omega)⟩,rfl,rfl,rfl⟩,?_⟩,fun he=>?_⟩
 .rintro⟨i,hi,ha⟩;dsimp only;refine⟨fun h=>⟨fun h0=>⟨by unfold aF;omega,by omega,by omega,YI he h0 (by omega),fun h1=>⟨by unfold aF;omega,⟨i+1,by omega,Ac ha fun _=>h1⟩,by show l.length-(i+1)<l.length-i;omega,rfl,rfl,rfl⟩⟩,fun h0=>⟨by unfold aF;omega,⟨i+1,by omega,Ac ha fun h1=>absurd h1 h0⟩,by show l.length-(i+1)<l.length-i;omega,rfl,rfl,rfl⟩⟩,fun h=>?_⟩;rw[OG he fun j hj=>ha j (by omega)];exact⟨fun h1=>by rw[if_pos (by omega)],fun h1=>by rw[if_neg (by omega)]⟩
 .unfold isE;rw[if_neg he]
def Sq:List UInt8×Int->List SV:=fun(w0,w1)=>[.agg [.str w0,.int .i64 w1]]
def Yl:List UInt8×Int->SV×List Prop:=fun(w0,w1)=>(.one (.int .i64 (wE (w0,w1))),[w0.length<=1099511627776])
def VK:Con:=⟨true,[none],fun xs=>match xs with | [.agg [.str w0,.int .i64 w1]]=>some (Yl (w0,w1)) | _=>none⟩
noncomputable def KI:GP:=di Sq Yl
theorem KA:∀a b,(Sq a).map aB=(Sq b).map aB->a=b:=by
 rintro⟨a0,a1⟩ ⟨b0,b1⟩ h;simp only[Sq,zK,List.map_nil,aB,aW,zG,AV.one.injEq,AV.agg.injEq,Lf.int.injEq,Lf.str.injEq,Lf.bool.injEq,Lf.vrow.injEq,and_true,true_and,and_assoc] at h;obtain⟨h0,h1⟩:=h;subst h0 h1
 rfl
theorem PG:dC KI VK:=aX KA (fun⟨_,_⟩ ⟨_,_⟩=>rfl) (fun⟨_,_⟩=>rfl) fun xs r h=>by
 simp only[VK] at h;split at h
 .cases h;rename_i w0 w1;exact⟨(w0,w1),rfl,rfl⟩
 .cases h
theorem Yh {S:SC}(hB:SB S) (q21:aM S 21 (aA G21)) (h299:S.has 299 f299):aM S 299 (aA KI):=by
 refine prM hB [] [⟨21,G21,K21⟩] trivial ⟨⟨q21,Ue⟩,trivial⟩ h299 (fun⟨w0,w1⟩=>⟨rfl,rfl,rfl⟩) (fun(w0,w1)=>fun _ _ _ _=>none) 400 ?_;rintro⟨w0,w1⟩ hc;have hc1:w0.length<=1099511627776:=hc.1;refine VC.use (p:=w0.length<=1099511627776/\(ek w0=0->(w1<1->2=wE (w0,w1))/\(¬w1<1->(1073741824<w1->2=wE (w0,w1))/\(¬1073741824<w1->0=wE (w0,w1))))/\(¬ek w0=0->ek w0=wE (w0,w1))) (by kernel_rfl) ?_;refine⟨hc1,fun h=>⟨fun h1=>?_,fun h1=>⟨fun h2=>?_,fun h2=>?_⟩⟩,fun h=>?_⟩
 all_goals
  unfold wE;dsimp only;split <;> (try split) <;> omega
def PE:(List (List UInt8×Int))->List SV:=fun l=>[.one (.row (.pair .str (.int .i64)) l)]
def XE:(List (List UInt8×Int))->SV×List Prop:=fun l=>(.one (.int .i64 (dX l)),[l.length<=1099511627776,SmW l])
def Va:Con:=⟨true,[some (.pair .str (.int .i64))],fun xs=>match xs with | [.one (.row (.pair .str (.int .i64)) l)]=>some (XE l) | _=>none⟩
noncomputable def Le:GP:=di PE XE
theorem MM:∀a b,(PE a).map aB=(PE b).map aB->a=b:=by
 rintro a0 b0 h;simp only[PE,zK,List.map_nil,aB,aW,zG,AV.one.injEq,AV.agg.injEq,Lf.int.injEq,Lf.str.injEq,Lf.bool.injEq,Lf.vrow.injEq,and_true,true_and] at h;exact dw h
theorem Sl:dC Le Va:=aX MM (fun _ _=>rfl) (fun _=>rfl) fun xs r h=>by
 simp only[Va] at h;split at h
 .cases h;rename_i l;exact⟨l,rfl,rfl⟩
 .cases h
theorem YY {S:SC}(hB:SB S) (WC:aM S 299 (aA KI)) (h317:S.has 317 f317):aM S 317 (aA Le):=by
 refine prM hB [] [⟨299,KI,VK⟩] trivial ⟨⟨WC,PG⟩,trivial⟩ h317 (fun _=>⟨rfl,rfl,rfl⟩) (fun l=>fun f id T L=>match f,id with
  |317,0=>some (.inv { i:Nat // i<=l.length/\∀j,j<i->ic (l.getD j ([],0))=false } (fun x=>([(8,.one (.int .i64 x.1))],[])) (fun x=>l.length-x.1))
  |_,_=>none) 400 ?_
 rintro l hc;have hc1:l.length<=1099511627776:=hc.1;have hc2:SmW l:=hc.2.1;refine VC.use (p:=(∃x1:{ i:Nat // i<=l.length/\∀(j:Nat),j<i->ic (l.getD j ([],0))=false },l=l/\(l.length:Int)=(l.length:Int)/\0=(x1.1:Int))/\(∀x1:{ i:Nat // i<=l.length/\∀(j:Nat),j<i->ic (l.getD j ([],0))=false },((x1.1:Int)<(l.length:Int)->(0<=(x1.1:Int)/\(x1.1:Int)<(l.length:Int))/\List.length (l.getD x1.1 ([],0)).1<=1099511627776/\(wE ((l.getD x1.1 ([],0)).1,(l.getD x1.1 ([],0)).2)=0->aF ((x1.1:Int)+1)/\(∃x2:{ i:Nat // i<=l.length/\∀(j:Nat),j<i->ic (l.getD j ([],0))=false },l.length-x2.1<l.length-x1.1/\l=l/\(l.length:Int)=(l.length:Int)/\(x1.1:Int)+1=(x2.1:Int)))/\(¬wE ((l.getD x1.1 ([],0)).1,(l.getD x1.1 ([],0)).2)=0->wE ((l.getD x1.1 ([],0)).1,(l.getD x1.1 ([],0)).2)=dX l))/\(¬(x1.1:Int)<(l.length:Int)->0=dX l))) (by kernel_rfl) ?_;refine⟨⟨⟨0,Nat.zero_le _,fun j h=>absurd h (zS _)⟩,rfl,rfl,rfl⟩,?_⟩;rintro⟨i,hi,ha⟩;dsimp only;exact⟨fun h=>⟨by omega,hc2.at i,fun h1=>⟨by unfold aF;omega,⟨i+1,by omega,tJ ha (xz.2 h1)⟩,by show l.length-(i+1)<l.length-i;omega,rfl,rfl,rfl⟩,fun h1=>(xB (by omega) ha (KE.2 h1)).symm⟩,fun h=>(qD fun j hj=>ha j (by omega)).symm⟩
end Go.EA
