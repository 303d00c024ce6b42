/- Layer 9: whether words may be, are normal; words each once, in order. Conditions: none. -/
import Derived.Test.YtgkhohpekfjlmaaDoorEK12
import Derived.Test.YtgkhohpekfjlmaaDoorERu
import Derived.Test.YtgkhohpekfjlmaaDoorERf
import Derived.KernelRfl
set_option linter.unusedVariables false
set_option linter.unusedSimpArgs false
set_option maxRecDepth 100000
set_option maxHeartbeats 0
namespace Go.EA
open F
def Tp:List UInt8×Int->List SV:=fun(w0,w1)=>[.agg [.str w0,.int .i64 w1]]
def aaR:List UInt8×Int->SV×List Prop:=fun(w0,w1)=>(.one (.int .i64 (wE (w0,w1))),[w0.length<=1099511627776])
def Qp:Con:=⟨true,[none],fun xs=>match xs with | [.agg [.str w0,.int .i64 w1]]=>some (aaR (w0,w1)) | _=>none⟩
noncomputable def Fb:GP:=bZ Tp aaR
theorem KF:∀a b,(Tp a).map aB=(Tp b).map aB->a=b:=by
 rintro⟨a0,a1⟩ ⟨b0,b1⟩ h;simp only[Tp,zK,List.map_nil,aB,aS,zG,AV.one.injEq,AV.agg.injEq,Lf.int.injEq,Lf.str.injEq,Lf.bool.injEq,Lf.vrow.injEq,and_true,true_and,and_assoc] at h;obtain⟨h0,h1⟩:=h;subst h0 h1
 rfl
theorem GZ:df Fb Qp:=aR KF (fun⟨_,_⟩ ⟨_,_⟩=>rfl) (fun⟨_,_⟩=>rfl) fun xs r h=>by
 simp only[Qp] at h;split at h
 .cases h;rename_i w0 w1;exact⟨(w0,w1),rfl,rfl⟩
 .cases h
theorem Zy {S:SC}(hB:SB S) (q20:aG S 20 (az G20)) (h298:S.has 298 f298):aG S 298 (az Fb):=by
 refine prM hB [] [⟨20,G20,K20⟩] trivial ⟨⟨q20,Xk⟩,trivial⟩ h298 (fun⟨w0,w1⟩=>⟨rfl,rfl,rfl⟩) (fun(w0,w1)=>fun _ _ _ _=>none) 400 ?_;rintro⟨w0,w1⟩ hc;have hc1:w0.length<=1099511627776:=hc.1;refine VC.use (p:=w0.length<=1099511627776/\(eF w0=0->(w1<1->2=wE (w0,w1))/\(¬w1<1->(1073741824<w1->2=wE (w0,w1))/\(¬1073741824<w1->eF w0=wE (w0,w1))))/\(¬eF w0=0->eF w0=wE (w0,w1))) (by kernel_rfl) ?_;refine⟨hc1,fun h=>⟨fun h1=>?_,fun h1=>⟨fun h2=>?_,fun h2=>?_⟩⟩,fun h=>?_⟩
 all_goals
  unfold wE;dsimp only;split <;> (try split) <;> omega
def PZ:List UInt8×Int->List SV:=fun(w0,w1)=>[.agg [.str w0,.int .i64 w1]]
def ZT:List UInt8×Int->SV×List Prop:=fun(w0,w1)=>(.one (.bool (iq (w0,w1))),[w0.length<=1099511627776])
def Vk:Con:=⟨true,[none],fun xs=>match xs with | [.agg [.str w0,.int .i64 w1]]=>some (ZT (w0,w1)) | _=>none⟩
noncomputable def OJ:GP:=bZ PZ ZT
theorem KI:∀a b,(PZ a).map aB=(PZ b).map aB->a=b:=by
 rintro⟨a0,a1⟩ ⟨b0,b1⟩ h;simp only[PZ,zK,List.map_nil,aB,aS,zG,AV.one.injEq,AV.agg.injEq,Lf.int.injEq,Lf.str.injEq,Lf.bool.injEq,Lf.vrow.injEq,and_true,true_and,and_assoc] at h;obtain⟨h0,h1⟩:=h;subst h0 h1
 rfl
theorem Sv:df OJ Vk:=aR KI (fun⟨_,_⟩ ⟨_,_⟩=>rfl) (fun⟨_,_⟩=>rfl) fun xs r h=>by
 simp only[Vk] at h;split at h
 .cases h;rename_i w0 w1;exact⟨(w0,w1),rfl,rfl⟩
 .cases h
theorem aae {S:SC}(hB:SB S) (Iu:aG S 298 (az Fb)) (h337:S.has 337 f337):aG S 337 (az OJ):=by
 refine prM hB [] [⟨298,Fb,Qp⟩] trivial ⟨⟨Iu,GZ⟩,trivial⟩ h337 (fun⟨w0,w1⟩=>⟨rfl,rfl,rfl⟩) (fun(w0,w1)=>fun _ _ _ _=>none) 400 ?_;rintro⟨w0,w1⟩ hc;have hc1:w0.length<=1099511627776:=hc.1;refine VC.use (p:=w0.length<=1099511627776/\(!decide (wE (w0,w1)=0))=iq (w0,w1)) (by kernel_rfl) ?_;exact⟨hc1,rfl⟩
def Uu:(List (List UInt8×Int))->List SV:=fun l=>[.one (.row (.pair .str (.int .i64)) l),.one (.fn 337 [])]
def aaI:(List (List UInt8×Int))->SV×List Prop:=fun l=>(.one (.int .i64 (lG l)),[l.length<=1099511627776,SmW l])
def Yc:Con:=⟨true,[some (.pair .str (.int .i64)),none],fun xs=>match xs with | [.one (.row (.pair .str (.int .i64)) l),.one (.fn 337 [])]=>some (aaI l) | _=>none⟩
noncomputable def Pk:GP:=bZ Uu aaI
theorem NE:∀a b,(Uu a).map aB=(Uu b).map aB->a=b:=by
 rintro a0 b0 h;simp only[Uu,zK,List.map_nil,aB,aS,zG,AV.one.injEq,AV.agg.injEq,Lf.int.injEq,Lf.str.injEq,Lf.bool.injEq,Lf.vrow.injEq,and_true,true_and] at h;exact bT h
theorem Ta:df Pk Yc:=aR NE (fun _ _=>rfl) (fun _=>rfl) fun xs r h=>by
 simp only[Yc] at h;split at h
 .cases h;rename_i l;exact⟨l,rfl,rfl⟩
 .cases h
theorem aar {S:SC}(hB:SB S) (Wj:aG S 337 (az OJ)) (h336:S.has 336 f336):aG S 336 (az Pk):=by
 refine prM hB [] [⟨337,OJ,Vk⟩] trivial ⟨⟨Wj,Sv⟩,trivial⟩ h336 (fun _=>⟨rfl,rfl,rfl⟩) (fun l=>fun f id T L=>match f,id with
  |336,0=>some (.inv { i:Nat // i<=l.length/\∀j,j<i->iq (l.getD j ([],0))=false } (fun x=>([(8,.one (.int .i64 x.1))],[])) (fun x=>l.length-x.1))
  |_,_=>none) 400 ?_
 rintro l hc;have hc1:l.length<=1099511627776:=hc.1;have hc2:SmW l:=hc.2.1;refine VC.use (p:=(∃x1:{ i:Nat // i<=l.length/\∀(j:Nat),j<i->iq (l.getD j ([],0))=false },l=l/\(l.length:Int)=(l.length:Int)/\0=(x1.1:Int))/\(∀x1:{ i:Nat // i<=l.length/\∀(j:Nat),j<i->iq (l.getD j ([],0))=false },((x1.1:Int)<(l.length:Int)->(0<=(x1.1:Int)/\(x1.1:Int)<(l.length:Int))/\List.length (l.getD x1.1 ([],0)).1<=1099511627776/\(iq ((l.getD x1.1 ([],0)).1,(l.getD x1.1 ([],0)).2)=true->(x1.1:Int)=lG l)/\(¬iq ((l.getD x1.1 ([],0)).1,(l.getD x1.1 ([],0)).2)=true->aA ((x1.1:Int)+1)/\(∃x2:{ i:Nat // i<=l.length/\∀(j:Nat),j<i->iq (l.getD j ([],0))=false },l.length-x2.1<l.length-x1.1/\l=l/\(l.length:Int)=(l.length:Int)/\(x1.1:Int)+1=(x2.1:Int))))/\(¬(x1.1:Int)<(l.length:Int) -> -1=lG l))) (by kernel_rfl) ?_;refine⟨⟨⟨0,Nat.zero_le _,fun j h=>absurd h (zS _)⟩,rfl,rfl,rfl⟩,?_⟩;rintro⟨i,hi,ha⟩;dsimp only;exact⟨fun h=>⟨by omega,hc2.at i,fun h1=>(NC (by omega) ha h1).symm,fun h1=>⟨by unfold aA;omega,⟨i+1,by omega,pW ha (by simpa using h1)⟩,by show l.length-(i+1)<l.length-i;omega,rfl,rfl,rfl⟩⟩,fun h=>(JE fun j hj=>ha j (by omega)).symm⟩
def QC:(List (List UInt8×Int))->List SV:=fun l=>[.one (.row (.pair .str (.int .i64)) l)]
def Ze:(List (List UInt8×Int))->SV×List Prop:=fun l=>(.one (.int .i64 (eu l)),[l.length<=1099511627776,SmW l])
def Yk:Con:=⟨true,[some (.pair .str (.int .i64))],fun xs=>match xs with | [.one (.row (.pair .str (.int .i64)) l)]=>some (Ze l) | _=>none⟩
noncomputable def OC:GP:=bZ QC Ze
theorem Nw:∀a b,(QC a).map aB=(QC b).map aB->a=b:=by
 rintro a0 b0 h;simp only[QC,zK,List.map_nil,aB,aS,zG,AV.one.injEq,AV.agg.injEq,Lf.int.injEq,Lf.str.injEq,Lf.bool.injEq,Lf.vrow.injEq,and_true,true_and] at h;exact bT h
theorem Sm:df OC Yk:=aR Nw (fun _ _=>rfl) (fun _=>rfl) fun xs r h=>by
 simp only[Yk] at h;split at h
 .cases h;rename_i l;exact⟨l,rfl,rfl⟩
 .cases h
theorem ZU {S:SC}(hB:SB S) (Xx:aG S 336 (az Pk)) (Iu:aG S 298 (az Fb)) (h318:S.has 318 f318):aG S 318 (az OC):=by
 refine prM hB [] [⟨336,Pk,Yc⟩,⟨298,Fb,Qp⟩] trivial ⟨⟨Xx,Ta⟩,⟨Iu,GZ⟩,trivial⟩ h318 (fun _=>⟨rfl,rfl,rfl⟩) (fun l=>fun _ _ _ _=>none) 400 ?_;rintro l hc;have hc1:l.length<=1099511627776:=hc.1;have hc2:SmW l:=hc.2.1;refine VC.use (p:=l.length<=1099511627776/\SmW l/\(lG l<0->0=eu l)/\(¬lG l<0->(0<=lG l/\lG l<(l.length:Int))/\List.length (l.getD (lG l).toNat ([],0)).1<=1099511627776/\wE ((l.getD (lG l).toNat ([],0)).1,(l.getD (lG l).toNat ([],0)).2)=eu l)) (by kernel_rfl) ?_;refine⟨hc1,hc2,?_⟩;rcases Ip l with ⟨h1,h2⟩ | ⟨i,h1,h2,h3⟩
 .rw[h1,h2];exact⟨fun _=>rfl,fun h=>absurd h (by decide)⟩
 .rw[h2];exact⟨fun h=>absurd h (by omega),fun _=>⟨by omega,hc2.at _,h3⟩⟩
def Qx:(List (List UInt8×Int))->List SV:=fun l=>[.one (.row (.pair .str (.int .i64)) l)]
def ZQ:(List (List UInt8×Int))->SV×List Prop:=fun l=>(.one (.int .i64 (isE l)),[l.length<=1099511627776,SmW l])
def Yj:Con:=⟨true,[some (.pair .str (.int .i64))],fun xs=>match xs with | [.one (.row (.pair .str (.int .i64)) l)]=>some (ZQ l) | _=>none⟩
noncomputable def MN:GP:=bZ Qx ZQ
theorem NQ:∀a b,(Qx a).map aB=(Qx b).map aB->a=b:=by
 rintro a0 b0 h;simp only[Qx,zK,List.map_nil,aB,aS,zG,AV.one.injEq,AV.agg.injEq,Lf.int.injEq,Lf.str.injEq,Lf.bool.injEq,Lf.vrow.injEq,and_true,true_and] at h;exact bT h
theorem PV:df MN Yj:=aR NQ (fun _ _=>rfl) (fun _=>rfl) fun xs r h=>by
 simp only[Yj] at h;split at h
 .cases h;rename_i l;exact⟨l,rfl,rfl⟩
 .cases h
theorem Zz {S:SC}(hB:SB S) (XT:aG S 318 (az OC)) (h296:S.has 296 f296):aG S 296 (az MN):=by
 refine prM hB [] [⟨318,OC,Yk⟩] trivial ⟨⟨XT,Sm⟩,trivial⟩ h296 (fun _=>⟨rfl,rfl,rfl⟩) (fun l=>fun f id T L=>match f,id with
  |296,0=>some (.inv { i:Nat // i<=l.length/\∀j,j+1<i->ltW (l.getD j ([],0)) (l.getD (j+1) ([],0))=true } (fun x=>([(12,.one (.int .i64 x.1))],[])) (fun x=>l.length-x.1))
  |_,_=>none) 400 ?_
 rintro l hc;have hc1:l.length<=1099511627776:=hc.1;have hc2:SmW l:=hc.2.1;refine VC.use (p:=l.length<=1099511627776/\SmW l/\(eu l=0->(∃x1:{ i:Nat // i<=l.length/\∀(j:Nat),j+1<i->ltW (l.getD j ([],0)) (l.getD (j+1) ([],0))=true },l=l/\(l.length:Int)=(l.length:Int)/\0=(x1.1:Int))/\(∀x1:{ i:Nat // i<=l.length/\∀(j:Nat),j+1<i->ltW (l.getD j ([],0)) (l.getD (j+1) ([],0))=true },((x1.1:Int)<(l.length:Int)->(0<(x1.1:Int)->aA ((x1.1:Int)-1)/\(0<=(x1.1:Int)-1/\(x1.1:Int)-1<(l.length:Int))/\(0<=(x1.1:Int)/\(x1.1:Int)<(l.length:Int))/\((!aW (l.getD ((x1.1:Int)-1).toNat ([],0)).1 (l.getD x1.1 ([],0)).1)=true->7=isE l)/\(¬(!aW (l.getD ((x1.1:Int)-1).toNat ([],0)).1 (l.getD x1.1 ([],0)).1)=true->aA ((x1.1:Int)+1)/\(∃x2:{ i:Nat // i<=l.length/\∀(j:Nat),j+1<i->ltW (l.getD j ([],0)) (l.getD (j+1) ([],0))=true },l.length-x2.1<l.length-x1.1/\l=l/\(l.length:Int)=(l.length:Int)/\(x1.1:Int)+1=(x2.1:Int))))/\(¬0<(x1.1:Int)->aA ((x1.1:Int)+1)/\(∃x2:{ i:Nat // i<=l.length/\∀(j:Nat),j+1<i->ltW (l.getD j ([],0)) (l.getD (j+1) ([],0))=true },l.length-x2.1<l.length-x1.1/\l=l/\(l.length:Int)=(l.length:Int)/\(x1.1:Int)+1=(x2.1:Int))))/\(¬(x1.1:Int)<(l.length:Int)->(65536<(l.length:Int)->6=isE l)/\(¬65536<(l.length:Int)->0=isE l))))/\(¬eu l=0->eu l=isE l)) (by kernel_rfl) ?_;refine⟨hc1,hc2,fun he=>⟨⟨⟨0,Nat.zero_le _,fun j h=>absurd h (by omega)⟩,rfl,rfl,rfl⟩,?_⟩,fun he=>?_⟩
 .rintro⟨i,hi,ha⟩;dsimp only;refine⟨fun h=>⟨fun h0=>⟨by unfold aA;omega,by omega,by omega,aaD he h0 (by omega),fun h1=>⟨by unfold aA;omega,⟨i+1,by omega,Bp ha fun _=>h1⟩,by show l.length-(i+1)<l.length-i;omega,rfl,rfl,rfl⟩⟩,fun h0=>⟨by unfold aA;omega,⟨i+1,by omega,Bp ha fun h1=>absurd h1 h0⟩,by show l.length-(i+1)<l.length-i;omega,rfl,rfl,rfl⟩⟩,fun h=>?_⟩;rw[SF he fun j hj=>ha j (by omega)];exact⟨fun h1=>by rw[if_pos (by omega)],fun h1=>by rw[if_neg (by omega)]⟩
 .unfold isE;rw[if_neg he]
def Qt:List UInt8×Int->List SV:=fun(w0,w1)=>[.agg [.str w0,.int .i64 w1]]
def aaG:List UInt8×Int->SV×List Prop:=fun(w0,w1)=>(.one (.int .i64 (wE (w0,w1))),[w0.length<=1099511627776])
def Vi:Con:=⟨true,[none],fun xs=>match xs with | [.agg [.str w0,.int .i64 w1]]=>some (aaG (w0,w1)) | _=>none⟩
noncomputable def JY:GP:=bZ Qt aaG
theorem Kr:∀a b,(Qt a).map aB=(Qt b).map aB->a=b:=by
 rintro⟨a0,a1⟩ ⟨b0,b1⟩ h;simp only[Qt,zK,List.map_nil,aB,aS,zG,AV.one.injEq,AV.agg.injEq,Lf.int.injEq,Lf.str.injEq,Lf.bool.injEq,Lf.vrow.injEq,and_true,true_and,and_assoc] at h;obtain⟨h0,h1⟩:=h;subst h0 h1
 rfl
theorem Uf:df JY Vi:=aR Kr (fun⟨_,_⟩ ⟨_,_⟩=>rfl) (fun⟨_,_⟩=>rfl) fun xs r h=>by
 simp only[Vi] at h;split at h
 .cases h;rename_i w0 w1;exact⟨(w0,w1),rfl,rfl⟩
 .cases h
theorem YH {S:SC}(hB:SB S) (q21:aG S 21 (az G21)) (h299:S.has 299 f299):aG S 299 (az JY):=by
 refine prM hB [] [⟨21,G21,K21⟩] trivial ⟨⟨q21,XA⟩,trivial⟩ h299 (fun⟨w0,w1⟩=>⟨rfl,rfl,rfl⟩) (fun(w0,w1)=>fun _ _ _ _=>none) 400 ?_;rintro⟨w0,w1⟩ hc;have hc1:w0.length<=1099511627776:=hc.1;refine VC.use (p:=w0.length<=1099511627776/\(eF w0=0->(w1<1->2=wE (w0,w1))/\(¬w1<1->(1073741824<w1->2=wE (w0,w1))/\(¬1073741824<w1->0=wE (w0,w1))))/\(¬eF w0=0->eF w0=wE (w0,w1))) (by kernel_rfl) ?_;refine⟨hc1,fun h=>⟨fun h1=>?_,fun h1=>⟨fun h2=>?_,fun h2=>?_⟩⟩,fun h=>?_⟩
 all_goals
  unfold wE;dsimp only;split <;> (try split) <;> omega
def Qh:(List (List UInt8×Int))->List SV:=fun l=>[.one (.row (.pair .str (.int .i64)) l)]
def Zh:(List (List UInt8×Int))->SV×List Prop:=fun l=>(.one (.int .i64 (eu l)),[l.length<=1099511627776,SmW l])
def Vu:Con:=⟨true,[some (.pair .str (.int .i64))],fun xs=>match xs with | [.one (.row (.pair .str (.int .i64)) l)]=>some (Zh l) | _=>none⟩
noncomputable def Ko:GP:=bZ Qh Zh
theorem NZ:∀a b,(Qh a).map aB=(Qh b).map aB->a=b:=by
 rintro a0 b0 h;simp only[Qh,zK,List.map_nil,aB,aS,zG,AV.one.injEq,AV.agg.injEq,Lf.int.injEq,Lf.str.injEq,Lf.bool.injEq,Lf.vrow.injEq,and_true,true_and] at h;exact bT h
theorem Te:df Ko Vu:=aR NZ (fun _ _=>rfl) (fun _=>rfl) fun xs r h=>by
 simp only[Vu] at h;split at h
 .cases h;rename_i l;exact⟨l,rfl,rfl⟩
 .cases h
theorem aaT {S:SC}(hB:SB S) (VU:aG S 299 (az JY)) (h317:S.has 317 f317):aG S 317 (az Ko):=by
 refine prM hB [] [⟨299,JY,Vi⟩] trivial ⟨⟨VU,Uf⟩,trivial⟩ h317 (fun _=>⟨rfl,rfl,rfl⟩) (fun l=>fun f id T L=>match f,id with
  |317,0=>some (.inv { i:Nat // i<=l.length/\∀j,j<i->iq (l.getD j ([],0))=false } (fun x=>([(8,.one (.int .i64 x.1))],[])) (fun x=>l.length-x.1))
  |_,_=>none) 400 ?_
 rintro l hc;have hc1:l.length<=1099511627776:=hc.1;have hc2:SmW l:=hc.2.1;refine VC.use (p:=(∃x1:{ i:Nat // i<=l.length/\∀(j:Nat),j<i->iq (l.getD j ([],0))=false },l=l/\(l.length:Int)=(l.length:Int)/\0=(x1.1:Int))/\(∀x1:{ i:Nat // i<=l.length/\∀(j:Nat),j<i->iq (l.getD j ([],0))=false },((x1.1:Int)<(l.length:Int)->(0<=(x1.1:Int)/\(x1.1:Int)<(l.length:Int))/\List.length (l.getD x1.1 ([],0)).1<=1099511627776/\(wE ((l.getD x1.1 ([],0)).1,(l.getD x1.1 ([],0)).2)=0->aA ((x1.1:Int)+1)/\(∃x2:{ i:Nat // i<=l.length/\∀(j:Nat),j<i->iq (l.getD j ([],0))=false },l.length-x2.1<l.length-x1.1/\l=l/\(l.length:Int)=(l.length:Int)/\(x1.1:Int)+1=(x2.1:Int)))/\(¬wE ((l.getD x1.1 ([],0)).1,(l.getD x1.1 ([],0)).2)=0->wE ((l.getD x1.1 ([],0)).1,(l.getD x1.1 ([],0)).2)=eu l))/\(¬(x1.1:Int)<(l.length:Int)->0=eu l))) (by kernel_rfl) ?_;refine⟨⟨⟨0,Nat.zero_le _,fun j h=>absurd h (zS _)⟩,rfl,rfl,rfl⟩,?_⟩;rintro⟨i,hi,ha⟩;dsimp only;exact⟨fun h=>⟨by omega,hc2.at i,fun h1=>⟨by unfold aA;omega,⟨i+1,by omega,pW ha (yO.2 h1)⟩,by show l.length-(i+1)<l.length-i;omega,rfl,rfl,rfl⟩,fun h1=>(yK (by omega) ha (Mm.2 h1)).symm⟩,fun h=>(qE fun j hj=>ha j (by omega)).symm⟩
def Qk:(List (List UInt8×Int))×(List (List UInt8×Int))->List SV:=fun(a,b)=>[.one (.row (.pair .str (.int .i64)) a),.one (.row (.pair .str (.int .i64)) b)]
def aaq:(List (List UInt8×Int))×(List (List UInt8×Int))->SV×List Prop:=fun(a,b)=>(.one (.bool (oH a b)),[a.length<=1099511627776,b.length<=1099511627776])
def Xv:Con:=⟨true,[some (.pair .str (.int .i64)),some (.pair .str (.int .i64))],fun xs=>match xs with | [.one (.row (.pair .str (.int .i64)) a),.one (.row (.pair .str (.int .i64)) b)]=>some (aaq (a,b)) | _=>none⟩
noncomputable def Pw:GP:=bZ Qk aaq
theorem Pi:∀a b,(Qk a).map aB=(Qk b).map aB->a=b:=by
 rintro⟨a0,a1⟩ ⟨b0,b1⟩ h;simp only[Qk,zK,List.map_nil,aB,aS,zG,AV.one.injEq,AV.agg.injEq,Lf.int.injEq,Lf.str.injEq,Lf.bool.injEq,Lf.vrow.injEq,and_true,true_and,and_assoc] at h;obtain⟨h0,h1⟩:=h;have h0:=bT h0;have h1:=bT h1;subst h0 h1
 rfl
theorem SG:df Pw Xv:=aR Pi (fun⟨_,_⟩ ⟨_,_⟩=>rfl) (fun⟨_,_⟩=>rfl) fun xs r h=>by
 simp only[Xv] at h;split at h
 .cases h;rename_i a b;exact⟨(a,b),rfl,rfl⟩
 .cases h
theorem aax {S:SC}(hB:SB S)  (h300:S.has 300 f300):aG S 300 (az Pw):=by
 refine prM hB [] [] trivial trivial h300 (fun⟨a,b⟩=>⟨rfl,rfl,rfl⟩) (fun(a,b)=>fun f id T L=>match f,id with
  |300,0=>some (.inv { i:Nat // i<=a.length/\∀j,j<i->a.getD j ([],0)=b.getD j ([],0) } (fun x=>([(13,.one (.int .i64 x.1))],[])) (fun x=>a.length-x.1))
  |_,_=>none) 400 ?_
 rintro⟨a,b⟩ hc;have hc1:a.length<=1099511627776:=hc.1;have hc2:b.length<=1099511627776:=hc.2.1;refine VC.use (p:=((a.length:Int)=(b.length:Int)->(∃x1:{ i:Nat // i<=a.length/\∀(j:Nat),j<i->a.getD j ([],0)=b.getD j ([],0) },a=a/\b=b/\(a.length:Int)=(a.length:Int)/\0=(x1.1:Int))/\(∀x1:{ i:Nat // i<=a.length/\∀(j:Nat),j<i->a.getD j ([],0)=b.getD j ([],0) },((x1.1:Int)<(a.length:Int)->(0<=(x1.1:Int)/\(x1.1:Int)<(a.length:Int))/\(0<=(x1.1:Int)/\(x1.1:Int)<(b.length:Int))/\((!nG (List.take 2 (List.drop 0 ((Ty.str.pair (Ty.int IntKind.i64)).cells (a.getD x1.1 ([],0))))) (List.take 2 (List.drop 0 ((Ty.str.pair (Ty.int IntKind.i64)).cells (b.getD x1.1 ([],0))))))=true->false=oH a b)/\(¬(!nG (List.take 2 (List.drop 0 ((Ty.str.pair (Ty.int IntKind.i64)).cells (a.getD x1.1 ([],0))))) (List.take 2 (List.drop 0 ((Ty.str.pair (Ty.int IntKind.i64)).cells (b.getD x1.1 ([],0))))))=true->aA ((x1.1:Int)+1)/\(∃x2:{ i:Nat // i<=a.length/\∀(j:Nat),j<i->a.getD j ([],0)=b.getD j ([],0) },a.length-x2.1<a.length-x1.1/\a=a/\b=b/\(a.length:Int)=(a.length:Int)/\(x1.1:Int)+1=(x2.1:Int))))/\(¬(x1.1:Int)<(a.length:Int)->true=oH a b)))/\(¬(a.length:Int)=(b.length:Int)->false=oH a b)) (by kernel_rfl) ?_;simp only[TH];refine⟨fun hl=>⟨⟨⟨0,Nat.zero_le _,fun j h=>absurd h (zS _)⟩,by trivial,by trivial,by trivial,rfl⟩,?_⟩,fun hl=>?_⟩
 .rintro⟨i,hi,ha⟩;dsimp only;refine⟨fun h=>⟨by omega,by omega,fun h1=>?_,fun h1=>⟨by unfold aA;omega,⟨i+1,by omega,pW ha (by simpa using h1)⟩,by show a.length-(i+1)<a.length-i;omega,by trivial,by trivial,by trivial,rfl⟩⟩,fun h=>?_⟩
  .unfold oH;rw[decide_eq_false];rintro rfl;simp at h1
  .unfold oH;rw[MK hl fun j hj=>ha j (by omega)];simp
 .unfold oH;rw[decide_eq_false];rintro rfl;exact hl rfl
end Go.EA
