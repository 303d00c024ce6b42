/- Layer 9: whether words may be, are normal; words each once, in order. Conditions: none. -/
import Derived.Test.YtgkhohpekfjlmaaDoorEK12
import Derived.Test.YtgkhohpekfjlmaaDoorERu
import Derived.Test.YtgkhohpekfjlmaaDoorERf
import Derived.KernelRfl
set_option linter.unusedVariables false
set_option linter.unusedSimpArgs false
set_option maxRecDepth 100000
set_option maxHeartbeats 0
namespace Go.EA
open F
def PM:List UInt8×Int->List SV:=fun(w0,w1)=>[.agg [.str w0,.int .i64 w1]]
def aao:List UInt8×Int->SV×List Prop:=fun(w0,w1)=>(.one (.int .i64 (wE (w0,w1))),[w0.length<=1099511627776])
def TB:Con:=⟨true,[none],fun xs=>match xs with | [.agg [.str w0,.int .i64 w1]]=>some (aao (w0,w1)) | _=>none⟩
noncomputable def DI:GP:=bX PM aao
theorem Pv:∀a b,(PM a).map aA=(PM b).map aA->a=b:=by
 rintro⟨a0,a1⟩ ⟨b0,b1⟩ h;simp only[PM,zK,List.map_nil,aA,aV,zG,AV.one.injEq,AV.agg.injEq,Lf.int.injEq,Lf.str.injEq,Lf.bool.injEq,Lf.vrow.injEq,and_true,true_and,and_assoc] at h;obtain⟨h0,h1⟩:=h;subst h0 h1
 rfl
theorem FP:cK DI TB:=aS Pv (fun⟨_,_⟩ ⟨_,_⟩=>rfl) (fun⟨_,_⟩=>rfl) fun xs r h=>by
 simp only[TB] at h;split at h
 .cases h;rename_i w0 w1;exact⟨(w0,w1),rfl,rfl⟩
 .cases h
theorem aaz {S:SC}(hB:SB S) (q20:aF S 20 (az G20)) (h298:S.has 298 f298):aF S 298 (az DI):=by
 refine prM hB [] [⟨20,G20,K20⟩] trivial ⟨⟨q20,Xx⟩,trivial⟩ h298 (fun⟨w0,w1⟩=>⟨rfl,rfl,rfl⟩) (fun(w0,w1)=>fun _ _ _ _=>none) 400 ?_;rintro⟨w0,w1⟩ hc;have hc1:w0.length<=1099511627776:=hc.1;refine VC.use (p:=w0.length<=1099511627776/\(eD w0=0->(w1<1->2=wE (w0,w1))/\(¬w1<1->(1073741824<w1->2=wE (w0,w1))/\(¬1073741824<w1->eD w0=wE (w0,w1))))/\(¬eD w0=0->eD w0=wE (w0,w1))) (by kernel_rfl) ?_;refine⟨hc1,fun h=>⟨fun h1=>?_,fun h1=>⟨fun h2=>?_,fun h2=>?_⟩⟩,fun h=>?_⟩
 all_goals
  unfold wE;dsimp only;split <;> (try split) <;> omega
def TW:List UInt8×Int->List SV:=fun(w0,w1)=>[.agg [.str w0,.int .i64 w1]]
def Zf:List UInt8×Int->SV×List Prop:=fun(w0,w1)=>(.one (.bool (iq (w0,w1))),[w0.length<=1099511627776])
def Yi:Con:=⟨true,[none],fun xs=>match xs with | [.agg [.str w0,.int .i64 w1]]=>some (Zf (w0,w1)) | _=>none⟩
noncomputable def OA:GP:=bX TW Zf
theorem Ol:∀a b,(TW a).map aA=(TW b).map aA->a=b:=by
 rintro⟨a0,a1⟩ ⟨b0,b1⟩ h;simp only[TW,zK,List.map_nil,aA,aV,zG,AV.one.injEq,AV.agg.injEq,Lf.int.injEq,Lf.str.injEq,Lf.bool.injEq,Lf.vrow.injEq,and_true,true_and,and_assoc] at h;obtain⟨h0,h1⟩:=h;subst h0 h1
 rfl
theorem Py:cK OA Yi:=aS Ol (fun⟨_,_⟩ ⟨_,_⟩=>rfl) (fun⟨_,_⟩=>rfl) fun xs r h=>by
 simp only[Yi] at h;split at h
 .cases h;rename_i w0 w1;exact⟨(w0,w1),rfl,rfl⟩
 .cases h
theorem Zu {S:SC}(hB:SB S) (Ji:aF S 298 (az DI)) (h337:S.has 337 f337):aF S 337 (az OA):=by
 refine prM hB [] [⟨298,DI,TB⟩] trivial ⟨⟨Ji,FP⟩,trivial⟩ h337 (fun⟨w0,w1⟩=>⟨rfl,rfl,rfl⟩) (fun(w0,w1)=>fun _ _ _ _=>none) 400 ?_;rintro⟨w0,w1⟩ hc;have hc1:w0.length<=1099511627776:=hc.1;refine VC.use (p:=w0.length<=1099511627776/\(!decide (wE (w0,w1)=0))=iq (w0,w1)) (by kernel_rfl) ?_;exact⟨hc1,rfl⟩
def Qe:(List (List UInt8×Int))->List SV:=fun l=>[.one (.row (.pair .str (.int .i64)) l),.one (.fn 337 [])]
def YF:(List (List UInt8×Int))->SV×List Prop:=fun l=>(.one (.int .i64 (lX l)),[l.length<=1099511627776,SmW l])
def WX:Con:=⟨true,[some (.pair .str (.int .i64)),none],fun xs=>match xs with | [.one (.row (.pair .str (.int .i64)) l),.one (.fn 337 [])]=>some (YF l) | _=>none⟩
noncomputable def Nw:GP:=bX Qe YF
theorem Lm:∀a b,(Qe a).map aA=(Qe b).map aA->a=b:=by
 rintro a0 b0 h;simp only[Qe,zK,List.map_nil,aA,aV,zG,AV.one.injEq,AV.agg.injEq,Lf.int.injEq,Lf.str.injEq,Lf.bool.injEq,Lf.vrow.injEq,and_true,true_and] at h;exact cZ h
theorem PE:cK Nw WX:=aS Lm (fun _ _=>rfl) (fun _=>rfl) fun xs r h=>by
 simp only[WX] at h;split at h
 .cases h;rename_i l;exact⟨l,rfl,rfl⟩
 .cases h
theorem Zo {S:SC}(hB:SB S) (Wm:aF S 337 (az OA)) (h336:S.has 336 f336):aF S 336 (az Nw):=by
 refine prM hB [] [⟨337,OA,Yi⟩] trivial ⟨⟨Wm,Py⟩,trivial⟩ h336 (fun _=>⟨rfl,rfl,rfl⟩) (fun l=>fun f id T L=>match f,id with
  |336,0=>some (.inv { i:Nat // i<=l.length/\∀j,j<i->iq (l.getD j ([],0))=false } (fun x=>([(8,.one (.int .i64 x.1))],[])) (fun x=>l.length-x.1))
  |_,_=>none) 400 ?_
 rintro l hc;have hc1:l.length<=1099511627776:=hc.1;have hc2:SmW l:=hc.2.1;refine VC.use (p:=(∃x1:{ i:Nat // i<=l.length/\∀(j:Nat),j<i->iq (l.getD j ([],0))=false },l=l/\(l.length:Int)=(l.length:Int)/\0=(x1.1:Int))/\(∀x1:{ i:Nat // i<=l.length/\∀(j:Nat),j<i->iq (l.getD j ([],0))=false },((x1.1:Int)<(l.length:Int)->(0<=(x1.1:Int)/\(x1.1:Int)<(l.length:Int))/\List.length (l.getD x1.1 ([],0)).1<=1099511627776/\(iq ((l.getD x1.1 ([],0)).1,(l.getD x1.1 ([],0)).2)=true->(x1.1:Int)=lX l)/\(¬iq ((l.getD x1.1 ([],0)).1,(l.getD x1.1 ([],0)).2)=true->aB ((x1.1:Int)+1)/\(∃x2:{ i:Nat // i<=l.length/\∀(j:Nat),j<i->iq (l.getD j ([],0))=false },l.length-x2.1<l.length-x1.1/\l=l/\(l.length:Int)=(l.length:Int)/\(x1.1:Int)+1=(x2.1:Int))))/\(¬(x1.1:Int)<(l.length:Int) -> -1=lX l))) (by kernel_rfl) ?_;refine⟨⟨⟨0,Nat.zero_le _,fun j h=>absurd h (zS _)⟩,rfl,rfl,rfl⟩,?_⟩;rintro⟨i,hi,ha⟩;dsimp only;exact⟨fun h=>⟨by omega,hc2.at i,fun h1=>(KA (by omega) ha h1).symm,fun h1=>⟨by unfold aB;omega,⟨i+1,by omega,pQ ha (by simpa using h1)⟩,by show l.length-(i+1)<l.length-i;omega,rfl,rfl,rfl⟩⟩,fun h=>(Ih fun j hj=>ha j (by omega)).symm⟩
def Ta:(List (List UInt8×Int))->List SV:=fun l=>[.one (.row (.pair .str (.int .i64)) l)]
def ZH:(List (List UInt8×Int))->SV×List Prop:=fun l=>(.one (.int .i64 (dX l)),[l.length<=1099511627776,SmW l])
def Ve:Con:=⟨true,[some (.pair .str (.int .i64))],fun xs=>match xs with | [.one (.row (.pair .str (.int .i64)) l)]=>some (ZH l) | _=>none⟩
noncomputable def JR:GP:=bX Ta ZH
theorem Oj:∀a b,(Ta a).map aA=(Ta b).map aA->a=b:=by
 rintro a0 b0 h;simp only[Ta,zK,List.map_nil,aA,aV,zG,AV.one.injEq,AV.agg.injEq,Lf.int.injEq,Lf.str.injEq,Lf.bool.injEq,Lf.vrow.injEq,and_true,true_and] at h;exact cZ h
theorem Tx:cK JR Ve:=aS Oj (fun _ _=>rfl) (fun _=>rfl) fun xs r h=>by
 simp only[Ve] at h;split at h
 .cases h;rename_i l;exact⟨l,rfl,rfl⟩
 .cases h
theorem aam {S:SC}(hB:SB S) (Vd:aF S 336 (az Nw)) (Ji:aF S 298 (az DI)) (h318:S.has 318 f318):aF S 318 (az JR):=by
 refine prM hB [] [⟨336,Nw,WX⟩,⟨298,DI,TB⟩] trivial ⟨⟨Vd,PE⟩,⟨Ji,FP⟩,trivial⟩ h318 (fun _=>⟨rfl,rfl,rfl⟩) (fun l=>fun _ _ _ _=>none) 400 ?_;rintro l hc;have hc1:l.length<=1099511627776:=hc.1;have hc2:SmW l:=hc.2.1;refine VC.use (p:=l.length<=1099511627776/\SmW l/\(lX l<0->0=dX l)/\(¬lX l<0->(0<=lX l/\lX l<(l.length:Int))/\List.length (l.getD (lX l).toNat ([],0)).1<=1099511627776/\wE ((l.getD (lX l).toNat ([],0)).1,(l.getD (lX l).toNat ([],0)).2)=dX l)) (by kernel_rfl) ?_;refine⟨hc1,hc2,?_⟩;rcases Ig l with ⟨h1,h2⟩ | ⟨i,h1,h2,h3⟩
 .rw[h1,h2];exact⟨fun _=>rfl,fun h=>absurd h (by decide)⟩
 .rw[h2];exact⟨fun h=>absurd h (by omega),fun _=>⟨by omega,hc2.at _,h3⟩⟩
def Tn:(List (List UInt8×Int))->List SV:=fun l=>[.one (.row (.pair .str (.int .i64)) l)]
def Zz:(List (List UInt8×Int))->SV×List Prop:=fun l=>(.one (.int .i64 (isE l)),[l.length<=1099511627776,SmW l])
def TK:Con:=⟨true,[some (.pair .str (.int .i64))],fun xs=>match xs with | [.one (.row (.pair .str (.int .i64)) l)]=>some (Zz l) | _=>none⟩
noncomputable def DC:GP:=bX Tn Zz
theorem OY:∀a b,(Tn a).map aA=(Tn b).map aA->a=b:=by
 rintro a0 b0 h;simp only[Tn,zK,List.map_nil,aA,aV,zG,AV.one.injEq,AV.agg.injEq,Lf.int.injEq,Lf.str.injEq,Lf.bool.injEq,Lf.vrow.injEq,and_true,true_and] at h;exact cZ h
theorem Gd:cK DC TK:=aS OY (fun _ _=>rfl) (fun _=>rfl) fun xs r h=>by
 simp only[TK] at h;split at h
 .cases h;rename_i l;exact⟨l,rfl,rfl⟩
 .cases h
theorem ZZ {S:SC}(hB:SB S) (Xk:aF S 318 (az JR)) (h296:S.has 296 f296):aF S 296 (az DC):=by
 refine prM hB [] [⟨318,JR,Ve⟩] trivial ⟨⟨Xk,Tx⟩,trivial⟩ h296 (fun _=>⟨rfl,rfl,rfl⟩) (fun l=>fun f id T L=>match f,id with
  |296,0=>some (.inv { i:Nat // i<=l.length/\∀j,j+1<i->ltW (l.getD j ([],0)) (l.getD (j+1) ([],0))=true } (fun x=>([(12,.one (.int .i64 x.1))],[])) (fun x=>l.length-x.1))
  |_,_=>none) 400 ?_
 rintro l hc;have hc1:l.length<=1099511627776:=hc.1;have hc2:SmW l:=hc.2.1;refine VC.use (p:=l.length<=1099511627776/\SmW l/\(dX l=0->(∃x1:{ i:Nat // i<=l.length/\∀(j:Nat),j+1<i->ltW (l.getD j ([],0)) (l.getD (j+1) ([],0))=true },l=l/\(l.length:Int)=(l.length:Int)/\0=(x1.1:Int))/\(∀x1:{ i:Nat // i<=l.length/\∀(j:Nat),j+1<i->ltW (l.getD j ([],0)) (l.getD (j+1) ([],0))=true },((x1.1:Int)<(l.length:Int)->(0<(x1.1:Int)->aB ((x1.1:Int)-1)/\(0<=(x1.1:Int)-1/\(x1.1:Int)-1<(l.length:Int))/\(0<=(x1.1:Int)/\(x1.1:Int)<(l.length:Int))/\((!aM (l.getD ((x1.1:Int)-1).toNat ([],0)).1 (l.getD x1.1 ([],0)).1)=true->7=isE l)/\(¬(!aM (l.getD ((x1.1:Int)-1).toNat ([],0)).1 (l.getD x1.1 ([],0)).1)=true->aB ((x1.1:Int)+1)/\(∃x2:{ i:Nat // i<=l.length/\∀(j:Nat),j+1<i->ltW (l.getD j ([],0)) (l.getD (j+1) ([],0))=true },l.length-x2.1<l.length-x1.1/\l=l/\(l.length:Int)=(l.length:Int)/\(x1.1:Int)+1=(x2.1:Int))))/\(¬0<(x1.1:Int)->aB ((x1.1:Int)+1)/\(∃x2:{ i:Nat // i<=l.length/\∀(j:Nat),j+1<i->ltW (l.getD j ([],0)) (l.getD (j+1) ([],0))=true },l.length-x2.1<l.length-x1.1/\l=l/\(l.length:Int)=(l.length:Int)/\(x1.1:Int)+1=(x2.1:Int))))/\(¬(x1.1:Int)<(l.length:Int)->(65536<(l.length:Int)->6=isE l)/\(¬65536<(l.length:Int)->0=isE l))))/\(¬dX l=0->dX l=isE l)) (by kernel_rfl) ?_;refine⟨hc1,hc2,fun he=>⟨⟨⟨0,Nat.zero_le _,fun j h=>absurd h (by omega)⟩,rfl,rfl,rfl⟩,?_⟩,fun he=>?_⟩
 .rintro⟨i,hi,ha⟩;dsimp only;refine⟨fun h=>⟨fun h0=>⟨by unfold aB;omega,by omega,by omega,ZB he h0 (by omega),fun h1=>⟨by unfold aB;omega,⟨i+1,by omega,yS ha fun _=>h1⟩,by show l.length-(i+1)<l.length-i;omega,rfl,rfl,rfl⟩⟩,fun h0=>⟨by unfold aB;omega,⟨i+1,by omega,yS ha fun h1=>absurd h1 h0⟩,by show l.length-(i+1)<l.length-i;omega,rfl,rfl,rfl⟩⟩,fun h=>?_⟩;rw[TV he fun j hj=>ha j (by omega)];exact⟨fun h1=>by rw[if_pos (by omega)],fun h1=>by rw[if_neg (by omega)]⟩
 .unfold isE;rw[if_neg he]
def Qb:List UInt8×Int->List SV:=fun(w0,w1)=>[.agg [.str w0,.int .i64 w1]]
def Zt:List UInt8×Int->SV×List Prop:=fun(w0,w1)=>(.one (.int .i64 (wE (w0,w1))),[w0.length<=1099511627776])
def WA:Con:=⟨true,[none],fun xs=>match xs with | [.agg [.str w0,.int .i64 w1]]=>some (Zt (w0,w1)) | _=>none⟩
noncomputable def Li:GP:=bX Qb Zt
theorem KW:∀a b,(Qb a).map aA=(Qb b).map aA->a=b:=by
 rintro⟨a0,a1⟩ ⟨b0,b1⟩ h;simp only[Qb,zK,List.map_nil,aA,aV,zG,AV.one.injEq,AV.agg.injEq,Lf.int.injEq,Lf.str.injEq,Lf.bool.injEq,Lf.vrow.injEq,and_true,true_and,and_assoc] at h;obtain⟨h0,h1⟩:=h;subst h0 h1
 rfl
theorem PP:cK Li WA:=aS KW (fun⟨_,_⟩ ⟨_,_⟩=>rfl) (fun⟨_,_⟩=>rfl) fun xs r h=>by
 simp only[WA] at h;split at h
 .cases h;rename_i w0 w1;exact⟨(w0,w1),rfl,rfl⟩
 .cases h
theorem aan {S:SC}(hB:SB S) (q21:aF S 21 (az G21)) (h299:S.has 299 f299):aF S 299 (az Li):=by
 refine prM hB [] [⟨21,G21,K21⟩] trivial ⟨⟨q21,WC⟩,trivial⟩ h299 (fun⟨w0,w1⟩=>⟨rfl,rfl,rfl⟩) (fun(w0,w1)=>fun _ _ _ _=>none) 400 ?_;rintro⟨w0,w1⟩ hc;have hc1:w0.length<=1099511627776:=hc.1;refine VC.use (p:=w0.length<=1099511627776/\(eD w0=0->(w1<1->2=wE (w0,w1))/\(¬w1<1->(1073741824<w1->2=wE (w0,w1))/\(¬1073741824<w1->0=wE (w0,w1))))/\(¬eD w0=0->eD w0=wE (w0,w1))) (by kernel_rfl) ?_;refine⟨hc1,fun h=>⟨fun h1=>?_,fun h1=>⟨fun h2=>?_,fun h2=>?_⟩⟩,fun h=>?_⟩
 all_goals
  unfold wE;dsimp only;split <;> (try split) <;> omega
def RA:(List (List UInt8×Int))->List SV:=fun l=>[.one (.row (.pair .str (.int .i64)) l)]
def Yz:(List (List UInt8×Int))->SV×List Prop:=fun l=>(.one (.int .i64 (dX l)),[l.length<=1099511627776,SmW l])
def WT:Con:=⟨true,[some (.pair .str (.int .i64))],fun xs=>match xs with | [.one (.row (.pair .str (.int .i64)) l)]=>some (Yz l) | _=>none⟩
noncomputable def KL:GP:=bX RA Yz
theorem Pm:∀a b,(RA a).map aA=(RA b).map aA->a=b:=by
 rintro a0 b0 h;simp only[RA,zK,List.map_nil,aA,aV,zG,AV.one.injEq,AV.agg.injEq,Lf.int.injEq,Lf.str.injEq,Lf.bool.injEq,Lf.vrow.injEq,and_true,true_and] at h;exact cZ h
theorem TU:cK KL WT:=aS Pm (fun _ _=>rfl) (fun _=>rfl) fun xs r h=>by
 simp only[WT] at h;split at h
 .cases h;rename_i l;exact⟨l,rfl,rfl⟩
 .cases h
theorem aae {S:SC}(hB:SB S) (XX:aF S 299 (az Li)) (h317:S.has 317 f317):aF S 317 (az KL):=by
 refine prM hB [] [⟨299,Li,WA⟩] trivial ⟨⟨XX,PP⟩,trivial⟩ h317 (fun _=>⟨rfl,rfl,rfl⟩) (fun l=>fun f id T L=>match f,id with
  |317,0=>some (.inv { i:Nat // i<=l.length/\∀j,j<i->iq (l.getD j ([],0))=false } (fun x=>([(8,.one (.int .i64 x.1))],[])) (fun x=>l.length-x.1))
  |_,_=>none) 400 ?_
 rintro l hc;have hc1:l.length<=1099511627776:=hc.1;have hc2:SmW l:=hc.2.1;refine VC.use (p:=(∃x1:{ i:Nat // i<=l.length/\∀(j:Nat),j<i->iq (l.getD j ([],0))=false },l=l/\(l.length:Int)=(l.length:Int)/\0=(x1.1:Int))/\(∀x1:{ i:Nat // i<=l.length/\∀(j:Nat),j<i->iq (l.getD j ([],0))=false },((x1.1:Int)<(l.length:Int)->(0<=(x1.1:Int)/\(x1.1:Int)<(l.length:Int))/\List.length (l.getD x1.1 ([],0)).1<=1099511627776/\(wE ((l.getD x1.1 ([],0)).1,(l.getD x1.1 ([],0)).2)=0->aB ((x1.1:Int)+1)/\(∃x2:{ i:Nat // i<=l.length/\∀(j:Nat),j<i->iq (l.getD j ([],0))=false },l.length-x2.1<l.length-x1.1/\l=l/\(l.length:Int)=(l.length:Int)/\(x1.1:Int)+1=(x2.1:Int)))/\(¬wE ((l.getD x1.1 ([],0)).1,(l.getD x1.1 ([],0)).2)=0->wE ((l.getD x1.1 ([],0)).1,(l.getD x1.1 ([],0)).2)=dX l))/\(¬(x1.1:Int)<(l.length:Int)->0=dX l))) (by kernel_rfl) ?_;refine⟨⟨⟨0,Nat.zero_le _,fun j h=>absurd h (zS _)⟩,rfl,rfl,rfl⟩,?_⟩;rintro⟨i,hi,ha⟩;dsimp only;exact⟨fun h=>⟨by omega,hc2.at i,fun h1=>⟨by unfold aB;omega,⟨i+1,by omega,pQ ha (yu.2 h1)⟩,by show l.length-(i+1)<l.length-i;omega,rfl,rfl,rfl⟩,fun h1=>(yG (by omega) ha (Nh.2 h1)).symm⟩,fun h=>(qK fun j hj=>ha j (by omega)).symm⟩
def TR:(List (List UInt8×Int))×(List (List UInt8×Int))->List SV:=fun(a,b)=>[.one (.row (.pair .str (.int .i64)) a),.one (.row (.pair .str (.int .i64)) b)]
def aag:(List (List UInt8×Int))×(List (List UInt8×Int))->SV×List Prop:=fun(a,b)=>(.one (.bool (oP a b)),[a.length<=1099511627776,b.length<=1099511627776])
def XM:Con:=⟨true,[some (.pair .str (.int .i64)),some (.pair .str (.int .i64))],fun xs=>match xs with | [.one (.row (.pair .str (.int .i64)) a),.one (.row (.pair .str (.int .i64)) b)]=>some (aag (a,b)) | _=>none⟩
noncomputable def JE:GP:=bX TR aag
theorem Ob:∀a b,(TR a).map aA=(TR b).map aA->a=b:=by
 rintro⟨a0,a1⟩ ⟨b0,b1⟩ h;simp only[TR,zK,List.map_nil,aA,aV,zG,AV.one.injEq,AV.agg.injEq,Lf.int.injEq,Lf.str.injEq,Lf.bool.injEq,Lf.vrow.injEq,and_true,true_and,and_assoc] at h;obtain⟨h0,h1⟩:=h;have h0:=cZ h0;have h1:=cZ h1;subst h0 h1
 rfl
theorem Tv:cK JE XM:=aS Ob (fun⟨_,_⟩ ⟨_,_⟩=>rfl) (fun⟨_,_⟩=>rfl) fun xs r h=>by
 simp only[XM] at h;split at h
 .cases h;rename_i a b;exact⟨(a,b),rfl,rfl⟩
 .cases h
theorem YB {S:SC}(hB:SB S)  (h300:S.has 300 f300):aF S 300 (az JE):=by
 refine prM hB [] [] trivial trivial h300 (fun⟨a,b⟩=>⟨rfl,rfl,rfl⟩) (fun(a,b)=>fun f id T L=>match f,id with
  |300,0=>some (.inv { i:Nat // i<=a.length/\∀j,j<i->a.getD j ([],0)=b.getD j ([],0) } (fun x=>([(13,.one (.int .i64 x.1))],[])) (fun x=>a.length-x.1))
  |_,_=>none) 400 ?_
 rintro⟨a,b⟩ hc;have hc1:a.length<=1099511627776:=hc.1;have hc2:b.length<=1099511627776:=hc.2.1;refine VC.use (p:=((a.length:Int)=(b.length:Int)->(∃x1:{ i:Nat // i<=a.length/\∀(j:Nat),j<i->a.getD j ([],0)=b.getD j ([],0) },a=a/\b=b/\(a.length:Int)=(a.length:Int)/\0=(x1.1:Int))/\(∀x1:{ i:Nat // i<=a.length/\∀(j:Nat),j<i->a.getD j ([],0)=b.getD j ([],0) },((x1.1:Int)<(a.length:Int)->(0<=(x1.1:Int)/\(x1.1:Int)<(a.length:Int))/\(0<=(x1.1:Int)/\(x1.1:Int)<(b.length:Int))/\((!nu (List.take 2 (List.drop 0 ((Ty.str.pair (Ty.int IntKind.i64)).cells (a.getD x1.1 ([],0))))) (List.take 2 (List.drop 0 ((Ty.str.pair (Ty.int IntKind.i64)).cells (b.getD x1.1 ([],0))))))=true->false=oP a b)/\(¬(!nu (List.take 2 (List.drop 0 ((Ty.str.pair (Ty.int IntKind.i64)).cells (a.getD x1.1 ([],0))))) (List.take 2 (List.drop 0 ((Ty.str.pair (Ty.int IntKind.i64)).cells (b.getD x1.1 ([],0))))))=true->aB ((x1.1:Int)+1)/\(∃x2:{ i:Nat // i<=a.length/\∀(j:Nat),j<i->a.getD j ([],0)=b.getD j ([],0) },a.length-x2.1<a.length-x1.1/\a=a/\b=b/\(a.length:Int)=(a.length:Int)/\(x1.1:Int)+1=(x2.1:Int))))/\(¬(x1.1:Int)<(a.length:Int)->true=oP a b)))/\(¬(a.length:Int)=(b.length:Int)->false=oP a b)) (by kernel_rfl) ?_;simp only[Tk];refine⟨fun hl=>⟨⟨⟨0,Nat.zero_le _,fun j h=>absurd h (zS _)⟩,by trivial,by trivial,by trivial,rfl⟩,?_⟩,fun hl=>?_⟩
 .rintro⟨i,hi,ha⟩;dsimp only;refine⟨fun h=>⟨by omega,by omega,fun h1=>?_,fun h1=>⟨by unfold aB;omega,⟨i+1,by omega,pQ ha (by simpa using h1)⟩,by show a.length-(i+1)<a.length-i;omega,by trivial,by trivial,by trivial,rfl⟩⟩,fun h=>?_⟩
  .unfold oP;rw[decide_eq_false];rintro rfl;simp at h1
  .unfold oP;rw[NB hl fun j hj=>ha j (by omega)];simp
 .unfold oP;rw[decide_eq_false];rintro rfl;exact hl rfl
end Go.EA
