/- Layer 9: whether words may be, are normal; words each once, in order. Conditions: none. -/
import Derived.Test.YtpgjilomblpcpaaDoorEK12
import Derived.Test.YtpgjilomblpcpaaDoorERu
import Derived.Test.YtpgjilomblpcpaaDoorERf
import Derived.KernelRfl
set_option linter.unusedVariables false
set_option linter.unusedSimpArgs false
set_option maxRecDepth 100000
set_option maxHeartbeats 0
namespace Go.EA
open F
def PL:List UInt8×Int->List SV:=fun(w0,w1)=>[.agg [.str w0,.int .i64 w1]]
def WH:List UInt8×Int->SV×List Prop:=fun(w0,w1)=>(.one (.int .i64 (wE (w0,w1))),[w0.length<=1099511627776])
def QV:Con:=⟨true,[none],fun xs=>match xs with | [.agg [.str w0,.int .i64 w1]]=>some (WH (w0,w1)) | _=>none⟩
noncomputable def Dh:GP:=dC PL WH
theorem MB:∀a b,(PL a).map aB=(PL b).map aB->a=b:=by
 rintro⟨a0,a1⟩ ⟨b0,b1⟩ h;simp only[PL,zK,List.map_nil,aB,aW,zG,AV.one.injEq,AV.agg.injEq,Lf.int.injEq,Lf.str.injEq,Lf.bool.injEq,Lf.vrow.injEq,and_true,true_and,and_assoc] at h;obtain⟨h0,h1⟩:=h;subst h0 h1
 rfl
theorem EG:dM Dh QV:=bf MB (fun⟨_,_⟩ ⟨_,_⟩=>rfl) (fun⟨_,_⟩=>rfl) fun xs r h=>by
 simp only[QV] at h;split at h
 .cases h;rename_i w0 w1;exact⟨(w0,w1),rfl,rfl⟩
 .cases h
theorem Wh {S:SC}(hB:SB S) (q20:aO S 20 (aA G20)) (h298:S.has 298 f298):aO S 298 (aA Dh):=by
 refine prM hB [] [⟨20,G20,K20⟩] trivial ⟨⟨q20,VR⟩,trivial⟩ h298 (fun⟨w0,w1⟩=>⟨rfl,rfl,rfl⟩) (fun(w0,w1)=>fun _ _ _ _=>none) 400 ?_;rintro⟨w0,w1⟩ hc;have hc1:w0.length<=1099511627776:=hc.1;refine VC.use (p:=
  ((w0.length<=1099511627776)/\
  ((ek   w0=0 →
    ((w1 < 1 →
      (2=wE (w0,w1)))/\
    (¬w1 < 1 →
     ((1073741824 < w1 →
       (2=wE (w0,w1)))/\
     (¬1073741824 < w1 →
      (ek w0=wE (w0,w1)))))))/\
  (¬ek   w0 = 0 →
   (ek w0=wE (w0,w1)))))) (by kernel_rfl) ?_
 refine⟨hc1,fun h=>⟨fun h1=>?_,fun h1=>⟨fun h2=>?_,fun h2=>?_⟩⟩,fun h=>?_⟩
 all_goals
  unfold wE;dsimp only;split <;> (try split) <;> omega
def Qo:List UInt8×Int->List SV:=fun(w0,w1)=>[.agg [.str w0,.int .i64 w1]]
def Xq:List UInt8×Int->SV×List Prop:=fun(w0,w1)=>(.one (.bool (gT (w0,w1))),[w0.length<=1099511627776])
def UF:Con:=⟨true,[none],fun xs=>match xs with | [.agg [.str w0,.int .i64 w1]]=>some (Xq (w0,w1)) | _=>none⟩
noncomputable def LG:GP:=dC Qo Xq
theorem Iq:∀a b,(Qo a).map aB=(Qo b).map aB->a=b:=by
 rintro⟨a0,a1⟩ ⟨b0,b1⟩ h;simp only[Qo,zK,List.map_nil,aB,aW,zG,AV.one.injEq,AV.agg.injEq,Lf.int.injEq,Lf.str.injEq,Lf.bool.injEq,Lf.vrow.injEq,and_true,true_and,and_assoc] at h;obtain⟨h0,h1⟩:=h;subst h0 h1
 rfl
theorem Rb:dM LG UF:=bf Iq (fun⟨_,_⟩ ⟨_,_⟩=>rfl) (fun⟨_,_⟩=>rfl) fun xs r h=>by
 simp only[UF] at h;split at h
 .cases h;rename_i w0 w1;exact⟨(w0,w1),rfl,rfl⟩
 .cases h
theorem Xg {S:SC}(hB:SB S) (HY:aO S 298 (aA Dh)) (h337:S.has 337 f337):aO S 337 (aA LG):=by
 refine prM hB [] [⟨298,Dh,QV⟩] trivial ⟨⟨HY,EG⟩,trivial⟩ h337 (fun⟨w0,w1⟩=>⟨rfl,rfl,rfl⟩) (fun(w0,w1)=>fun _ _ _ _=>none) 400 ?_;rintro⟨w0,w1⟩ hc;have hc1:w0.length<=1099511627776:=hc.1;refine VC.use (p:=
  ((w0.length<=1099511627776)/\
  ((!decide (wE (w0,w1)=0))=gT (w0,w1)))) (by kernel_rfl) ?_
 exact⟨hc1,rfl⟩
def Rn:(List (List UInt8×Int))->List SV:=fun l=>[.one (.row (.pair .str (.int .i64)) l),.one (.fn 337 [])]
def Wi:(List (List UInt8×Int))->SV×List Prop:=fun l=>(.one (.int .i64 (kR l)),[l.length<=1099511627776,SmW l])
def TN:Con:=⟨true,[some (.pair .str (.int .i64)),none],fun xs=>match xs with | [.one (.row (.pair .str (.int .i64)) l),.one (.fn 337 [])]=>some (Wi l) | _=>none⟩
noncomputable def LP:GP:=dC Rn Wi
theorem MP:∀a b,(Rn a).map aB=(Rn b).map aB->a=b:=by
 rintro a0 b0 h;simp only[Rn,zK,List.map_nil,aB,aW,zG,AV.one.injEq,AV.agg.injEq,Lf.int.injEq,Lf.str.injEq,Lf.bool.injEq,Lf.vrow.injEq,and_true,true_and] at h;exact dK h
theorem OG:dM LP TN:=bf MP (fun _ _=>rfl) (fun _=>rfl) fun xs r h=>by
 simp only[TN] at h;split at h
 .cases h;rename_i l;exact⟨l,rfl,rfl⟩
 .cases h
theorem XP {S:SC}(hB:SB S) (VO:aO S 337 (aA LG)) (h336:S.has 336 f336):aO S 336 (aA LP):=by
 refine prM hB [] [⟨337,LG,UF⟩] trivial ⟨⟨VO,Rb⟩,trivial⟩ h336 (fun _=>⟨rfl,rfl,rfl⟩) (fun l=>fun f id T L=>match f,id with
  |336,0=>some (.inv { i:Nat // i<=l.length/\∀j,j<i->gT (l.getD j ([],0))=false } (fun x=>([(8,.one (.int .i64 x.1))],[])) (fun x=>l.length-x.1))
  |_,_=>none) 400 ?_
 rintro l hc;have hc1:l.length<=1099511627776:=hc.1;have hc2:SmW l:=hc.2.1;refine VC.use (p:=
  ((∃ x1:{ i:Nat // i≤l.length∧∀ (j:Nat),j < i→gT   (l.getD j ([],0))=false },
    ((l=l)/\
    (((l.length:Int)=(l.length:Int))/\
    (0=(x1.1:Int)))))/\
  (∀ x1 : { i : Nat // i ≤ l.length ∧ ∀ (j : Nat), j < i → gT   (l.getD j ([], 0)) = false },
   (((↑x1.val:Int) < (↑l.length:Int) →
     ((0<=(x1.1:Int)/\(x1.1:Int)<(l.length:Int))/\
     ((List.length (l.getD x1.1 ([],0)).1<=1099511627776)/\
     ((gT   ((l.getD x1.val ([],0)).fst,(l.getD x1.val ([],0)).snd)=true →
       ((x1.1:Int)=kR l))/\
     (¬gT   ((l.getD x1.val ([], 0)).fst, (l.getD x1.val ([], 0)).snd) = true →
      ((aL ((x1.1:Int)+1))/\
      (∃ x2 : { i : Nat // i ≤ l.length ∧ ∀ (j : Nat), j < i → gT   (l.getD j ([], 0)) = false },
       ((l.length-x2.1<l.length-x1.1)/\
       ((l=l)/\
       (((l.length:Int)=(l.length:Int))/\
       ((x1.1:Int)+1=(x2.1:Int))))))))))))/\
   (¬(↑x1.val : Int) < (↑l.length : Int) →
    (-1=kR l)))))) (by kernel_rfl) ?_
 refine⟨⟨⟨0,Nat.zero_le _,fun j h=>absurd h (zS _)⟩,rfl,rfl,rfl⟩,?_⟩;rintro⟨i,hi,ha⟩;dsimp only;exact⟨fun h=>⟨by omega,hc2.at i,fun h1=>(Iu (by omega) ha h1).symm,fun h1=>⟨by unfold aL;omega,⟨i+1,by omega,tJ ha (by simpa using h1)⟩,by show l.length-(i+1)<l.length-i;omega,rfl,rfl,rfl⟩⟩,fun h=>(He fun j hj=>ha j (by omega)).symm⟩
def Ps:(List (List UInt8×Int))->List SV:=fun l=>[.one (.row (.pair .str (.int .i64)) l)]
def Wl:(List (List UInt8×Int))->SV×List Prop:=fun l=>(.one (.int .i64 (dW l)),[l.length<=1099511627776,SmW l])
def SI:Con:=⟨true,[some (.pair .str (.int .i64))],fun xs=>match xs with | [.one (.row (.pair .str (.int .i64)) l)]=>some (Wl l) | _=>none⟩
noncomputable def IB:GP:=dC Ps Wl
theorem Ky:∀a b,(Ps a).map aB=(Ps b).map aB->a=b:=by
 rintro a0 b0 h;simp only[Ps,zK,List.map_nil,aB,aW,zG,AV.one.injEq,AV.agg.injEq,Lf.int.injEq,Lf.str.injEq,Lf.bool.injEq,Lf.vrow.injEq,and_true,true_and] at h;exact dK h
theorem QG:dM IB SI:=bf Ky (fun _ _=>rfl) (fun _=>rfl) fun xs r h=>by
 simp only[SI] at h;split at h
 .cases h;rename_i l;exact⟨l,rfl,rfl⟩
 .cases h
theorem XV {S:SC}(hB:SB S) (TT:aO S 336 (aA LP)) (HY:aO S 298 (aA Dh)) (h318:S.has 318 f318):aO S 318 (aA IB):=by
 refine prM hB [] [⟨336,LP,TN⟩,⟨298,Dh,QV⟩] trivial ⟨⟨TT,OG⟩,⟨HY,EG⟩,trivial⟩ h318 (fun _=>⟨rfl,rfl,rfl⟩) (fun l=>fun _ _ _ _=>none) 400 ?_;rintro l hc;have hc1:l.length<=1099511627776:=hc.1;have hc2:SmW l:=hc.2.1;refine VC.use (p:=
  ((l.length<=1099511627776)/\
  ((SmW l)/\
  ((kR   l < 0 →
    (0=dW l))/\
  (¬kR   l < 0 →
   ((0<=kR l/\kR l<(l.length:Int))/\
   ((List.length (l.getD (kR l).toNat ([],0)).1<=1099511627776)/\
   (wE ((l.getD (kR l).toNat ([],0)).1,(l.getD (kR l).toNat ([],0)).2)=dW l)))))))) (by kernel_rfl) ?_
 refine⟨hc1,hc2,?_⟩;rcases GM l with ⟨h1,h2⟩ | ⟨i,h1,h2,h3⟩
 .rw[h1,h2];exact⟨fun _=>rfl,fun h=>absurd h (by decide)⟩
 .rw[h2];exact⟨fun h=>absurd h (by omega),fun _=>⟨by omega,hc2.at _,h3⟩⟩
def Qt:(List (List UInt8×Int))->List SV:=fun l=>[.one (.row (.pair .str (.int .i64)) l)]
def WJ:(List (List UInt8×Int))->SV×List Prop:=fun l=>(.one (.int .i64 (isE l)),[l.length<=1099511627776,SmW l])
def NI:Con:=⟨true,[some (.pair .str (.int .i64))],fun xs=>match xs with | [.one (.row (.pair .str (.int .i64)) l)]=>some (WJ l) | _=>none⟩
noncomputable def wU:GP:=dC Qt WJ
theorem LY:∀a b,(Qt a).map aB=(Qt b).map aB->a=b:=by
 rintro a0 b0 h;simp only[Qt,zK,List.map_nil,aB,aW,zG,AV.one.injEq,AV.agg.injEq,Lf.int.injEq,Lf.str.injEq,Lf.bool.injEq,Lf.vrow.injEq,and_true,true_and] at h;exact dK h
theorem xg:dM wU NI:=bf LY (fun _ _=>rfl) (fun _=>rfl) fun xs r h=>by
 simp only[NI] at h;split at h
 .cases h;rename_i l;exact⟨l,rfl,rfl⟩
 .cases h
theorem Xt {S:SC}(hB:SB S) (VI:aO S 318 (aA IB)) (h296:S.has 296 f296):aO S 296 (aA wU):=by
 refine prM hB [] [⟨318,IB,SI⟩] trivial ⟨⟨VI,QG⟩,trivial⟩ h296 (fun _=>⟨rfl,rfl,rfl⟩) (fun l=>fun f id T L=>match f,id with
  |296,0=>some (.inv { i:Nat // i<=l.length/\∀j,j+1<i->ltW (l.getD j ([],0)) (l.getD (j+1) ([],0))=true } (fun x=>([(12,.one (.int .i64 x.1))],[])) (fun x=>l.length-x.1))
  |_,_=>none) 400 ?_
 rintro l hc;have hc1:l.length<=1099511627776:=hc.1;have hc2:SmW l:=hc.2.1;refine VC.use (p:=
  ((l.length<=1099511627776)/\
  ((SmW l)/\
  ((dW   l=0 →
    ((∃ x1:{ i:Nat // i≤l.length∧∀ (j:Nat),j+1 < i→ltW (l.getD j ([],0)) (l.getD (j+1) ([],0))=true },
      ((l=l)/\
      (((l.length:Int)=(l.length:Int))/\
      (0=(x1.1:Int)))))/\
    (∀ x1 : { i : Nat // i ≤ l.length ∧ ∀ (j : Nat), j + 1 < i → ltW (l.getD j ([], 0)) (l.getD (j + 1) ([], 0)) = true },
     (((↑x1.val:Int) < (↑l.length:Int) →
       ((0 < (↑x1.val:Int) →
         ((aL ((x1.1:Int)-1))/\
         ((0<=(x1.1:Int)-1/\(x1.1:Int)-1<(l.length:Int))/\
         ((0<=(x1.1:Int)/\(x1.1:Int)<(l.length:Int))/\
         (((!aM    (l.getD ((↑x1.val:Int) - 1).toNat ([],0)).fst (l.getD x1.val ([],0)).fst)=true →
           (7=isE l))/\
         (¬(!aM    (l.getD ((↑x1.val : Int) - 1).toNat ([], 0)).fst (l.getD x1.val ([], 0)).fst) = true →
          ((aL ((x1.1:Int)+1))/\
          (∃ x2 : { i : Nat // i ≤ l.length ∧ ∀ (j : Nat), j + 1 < i → ltW (l.getD j ([], 0)) (l.getD (j + 1) ([], 0)) = true },
           ((l.length-x2.1<l.length-x1.1)/\
           ((l=l)/\
           (((l.length:Int)=(l.length:Int))/\
           ((x1.1:Int)+1=(x2.1:Int)))))))))))))/\
       (¬0 < (↑x1.val : Int) →
        ((aL ((x1.1:Int)+1))/\
        (∃ x2 : { i : Nat // i ≤ l.length ∧ ∀ (j : Nat), j + 1 < i → ltW (l.getD j ([], 0)) (l.getD (j + 1) ([], 0)) = true },
         ((l.length-x2.1<l.length-x1.1)/\
         ((l=l)/\
         (((l.length:Int)=(l.length:Int))/\
         ((x1.1:Int)+1=(x2.1:Int))))))))))/\
     (¬(↑x1.val : Int) < (↑l.length : Int) →
      ((65536 < (↑l.length:Int) →
        (6=isE l))/\
      (¬65536 < (↑l.length : Int) →
       (0=isE l))))))))/\
  (¬dW   l = 0 →
   (dW l=isE l)))))) (by kernel_rfl) ?_
 refine⟨hc1,hc2,fun he=>⟨⟨⟨0,Nat.zero_le _,fun j h=>absurd h (by omega)⟩,rfl,rfl,rfl⟩,?_⟩,fun he=>?_⟩
 .rintro⟨i,hi,ha⟩;dsimp only;refine⟨fun h=>⟨fun h0=>⟨by unfold aL;omega,by omega,by omega,Wj he h0 (by omega),fun h1=>⟨by unfold aL;omega,⟨i+1,by omega,Aq ha fun _=>h1⟩,by show l.length-(i+1)<l.length-i;omega,rfl,rfl,rfl⟩⟩,fun h0=>⟨by unfold aL;omega,⟨i+1,by omega,Aq ha fun h1=>absurd h1 h0⟩,by show l.length-(i+1)<l.length-i;omega,rfl,rfl,rfl⟩⟩,fun h=>?_⟩;rw[NQ he fun j hj=>ha j (by omega)];exact⟨fun h1=>by rw[if_pos (by omega)],fun h1=>by rw[if_neg (by omega)]⟩
 .unfold isE;rw[if_neg he]
def Pg:List UInt8×Int->List SV:=fun(w0,w1)=>[.agg [.str w0,.int .i64 w1]]
def Xx:List UInt8×Int->SV×List Prop:=fun(w0,w1)=>(.one (.int .i64 (wE (w0,w1))),[w0.length<=1099511627776])
def Sz:Con:=⟨true,[none],fun xs=>match xs with | [.agg [.str w0,.int .i64 w1]]=>some (Xx (w0,w1)) | _=>none⟩
noncomputable def Lt:GP:=dC Pg Xx
theorem Iz:∀a b,(Pg a).map aB=(Pg b).map aB->a=b:=by
 rintro⟨a0,a1⟩ ⟨b0,b1⟩ h;simp only[Pg,zK,List.map_nil,aB,aW,zG,AV.one.injEq,AV.agg.injEq,Lf.int.injEq,Lf.str.injEq,Lf.bool.injEq,Lf.vrow.injEq,and_true,true_and,and_assoc] at h;obtain⟨h0,h1⟩:=h;subst h0 h1
 rfl
theorem Ro:dM Lt Sz:=bf Iz (fun⟨_,_⟩ ⟨_,_⟩=>rfl) (fun⟨_,_⟩=>rfl) fun xs r h=>by
 simp only[Sz] at h;split at h
 .cases h;rename_i w0 w1;exact⟨(w0,w1),rfl,rfl⟩
 .cases h
theorem WM {S:SC}(hB:SB S) (q21:aO S 21 (aA G21)) (h299:S.has 299 f299):aO S 299 (aA Lt):=by
 refine prM hB [] [⟨21,G21,K21⟩] trivial ⟨⟨q21,SG⟩,trivial⟩ h299 (fun⟨w0,w1⟩=>⟨rfl,rfl,rfl⟩) (fun(w0,w1)=>fun _ _ _ _=>none) 400 ?_;rintro⟨w0,w1⟩ hc;have hc1:w0.length<=1099511627776:=hc.1;refine VC.use (p:=
  ((w0.length<=1099511627776)/\
  ((ek   w0=0 →
    ((w1 < 1 →
      (2=wE (w0,w1)))/\
    (¬w1 < 1 →
     ((1073741824 < w1 →
       (2=wE (w0,w1)))/\
     (¬1073741824 < w1 →
      (0=wE (w0,w1)))))))/\
  (¬ek   w0 = 0 →
   (ek w0=wE (w0,w1)))))) (by kernel_rfl) ?_
 refine⟨hc1,fun h=>⟨fun h1=>?_,fun h1=>⟨fun h2=>?_,fun h2=>?_⟩⟩,fun h=>?_⟩
 all_goals
  unfold wE;dsimp only;split <;> (try split) <;> omega
def OP:(List (List UInt8×Int))->List SV:=fun l=>[.one (.row (.pair .str (.int .i64)) l)]
def XJ:(List (List UInt8×Int))->SV×List Prop:=fun l=>(.one (.int .i64 (dW l)),[l.length<=1099511627776,SmW l])
def UD:Con:=⟨true,[some (.pair .str (.int .i64))],fun xs=>match xs with | [.one (.row (.pair .str (.int .i64)) l)]=>some (XJ l) | _=>none⟩
noncomputable def Mk:GP:=dC OP XJ
theorem IL:∀a b,(OP a).map aB=(OP b).map aB->a=b:=by
 rintro a0 b0 h;simp only[OP,zK,List.map_nil,aB,aW,zG,AV.one.injEq,AV.agg.injEq,Lf.int.injEq,Lf.str.injEq,Lf.bool.injEq,Lf.vrow.injEq,and_true,true_and] at h;exact dK h
theorem NK:dM Mk UD:=bf IL (fun _ _=>rfl) (fun _=>rfl) fun xs r h=>by
 simp only[UD] at h;split at h
 .cases h;rename_i l;exact⟨l,rfl,rfl⟩
 .cases h
theorem Xo {S:SC}(hB:SB S) (UK:aO S 299 (aA Lt)) (h317:S.has 317 f317):aO S 317 (aA Mk):=by
 refine prM hB [] [⟨299,Lt,Sz⟩] trivial ⟨⟨UK,Ro⟩,trivial⟩ h317 (fun _=>⟨rfl,rfl,rfl⟩) (fun l=>fun f id T L=>match f,id with
  |317,0=>some (.inv { i:Nat // i<=l.length/\∀j,j<i->gT (l.getD j ([],0))=false } (fun x=>([(8,.one (.int .i64 x.1))],[])) (fun x=>l.length-x.1))
  |_,_=>none) 400 ?_
 rintro l hc;have hc1:l.length<=1099511627776:=hc.1;have hc2:SmW l:=hc.2.1;refine VC.use (p:=
  ((∃ x1:{ i:Nat // i≤l.length∧∀ (j:Nat),j < i→gT   (l.getD j ([],0))=false },
    ((l=l)/\
    (((l.length:Int)=(l.length:Int))/\
    (0=(x1.1:Int)))))/\
  (∀ x1 : { i : Nat // i ≤ l.length ∧ ∀ (j : Nat), j < i → gT   (l.getD j ([], 0)) = false },
   (((↑x1.val:Int) < (↑l.length:Int) →
     ((0<=(x1.1:Int)/\(x1.1:Int)<(l.length:Int))/\
     ((List.length (l.getD x1.1 ([],0)).1<=1099511627776)/\
     ((wE ((l.getD x1.val ([],0)).fst,(l.getD x1.val ([],0)).snd)=0 →
       ((aL ((x1.1:Int)+1))/\
       (∃ x2 : { i : Nat // i ≤ l.length ∧ ∀ (j : Nat), j < i → gT   (l.getD j ([], 0)) = false },
        ((l.length-x2.1<l.length-x1.1)/\
        ((l=l)/\
        (((l.length:Int)=(l.length:Int))/\
        ((x1.1:Int)+1=(x2.1:Int))))))))/\
     (¬wE ((l.getD x1.val ([], 0)).fst, (l.getD x1.val ([], 0)).snd) = 0 →
      (wE ((l.getD x1.1 ([],0)).1,(l.getD x1.1 ([],0)).2)=dW l))))))/\
   (¬(↑x1.val : Int) < (↑l.length : Int) →
    (0=dW l)))))) (by kernel_rfl) ?_
 refine⟨⟨⟨0,Nat.zero_le _,fun j h=>absurd h (zS _)⟩,rfl,rfl,rfl⟩,?_⟩;rintro⟨i,hi,ha⟩;dsimp only;exact⟨fun h=>⟨by omega,hc2.at i,fun h1=>⟨by unfold aL;omega,⟨i+1,by omega,tJ ha (xq.2 h1)⟩,by show l.length-(i+1)<l.length-i;omega,rfl,rfl,rfl⟩,fun h1=>(xB (by omega) ha (ME.2 h1)).symm⟩,fun h=>(pO fun j hj=>ha j (by omega)).symm⟩
end Go.EA
