/- Layer 9: whether words may be, are normal; words each once, in order. Conditions: none. -/
import Derived.Test.YtpgjilomblpcpaaDoorEK12
import Derived.Test.YtpgjilomblpcpaaDoorERu
import Derived.Test.YtpgjilomblpcpaaDoorEAf1
import Derived.Test.YtpgjilomblpcpaaDoorEK9
import Derived.Test.YtpgjilomblpcpaaDoorEMean6
import Derived.Test.YtpgjilomblpcpaaDoorERx
import Derived.Test.YtpgjilomblpcpaaDoorEMean1
import Derived.KernelRfl
set_option linter.unusedVariables false
set_option linter.unusedSimpArgs false
set_option maxRecDepth 100000
set_option maxHeartbeats 0
namespace Go.EA
open F
def NI:List UInt8×Int->List SV:=fun(w0,w1)=>[.agg [.str w0,.int .i64 w1]]
def VZ:List UInt8×Int->SV×List Prop:=fun(w0,w1)=>(.one (.int .i64 (wE (w0,w1))),[w0.length<=1099511627776])
def Ot:Con:=⟨true,[none],fun xs=>match xs with | [.agg [.str w0,.int .i64 w1]]=>some (VZ (w0,w1)) | _=>none⟩
noncomputable def Du:GP:=fH NI VZ
theorem La:∀a b,(NI a).map aH=(NI b).map aH->a=b:=by
 rintro⟨a0,a1⟩ ⟨b0,b1⟩ h;simp only[NI,zK,List.map_nil,aH,bi,zG,AV.one.injEq,AV.agg.injEq,Lf.int.injEq,Lf.str.injEq,Lf.bool.injEq,Lf.vrow.injEq,and_true,true_and,and_assoc] at h;obtain⟨h0,h1⟩:=h;subst h0 h1
 rfl
theorem Fp:gH Du Ot:=bP La (fun⟨_,_⟩ ⟨_,_⟩=>rfl) (fun⟨_,_⟩=>rfl) fun xs r h=>by
 simp only[Ot] at h;split at h
 .cases h;rename_i w0 w1;exact⟨(w0,w1),rfl,rfl⟩
 .cases h
theorem Wy {S:SC}(hB:SB S) (q20:aX S 20 (aI G20)) (h298:S.has 298 f298):aX S 298 (aI Du):=by
 refine prM hB [] [⟨20,G20,K20⟩] trivial ⟨⟨q20,UY⟩,trivial⟩ h298 (fun⟨w0,w1⟩=>⟨rfl,rfl,rfl⟩) (fun(w0,w1)=>fun _ _ _ _=>none) 400 ?_;rintro⟨w0,w1⟩ hc;have hc1:w0.length<=1099511627776:=hc.1;refine VC.use (p:=
  ((w0.length<=1099511627776)/\
  ((fQ   w0=0 →
    ((w1 < 1 →
      (2=wE (w0,w1)))/\
    (¬w1 < 1 →
     ((1073741824 < w1 →
       (2=wE (w0,w1)))/\
     (¬1073741824 < w1 →
      (fQ w0=wE (w0,w1)))))))/\
  (¬fQ   w0 = 0 →
   (fQ w0=wE (w0,w1)))))) (by kernel_rfl) ?_
 refine⟨hc1,fun h=>⟨fun h1=>?_,fun h1=>⟨fun h2=>?_,fun h2=>?_⟩⟩,fun h=>?_⟩
 all_goals
  unfold wE;dsimp only;split <;> (try split) <;> omega
def Ow:List UInt8×Int->List SV:=fun(w0,w1)=>[.agg [.str w0,.int .i64 w1]]
def VB:List UInt8×Int->SV×List Prop:=fun(w0,w1)=>(.one (.bool (jG (w0,w1))),[w0.length<=1099511627776])
def Uk:Con:=⟨true,[none],fun xs=>match xs with | [.agg [.str w0,.int .i64 w1]]=>some (VB (w0,w1)) | _=>none⟩
noncomputable def MK:GP:=fH Ow VB
theorem Nv:∀a b,(Ow a).map aH=(Ow b).map aH->a=b:=by
 rintro⟨a0,a1⟩ ⟨b0,b1⟩ h;simp only[Ow,zK,List.map_nil,aH,bi,zG,AV.one.injEq,AV.agg.injEq,Lf.int.injEq,Lf.str.injEq,Lf.bool.injEq,Lf.vrow.injEq,and_true,true_and,and_assoc] at h;obtain⟨h0,h1⟩:=h;subst h0 h1
 rfl
theorem QW:gH MK Uk:=bP Nv (fun⟨_,_⟩ ⟨_,_⟩=>rfl) (fun⟨_,_⟩=>rfl) fun xs r h=>by
 simp only[Uk] at h;split at h
 .cases h;rename_i w0 w1;exact⟨(w0,w1),rfl,rfl⟩
 .cases h
theorem Wo {S:SC}(hB:SB S) (Iu:aX S 298 (aI Du)) (h337:S.has 337 f337):aX S 337 (aI MK):=by
 refine prM hB [] [⟨298,Du,Ot⟩] trivial ⟨⟨Iu,Fp⟩,trivial⟩ h337 (fun⟨w0,w1⟩=>⟨rfl,rfl,rfl⟩) (fun(w0,w1)=>fun _ _ _ _=>none) 400 ?_;rintro⟨w0,w1⟩ hc;have hc1:w0.length<=1099511627776:=hc.1;refine VC.use (p:=
  ((w0.length<=1099511627776)/\
  ((!decide (wE (w0,w1)=0))=jG (w0,w1)))) (by kernel_rfl) ?_
 exact⟨hc1,rfl⟩
def Ql:(List (List UInt8×Int))->List SV:=fun l=>[.one (.row (.pair .str (.int .i64)) l),.one (.fn 337 [])]
def Vy:(List (List UInt8×Int))->SV×List Prop:=fun l=>(.one (.int .i64 (lY l)),[l.length<=1099511627776,SmW l])
def Vb:Con:=⟨true,[some (.pair .str (.int .i64)),none],fun xs=>match xs with | [.one (.row (.pair .str (.int .i64)) l),.one (.fn 337 [])]=>some (Vy l) | _=>none⟩
noncomputable def Lg:GP:=fH Ql Vy
theorem Nj:∀a b,(Ql a).map aH=(Ql b).map aH->a=b:=by
 rintro a0 b0 h;simp only[Ql,zK,List.map_nil,aH,bi,zG,AV.one.injEq,AV.agg.injEq,Lf.int.injEq,Lf.str.injEq,Lf.bool.injEq,Lf.vrow.injEq,and_true,true_and] at h;exact gG h
theorem OQ:gH Lg Vb:=bP Nj (fun _ _=>rfl) (fun _=>rfl) fun xs r h=>by
 simp only[Vb] at h;split at h
 .cases h;rename_i l;exact⟨l,rfl,rfl⟩
 .cases h
theorem VF {S:SC}(hB:SB S) (Uj:aX S 337 (aI MK)) (h336:S.has 336 f336):aX S 336 (aI Lg):=by
 refine prM hB [] [⟨337,MK,Uk⟩] trivial ⟨⟨Uj,QW⟩,trivial⟩ h336 (fun _=>⟨rfl,rfl,rfl⟩) (fun l=>fun f id T L=>match f,id with
  |336,0=>some (.inv { i:Nat // i<=l.length/\∀j,j<i->jG (l.getD j ([],0))=false } (fun x=>([(8,.one (.int .i64 x.1))],[])) (fun x=>l.length-x.1))
  |_,_=>none) 400 ?_
 rintro l hc;have hc1:l.length<=1099511627776:=hc.1;have hc2:SmW l:=hc.2.1;refine VC.use (p:=
  ((∃ x1:{ i:Nat // i≤l.length∧∀ (j:Nat),j < i→jG   (l.getD j ([],0))=false },
    ((l=l)/\
    (((l.length:Int)=(l.length:Int))/\
    (0=(x1.1:Int)))))/\
  (∀ x1 : { i : Nat // i ≤ l.length ∧ ∀ (j : Nat), j < i → jG   (l.getD j ([], 0)) = false },
   (((↑x1.val:Int) < (↑l.length:Int) →
     ((0<=(x1.1:Int)/\(x1.1:Int)<(l.length:Int))/\
     ((List.length (l.getD x1.1 ([],0)).1<=1099511627776)/\
     ((jG   ((l.getD x1.val ([],0)).fst,(l.getD x1.val ([],0)).snd)=true →
       ((x1.1:Int)=lY l))/\
     (¬jG   ((l.getD x1.val ([], 0)).fst, (l.getD x1.val ([], 0)).snd) = true →
      ((ak ((x1.1:Int)+1))/\
      (∃ x2 : { i : Nat // i ≤ l.length ∧ ∀ (j : Nat), j < i → jG   (l.getD j ([], 0)) = false },
       ((l.length-x2.1<l.length-x1.1)/\
       ((l=l)/\
       (((l.length:Int)=(l.length:Int))/\
       ((x1.1:Int)+1=(x2.1:Int))))))))))))/\
   (¬(↑x1.val : Int) < (↑l.length : Int) →
    (-1=lY l)))))) (by kernel_rfl) ?_
 refine⟨⟨⟨0,Nat.zero_le _,fun j h=>absurd h (zS _)⟩,rfl,rfl,rfl⟩,?_⟩;rintro⟨i,hi,ha⟩;dsimp only;exact⟨fun h=>⟨by omega,hc2.at i,fun h1=>(LH (by omega) ha h1).symm,fun h1=>⟨by unfold ak;omega,⟨i+1,by omega,LX ha (by simpa using h1)⟩,by show l.length-(i+1)<l.length-i;omega,rfl,rfl,rfl⟩⟩,fun h=>(Gm fun j hj=>ha j (by omega)).symm⟩
def NM:(List (List UInt8×Int))->List SV:=fun l=>[.one (.row (.pair .str (.int .i64)) l)]
def Xh:(List (List UInt8×Int))->SV×List Prop:=fun l=>(.one (.int .i64 (eO l)),[l.length<=1099511627776,SmW l])
def PL:Con:=⟨true,[some (.pair .str (.int .i64))],fun xs=>match xs with | [.one (.row (.pair .str (.int .i64)) l)]=>some (Xh l) | _=>none⟩
noncomputable def Dw:GP:=fH NM Xh
theorem JO:∀a b,(NM a).map aH=(NM b).map aH->a=b:=by
 rintro a0 b0 h;simp only[NM,zK,List.map_nil,aH,bi,zG,AV.one.injEq,AV.agg.injEq,Lf.int.injEq,Lf.str.injEq,Lf.bool.injEq,Lf.vrow.injEq,and_true,true_and] at h;exact gG h
theorem Fq:gH Dw PL:=bP JO (fun _ _=>rfl) (fun _=>rfl) fun xs r h=>by
 simp only[PL] at h;split at h
 .cases h;rename_i l;exact⟨l,rfl,rfl⟩
 .cases h
theorem Wu {S:SC}(hB:SB S) (Tz:aX S 336 (aI Lg)) (Iu:aX S 298 (aI Du)) (h318:S.has 318 f318):aX S 318 (aI Dw):=by
 refine prM hB [] [⟨336,Lg,Vb⟩,⟨298,Du,Ot⟩] trivial ⟨⟨Tz,OQ⟩,⟨Iu,Fp⟩,trivial⟩ h318 (fun _=>⟨rfl,rfl,rfl⟩) (fun l=>fun _ _ _ _=>none) 400 ?_;rintro l hc;have hc1:l.length<=1099511627776:=hc.1;have hc2:SmW l:=hc.2.1;refine VC.use (p:=
  ((l.length<=1099511627776)/\
  ((SmW l)/\
  ((lY   l < 0 →
    (0=eO l))/\
  (¬lY   l < 0 →
   ((0<=lY l/\lY l<(l.length:Int))/\
   ((List.length (l.getD (lY l).toNat ([],0)).1<=1099511627776)/\
   (wE ((l.getD (lY l).toNat ([],0)).1,(l.getD (lY l).toNat ([],0)).2)=eO l)))))))) (by kernel_rfl) ?_
 refine⟨hc1,hc2,?_⟩;rcases GG l with ⟨h1,h2⟩ | ⟨i,h1,h2,h3⟩
 .rw[h1,h2];exact⟨fun _=>rfl,fun h=>absurd h (by decide)⟩
 .rw[h2];exact⟨fun h=>absurd h (by omega),fun _=>⟨by omega,hc2.at _,h3⟩⟩
def NP:(List (List UInt8×Int))->List SV:=fun l=>[.one (.row (.pair .str (.int .i64)) l)]
def Xd:(List (List UInt8×Int))->SV×List Prop:=fun l=>(.one (.int .i64 (isE l)),[l.length<=1099511627776,SmW l])
def TM:Con:=⟨true,[some (.pair .str (.int .i64))],fun xs=>match xs with | [.one (.row (.pair .str (.int .i64)) l)]=>some (Xd l) | _=>none⟩
noncomputable def Nk:GP:=fH NP Xd
theorem KZ:∀a b,(NP a).map aH=(NP b).map aH->a=b:=by
 rintro a0 b0 h;simp only[NP,zK,List.map_nil,aH,bi,zG,AV.one.injEq,AV.agg.injEq,Lf.int.injEq,Lf.str.injEq,Lf.bool.injEq,Lf.vrow.injEq,and_true,true_and] at h;exact gG h
theorem Ob:gH Nk TM:=bP KZ (fun _ _=>rfl) (fun _=>rfl) fun xs r h=>by
 simp only[TM] at h;split at h
 .cases h;rename_i l;exact⟨l,rfl,rfl⟩
 .cases h
theorem VS {S:SC}(hB:SB S) (Ir:aX S 318 (aI Dw)) (h296:S.has 296 f296):aX S 296 (aI Nk):=by
 refine prM hB [] [⟨318,Dw,PL⟩] trivial ⟨⟨Ir,Fq⟩,trivial⟩ h296 (fun _=>⟨rfl,rfl,rfl⟩) (fun l=>fun f id T L=>match f,id with
  |296,0=>some (.inv { i:Nat // i<=l.length/\∀j,j+1<i->ltW (l.getD j ([],0)) (l.getD (j+1) ([],0))=true } (fun x=>([(12,.one (.int .i64 x.1))],[])) (fun x=>l.length-x.1))
  |_,_=>none) 400 ?_
 rintro l hc;have hc1:l.length<=1099511627776:=hc.1;have hc2:SmW l:=hc.2.1;refine VC.use (p:=
  ((l.length<=1099511627776)/\
  ((SmW l)/\
  ((eO   l=0 →
    ((∃ x1:{ i:Nat // i≤l.length∧∀ (j:Nat),j+1 < i→ltW (l.getD j ([],0)) (l.getD (j+1) ([],0))=true },
      ((l=l)/\
      (((l.length:Int)=(l.length:Int))/\
      (0=(x1.1:Int)))))/\
    (∀ x1 : { i : Nat // i ≤ l.length ∧ ∀ (j : Nat), j + 1 < i → ltW (l.getD j ([], 0)) (l.getD (j + 1) ([], 0)) = true },
     (((↑x1.val:Int) < (↑l.length:Int) →
       ((0 < (↑x1.val:Int) →
         ((ak ((x1.1:Int)-1))/\
         ((0<=(x1.1:Int)-1/\(x1.1:Int)-1<(l.length:Int))/\
         ((0<=(x1.1:Int)/\(x1.1:Int)<(l.length:Int))/\
         (((!bu    (l.getD ((↑x1.val:Int) - 1).toNat ([],0)).fst (l.getD x1.val ([],0)).fst)=true →
           (7=isE l))/\
         (¬(!bu    (l.getD ((↑x1.val : Int) - 1).toNat ([], 0)).fst (l.getD x1.val ([], 0)).fst) = true →
          ((ak ((x1.1:Int)+1))/\
          (∃ x2 : { i : Nat // i ≤ l.length ∧ ∀ (j : Nat), j + 1 < i → ltW (l.getD j ([], 0)) (l.getD (j + 1) ([], 0)) = true },
           ((l.length-x2.1<l.length-x1.1)/\
           ((l=l)/\
           (((l.length:Int)=(l.length:Int))/\
           ((x1.1:Int)+1=(x2.1:Int)))))))))))))/\
       (¬0 < (↑x1.val : Int) →
        ((ak ((x1.1:Int)+1))/\
        (∃ x2 : { i : Nat // i ≤ l.length ∧ ∀ (j : Nat), j + 1 < i → ltW (l.getD j ([], 0)) (l.getD (j + 1) ([], 0)) = true },
         ((l.length-x2.1<l.length-x1.1)/\
         ((l=l)/\
         (((l.length:Int)=(l.length:Int))/\
         ((x1.1:Int)+1=(x2.1:Int))))))))))/\
     (¬(↑x1.val : Int) < (↑l.length : Int) →
      ((65536 < (↑l.length:Int) →
        (6=isE l))/\
      (¬65536 < (↑l.length : Int) →
       (0=isE l))))))))/\
  (¬eO   l = 0 →
   (eO l=isE l)))))) (by kernel_rfl) ?_
 refine⟨hc1,hc2,fun he=>⟨⟨⟨0,Nat.zero_le _,fun j h=>absurd h (by omega)⟩,rfl,rfl,rfl⟩,?_⟩,fun he=>?_⟩
 .rintro⟨i,hi,ha⟩;dsimp only;refine⟨fun h=>⟨fun h0=>⟨by unfold ak;omega,by omega,by omega,WL he h0 (by omega),fun h1=>⟨by unfold ak;omega,⟨i+1,by omega,Ar ha fun _=>h1⟩,by show l.length-(i+1)<l.length-i;omega,rfl,rfl,rfl⟩⟩,fun h0=>⟨by unfold ak;omega,⟨i+1,by omega,Ar ha fun h1=>absurd h1 h0⟩,by show l.length-(i+1)<l.length-i;omega,rfl,rfl,rfl⟩⟩,fun h=>?_⟩;rw[Oh he fun j hj=>ha j (by omega)];exact⟨fun h1=>by rw[if_pos (by omega)],fun h1=>by rw[if_neg (by omega)]⟩
 .unfold isE;rw[if_neg he]
def PX:(List (List UInt8×Int))->List SV:=fun l=>[.one (.row (.pair .str (.int .i64)) l)]
def Wj:(List (List UInt8×Int))->SV×List Prop:=fun l=>(.tup [.o (.row WdT (bf l)),.o (.int .i64 (lg l))],[l.length<=1099511627776,SmW l])
def Uz:Con:=⟨false,[some (.pair .str (.int .i64))],fun xs=>match xs with | [.one (.row (.pair .str (.int .i64)) l)]=>some (Wj l) | _=>none⟩
noncomputable def Jm:GP:=fH PX Wj
theorem Jf:∀a b,(PX a).map aH=(PX b).map aH->a=b:=by
 rintro a0 b0 h;simp only[PX,zK,List.map_nil,aH,bi,zG,AV.one.injEq,AV.agg.injEq,Lf.int.injEq,Lf.str.injEq,Lf.bool.injEq,Lf.vrow.injEq,and_true,true_and] at h;exact gG h
theorem Qd:gH Jm Uz:=bP Jf (fun _ _=>rfl) (fun _=>rfl) fun xs r h=>by
 simp only[Uz] at h;split at h
 .cases h;rename_i l;exact⟨l,rfl,rfl⟩
 .cases h
theorem WR {S:SC}(hB:SB S) (TI:bJ S 348 Hr) (Ir:aX S 318 (aI Dw)) (h319:S.has 319 f319) (h338:S.has 338 f338) (h339:S.has 339 f339) (h347:S.has 347 f347) (h320:S.has 320 f320) (h340:S.has 340 f340) (h295:S.has 295 f295):aX S 295 (aI Jm):=by
 refine Xb hB [(319,f319),(338,f338),(339,f339),(347,f347),(320,f320),(340,f340)] [⟨318,Dw,PL⟩] [(348,Hr)] ⟨h319,h338,h339,h347,h320,h340,trivial⟩ ⟨⟨Ir,Fq⟩,trivial⟩ ⟨TI,trivial⟩ h295 (fun _=>⟨rfl,rfl,rfl⟩) (fun l=>fun f id T L=>match f,id with
  |340,0=>some (.inv { i:Nat // i<=l.length } (fun x=>([(7,.one (.int .i64 x.1))],[(1,.cell [.osl 3]),(3,.row WdT (l.take x.1))])) (fun x=>l.length-x.1))
  |295,0=>match ae L 3 with | .row (.pair .str (.int .i64)) y=>some (.inv { i:Nat // i<=y.length } (fun x=>([(18,.one (.int .i64 x.1)),(5,.one (.osl 4))],[(4,.row WdT (aJ (y.take x.1)))])) (fun x=>y.length-x.1)) | _=>none
  |_,_=>none) 2000 ?_
 rintro l hc;have hc1:l.length<=1099511627776:=hc.1;have hc2:SmW l:=hc.2.1;refine VC.use (p:=
  ((l.length<=1099511627776)/\
  ((SmW l)/\
  ((eO   l=0 →
    ((∃ x1:{ i:Nat // i≤l.length },
      ((l=l)/\
      (((l.length:Int)=(l.length:Int))/\
      ((0=(x1.1:Int))/\
      ((l=l)/\
      ((List.take x1.1 l=[])/\
      (List.take x1.1 l=[])))))))/\
    (∀ x1 : { i : Nat // i ≤ l.length },
     (((↑x1.val:Int) < (↑l.length:Int) →
       ((0<=(x1.1:Int)/\(x1.1:Int)<(l.length:Int))/\
       ((((List.take x1.1 l).length+[((l.getD x1.1 ([],0)).1,(l.getD x1.1 ([],0)).2)].length)*24<=140737488355328)/\
       ((ak ((x1.1:Int)+1))/\
       (∃ x2 : { i : Nat // i ≤ l.length },
        ((l.length-x2.1<l.length-x1.1)/\
        ((l=l)/\
        (((l.length:Int)=(l.length:Int))/\
        (((x1.1:Int)+1=(x2.1:Int))/\
        ((l=l)/\
        (List.take x1.1 l++[((l.getD x1.1 ([],0)).1,(l.getD x1.1 ([],0)).2)]=List.take x2.1 l)))))))))))/\
     (¬(↑x1.val : Int) < (↑l.length : Int) →
      (((↑(List.take x1.1 l).length:Int)=(↑(List.take x1.1 l).length:Int))/\
      (((List.take x1.1 l).length<=1099511627776)/\
      (∀ x2 : (List (List UInt8 × Int)),
       (PI (List.take x1.val l) x2 0 (List.take x1.val l).length →
        (aW   ltW ([], 0) x2 0 (List.take x1.val l).length →
         ((∃ x3:{ i:Nat // i≤(x2).length },
           ((aJ (List.take x3.1 (x2))=[])/\
           (((↑(x2).length:Int)=(↑(x2).length:Int))/\
           ((0=(x3.1:Int))/\
           ((l=l)/\
           ((x2=x2)/\
           (aJ (List.take x3.1 (x2))=[])))))))/\
         (∀ x3 : { i : Nat // i ≤ (x2).length },
          (((↑x3.val:Int) < (↑(x2).length:Int) →
            ((0<=(x3.1:Int)/\(x3.1:Int)<(↑(x2).length:Int))/\
            ((x3.1<(x2).length)/\
            ((0 < (↑(aJ    (List.take x3.val (x2))).length:Int) →
              ((ak ((↑(aJ (List.take x3.1 (x2))).length:Int)-1))/\
              ((0<=(↑(aJ (List.take x3.1 (x2))).length:Int)-1/\(↑(aJ (List.take x3.1 (x2))).length:Int)-1<(↑(aJ (List.take x3.1 (x2))).length:Int))/\
              ((((↑(aJ (List.take x3.1 (x2))).length:Int)-1).toNat<(aJ (List.take x3.1 (x2))).length)/\
              ((((aJ    (List.take x3.val (x2))).getD ((↑(aJ    (List.take x3.val (x2))).length:Int) - 1).toNat ([],0)).fst=((x2).getD x3.val ([],0)).fst →
                ((ak ((↑(aJ (List.take x3.1 (x2))).length:Int)-1))/\
                ((ak ((↑(aJ (List.take x3.1 (x2))).length:Int)-1))/\
                ((0<=(↑(aJ (List.take x3.1 (x2))).length:Int)-1/\(↑(aJ (List.take x3.1 (x2))).length:Int)-1<(↑(aJ (List.take x3.1 (x2))).length:Int))/\
                ((((↑(aJ (List.take x3.1 (x2))).length:Int)-1).toNat<(aJ (List.take x3.1 (x2))).length)/\
                ((ak (((aJ (List.take x3.1 (x2))).getD ((↑(aJ (List.take x3.1 (x2))).length:Int)-1).toNat ([],0)).2+((x2).getD x3.1 ([],0)).2))/\
                ((0<=(↑(aJ (List.take x3.1 (x2))).length:Int)-1/\(↑(aJ (List.take x3.1 (x2))).length:Int)-1<(↑(aJ (List.take x3.1 (x2))).length:Int))/\
                ((((↑(aJ (List.take x3.1 (x2))).length:Int)-1).toNat<(aJ (List.take x3.1 (x2))).length)/\
                ((ak ((x3.1:Int)+1))/\
                (∃ x4 : { i : Nat // i ≤ (x2).length },
                 (((x2).length-x4.1<(x2).length-x3.1)/\
                 (((↑(x2).length:Int)=(↑(x2).length:Int))/\
                 (((x3.1:Int)+1=(x4.1:Int))/\
                 ((l=l)/\
                 ((x2=x2)/\
                 ((aJ (List.take x3.1 (x2))).set ((↑(aJ (List.take x3.1 (x2))).length:Int)-1).toNat     (((aJ (List.take x3.1 (x2))).getD ((↑(aJ (List.take x3.1 (x2))).length:Int)-1).toNat ([],0)).1,      (if 1073741824<((aJ (List.take x3.1 (x2))).getD ((↑(aJ (List.take x3.1 (x2))).length:Int)-1).toNat ([],0)).2+((x2).getD x3.1 ([],0)).2 then 1073741824 else ((aJ (List.take x3.1 (x2))).getD ((↑(aJ (List.take x3.1 (x2))).length:Int)-1).toNat ([],0)).2+((x2).getD x3.1 ([],0)).2)) =   aJ (List.take x4.1 (x2))))))))))))))))))/\
              (¬((aJ    (List.take x3.val (x2))).getD ((↑(aJ    (List.take x3.val (x2))).length : Int) - 1).toNat ([], 0)).fst = ((x2).getD x3.val ([], 0)).fst →
               ((((aJ (List.take x3.1 (x2))).length+[(((x2).getD x3.1 ([],0)).1,((x2).getD x3.1 ([],0)).2)].length)*24<=140737488355328)/\
               ((ak ((x3.1:Int)+1))/\
               (∃ x4 : { i : Nat // i ≤ (x2).length },
                (((x2).length-x4.1<(x2).length-x3.1)/\
                (((↑(x2).length:Int)=(↑(x2).length:Int))/\
                (((x3.1:Int)+1=(x4.1:Int))/\
                ((l=l)/\
                ((x2=x2)/\
                (aJ (List.take x3.1 (x2))++[(((x2).getD x3.1 ([],0)).1,((x2).getD x3.1 ([],0)).2)]=aJ (List.take x4.1 (x2)))))))))))))))))/\
            (¬0 < (↑(aJ    (List.take x3.val (x2))).length : Int) →
             ((((aJ (List.take x3.1 (x2))).length+[(((x2).getD x3.1 ([],0)).1,((x2).getD x3.1 ([],0)).2)].length)*24<=140737488355328)/\
             ((ak ((x3.1:Int)+1))/\
             (∃ x4 : { i : Nat // i ≤ (x2).length },
              (((x2).length-x4.1<(x2).length-x3.1)/\
              (((↑(x2).length:Int)=(↑(x2).length:Int))/\
              (((x3.1:Int)+1=(x4.1:Int))/\
              ((l=l)/\
              ((x2=x2)/\
              (aJ (List.take x3.1 (x2))++[(((x2).getD x3.1 ([],0)).1,((x2).getD x3.1 ([],0)).2)]=aJ (List.take x4.1 (x2))))))))))))))))/\
          (¬(↑x3.val : Int) < (↑(x2).length : Int) →
           ((65536 < (↑(aJ    (List.take x3.val (x2))).length:Int) →
             ((bf l=[])/\
             (6=lg l)))/\
           (¬65536 < (↑(aJ    (List.take x3.val (x2))).length : Int) →
            ((aJ (List.take x3.1 (x2))=bf l)/\
            (0=lg l))))))))))))))))))/\
  (¬eO   l = 0 →
   ((bf l=[])/\
   (eO l=lg l))))))) (by kernel_rfl) ?_
 refine⟨hc1,hc2,fun he=>⟨⟨⟨0,Nat.zero_le _⟩,rfl,rfl,rfl,rfl,rfl,rfl⟩,?_⟩,fun he=>?_⟩
 .rintro⟨i,hi⟩;dsimp only;refine⟨fun h=>⟨by omega,?_,by unfold ak;omega,⟨i+1,by omega⟩,by show l.length-(i+1)<l.length-i;omega,rfl,rfl,rfl,rfl,?_⟩,fun h=>?_⟩
  .simp only[zP,zM,List.length_nil];omega
  .rw[List.take_add_one,zB (by omega),Option.toList_some,<- getD_lt (by omega)]
  rw[List.take_of_length_le (show l.length<=i by omega)];refine⟨rfl,hc1,fun y hy hs=>⟨⟨⟨0,Nat.zero_le _⟩,rfl,rfl,rfl,rfl,rfl,rfl⟩,?_⟩⟩;have hyl:=hy.len;rw[<- hyl] at hs;have hz:=pE he;have hzy:∀x∈y,wE x=0:=fun x hx=>hz x (hy.perm.mem_iff.1 hx)
  have hnn:Nn l:=fun x hx=>by have:=rD.1 (hz x hx);omega
  have hfin:aJ y=aJ l:=(DW hy.perm.symm hnn).symm;rintro⟨i,hi⟩;dsimp only;have hn1:=vC (y.take i);rw[zP] at hn1;refine⟨fun h=>⟨by omega,by omega,fun h0=>⟨by unfold ak;omega,by omega,by omega,fun h1=>?_,fun h1=>⟨?_,by unfold ak;omega,⟨i+1,by omega⟩,by show y.length-(i+1)<y.length-i;omega,rfl,rfl,rfl,rfl,?_⟩⟩,fun h0=>⟨?_,by unfold ak;omega,⟨i+1,by omega⟩,by show y.length-(i+1)<y.length-i;omega,rfl,rfl,rfl,rfl,?_⟩⟩,fun h=>?_⟩
  .obtain⟨n,hn⟩:∃n,(aJ (y.take i)).length=n+1:=⟨(aJ (y.take i)).length-1,by omega⟩;have e:(((aJ (y.take i)).length:Int)-1).toNat=n:=by omega
   rw[e] at h1 ⊢;have hk:=rD.1 (BM (fun x hx=>hzy x (List.mem_of_mem_take hx)) ((aJ (y.take i)).getD n ([],0)) (by rw[getD_lt (by omega)];exact List.getElem_mem _));have hw:=rD.1 (hzy (y.getD i ([],0)) (by rw[getD_lt (by omega)];exact List.getElem_mem _));refine⟨by unfold ak;omega,by unfold ak;omega,by omega,by omega,by unfold ak;omega,by omega,by omega,by unfold ak;omega,⟨i+1,by omega⟩,by show y.length-(i+1)<y.length-i;omega,rfl,rfl,rfl,rfl,?_⟩;rw[Vj];exact Ms (by omega) hn h1
  .simp only[zM,List.length_nil];omega
  .exact Al hs (by omega) (.inr (by rwa [show (((aJ (y.take i)).length:Int)-1).toNat=(aJ (y.take i)).length-1 by omega] at h1))
  .simp only[zM,List.length_nil];omega
  .exact Al hs (by omega) (.inl (by omega))
  .rw[List.take_of_length_le (show y.length<=i by omega),hfin];exact⟨Fw he,Cv he⟩
 .exact Fj he
end Go.EA
