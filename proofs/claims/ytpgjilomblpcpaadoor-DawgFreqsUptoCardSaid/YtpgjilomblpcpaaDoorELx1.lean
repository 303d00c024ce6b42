/- Layer 9: whether words may be, are normal; words each once, in order. Conditions: none. -/
import Derived.Test.YtpgjilomblpcpaaDoorEK12
import Derived.Test.YtpgjilomblpcpaaDoorERu
import Derived.Test.YtpgjilomblpcpaaDoorERf
import Derived.KernelRfl
set_option linter.unusedVariables false
set_option linter.unusedSimpArgs false
set_option maxRecDepth 100000
set_option maxHeartbeats 0
namespace Go.EA
open F
def P298:List UInt8×Int->List SV:=fun (w0,w1)=>[.agg [.str w0,.int .i64 w1]]
def R298:List UInt8×Int->SV×List Prop:=fun (w0,w1)=>(.one (.int .i64 (wE (w0,w1))),[w0.length<=1099511627776])
def K298:Con:=⟨true,[none],fun xs=>match xs with | [.agg [.str w0,.int .i64 w1]]=>some (R298 (w0,w1)) | _=>none⟩
noncomputable def G298:GP:=conG P298 R298
theorem P298_inj:∀ a b,(P298 a).map den0=(P298 b).map den0->a=b:=by
 rintro ⟨a0,a1⟩ ⟨b0,b1⟩ h
 simp only [P298,zK,List.map_nil,den0,den0L,zG,AV.one.injEq,AV.agg.injEq,Lf.int.injEq,Lf.str.injEq,Lf.bool.injEq,Lf.vrow.injEq,and_true,true_and,and_assoc] at h
 obtain ⟨h0,h1⟩:=h
 subst h0 h1
 rfl
theorem K298_ok:ConG G298 K298:=conG_of P298_inj (fun ⟨_,_⟩ ⟨_,_⟩=>rfl) (fun ⟨_,_⟩=>rfl) fun xs r h=>by
 simp only [K298] at h
 split at h
 ·cases h;rename_i w0 w1;exact ⟨(w0,w1),rfl,rfl⟩
 ·cases h
theorem pr298 {S:SC} (hB:SB S) (q20:PrOk S 20 (pureP G20)) (h298:S.has 298 f298):PrOk S 298 (pureP G298):=by
 refine prM hB [] [⟨20,G20,K20⟩] trivial ⟨⟨q20,K20_ok⟩,trivial⟩ h298 (fun ⟨w0,w1⟩=>⟨rfl,rfl,rfl⟩) (fun (w0,w1)=>fun _ _ _ _=>none) 400 ?_
 rintro ⟨w0,w1⟩ hc
 have hc1:w0.length<=1099511627776:=hc.1
 refine VC.use (p:=
  ((w0.length<=1099511627776)/\
  ((tokE w0=0 →
    ((w1 < 1 →
      (2=wE (w0,w1)))/\
    (¬w1 < 1 →
     ((1073741824 < w1 →
       (2=wE (w0,w1)))/\
     (¬1073741824 < w1 →
      (tokE w0=wE (w0,w1)))))))/\
  (¬tokE w0 = 0 →
   (tokE w0=wE (w0,w1)))))) (by kernel_rfl) ?_
 refine ⟨hc1,fun h=>⟨fun h1=>?_,fun h1=>⟨fun h2=>?_,fun h2=>?_⟩⟩,fun h=>?_⟩
 all_goals
  unfold wE
  dsimp only
  split <;> (try split) <;> omega
def P337:List UInt8×Int->List SV:=fun (w0,w1)=>[.agg [.str w0,.int .i64 w1]]
def R337:List UInt8×Int->SV×List Prop:=fun (w0,w1)=>(.one (.bool (badW (w0,w1))),[w0.length<=1099511627776])
def K337:Con:=⟨true,[none],fun xs=>match xs with | [.agg [.str w0,.int .i64 w1]]=>some (R337 (w0,w1)) | _=>none⟩
noncomputable def G337:GP:=conG P337 R337
theorem P337_inj:∀ a b,(P337 a).map den0=(P337 b).map den0->a=b:=by
 rintro ⟨a0,a1⟩ ⟨b0,b1⟩ h
 simp only [P337,zK,List.map_nil,den0,den0L,zG,AV.one.injEq,AV.agg.injEq,Lf.int.injEq,Lf.str.injEq,Lf.bool.injEq,Lf.vrow.injEq,and_true,true_and,and_assoc] at h
 obtain ⟨h0,h1⟩:=h
 subst h0 h1
 rfl
theorem K337_ok:ConG G337 K337:=conG_of P337_inj (fun ⟨_,_⟩ ⟨_,_⟩=>rfl) (fun ⟨_,_⟩=>rfl) fun xs r h=>by
 simp only [K337] at h
 split at h
 ·cases h;rename_i w0 w1;exact ⟨(w0,w1),rfl,rfl⟩
 ·cases h
theorem pr337 {S:SC} (hB:SB S) (q298:PrOk S 298 (pureP G298)) (h337:S.has 337 f337):PrOk S 337 (pureP G337):=by
 refine prM hB [] [⟨298,G298,K298⟩] trivial ⟨⟨q298,K298_ok⟩,trivial⟩ h337 (fun ⟨w0,w1⟩=>⟨rfl,rfl,rfl⟩) (fun (w0,w1)=>fun _ _ _ _=>none) 400 ?_
 rintro ⟨w0,w1⟩ hc
 have hc1:w0.length<=1099511627776:=hc.1
 refine VC.use (p:=
  ((w0.length<=1099511627776)/\
  ((!decide (wE (w0,w1)=0))=badW (w0,w1)))) (by kernel_rfl) ?_
 exact ⟨hc1,rfl⟩
def P336:(List (List UInt8×Int))->List SV:=fun l=>[.one (.row (.pair .str (.int .i64)) l),.one (.fn 337 [])]
def R336:(List (List UInt8×Int))->SV×List Prop:=fun l=>(.one (.int .i64 (badK l)),[l.length<=1099511627776,SmW l])
def K336:Con:=⟨true,[some (.pair .str (.int .i64)),none],fun xs=>match xs with | [.one (.row (.pair .str (.int .i64)) l),.one (.fn 337 [])]=>some (R336 l) | _=>none⟩
noncomputable def G336:GP:=conG P336 R336
theorem P336_inj:∀ a b,(P336 a).map den0=(P336 b).map den0->a=b:=by
 rintro a0 b0 h
 simp only [P336,zK,List.map_nil,den0,den0L,zG,AV.one.injEq,AV.agg.injEq,Lf.int.injEq,Lf.str.injEq,Lf.bool.injEq,Lf.vrow.injEq,and_true,true_and] at h
 exact row_inj h
theorem K336_ok:ConG G336 K336:=conG_of P336_inj (fun _ _=>rfl) (fun _=>rfl) fun xs r h=>by
 simp only [K336] at h
 split at h
 ·cases h;rename_i l;exact ⟨l,rfl,rfl⟩
 ·cases h
theorem pr336 {S:SC} (hB:SB S) (q337:PrOk S 337 (pureP G337)) (h336:S.has 336 f336):PrOk S 336 (pureP G336):=by
 refine prM hB [] [⟨337,G337,K337⟩] trivial ⟨⟨q337,K337_ok⟩,trivial⟩ h336 (fun _=>⟨rfl,rfl,rfl⟩) (fun l=>fun f id T L=>match f,id with
  | 336,0=>some (.inv { i:Nat // i<=l.length/\∀ j,j<i->badW (l.getD j ([],0))=false } (fun x=>([(8,.one (.int .i64 x.1))],[])) (fun x=>l.length-x.1))
  | _,_=>none) 400 ?_
 rintro l hc
 have hc1:l.length<=1099511627776:=hc.1
 have hc2:SmW l:=hc.2.1
 refine VC.use (p:=
  ((∃ x1:{ i:Nat // i≤l.length∧∀ (j:Nat),j < i→badW (l.getD j ([],0))=false },
    ((l=l)/\
    (((l.length:Int)=(l.length:Int))/\
    (0=(x1.1:Int)))))/\
  (∀ x1 : { i : Nat // i ≤ l.length ∧ ∀ (j : Nat), j < i → badW (l.getD j ([], 0)) = false },
   (((↑x1.val:Int) < (↑l.length:Int) →
     ((0<=(x1.1:Int)/\(x1.1:Int)<(l.length:Int))/\
     ((List.length (l.getD x1.1 ([],0)).1<=1099511627776)/\
     ((badW ((l.getD x1.val ([],0)).fst,(l.getD x1.val ([],0)).snd)=true →
       ((x1.1:Int)=badK l))/\
     (¬badW ((l.getD x1.val ([], 0)).fst, (l.getD x1.val ([], 0)).snd) = true →
      ((i64R ((x1.1:Int)+1))/\
      (∃ x2 : { i : Nat // i ≤ l.length ∧ ∀ (j : Nat), j < i → badW (l.getD j ([], 0)) = false },
       ((l.length-x2.1<l.length-x1.1)/\
       ((l=l)/\
       (((l.length:Int)=(l.length:Int))/\
       ((x1.1:Int)+1=(x2.1:Int))))))))))))/\
   (¬(↑x1.val : Int) < (↑l.length : Int) →
    (-1=badK l)))))) (by kernel_rfl) ?_
 refine ⟨⟨⟨0,Nat.zero_le _,fun j h=>absurd h (zS _)⟩,rfl,rfl,rfl⟩,?_⟩
 rintro ⟨i,hi,ha⟩
 dsimp only
 exact ⟨fun h=>⟨by omega,hc2.at i,fun h1=>(badK_hit (by omega) ha h1).symm,fun h1=>⟨by unfold i64R;omega,⟨i+1,by omega,step_all ha (by simpa using h1)⟩,by show l.length-(i+1)<l.length-i;omega,rfl,rfl,rfl⟩⟩,fun h=>(badK_none fun j hj=>ha j (by omega)).symm⟩
def P318:(List (List UInt8×Int))->List SV:=fun l=>[.one (.row (.pair .str (.int .i64)) l)]
def R318:(List (List UInt8×Int))->SV×List Prop:=fun l=>(.one (.int .i64 (errL l)),[l.length<=1099511627776,SmW l])
def K318:Con:=⟨true,[some (.pair .str (.int .i64))],fun xs=>match xs with | [.one (.row (.pair .str (.int .i64)) l)]=>some (R318 l) | _=>none⟩
noncomputable def G318:GP:=conG P318 R318
theorem P318_inj:∀ a b,(P318 a).map den0=(P318 b).map den0->a=b:=by
 rintro a0 b0 h
 simp only [P318,zK,List.map_nil,den0,den0L,zG,AV.one.injEq,AV.agg.injEq,Lf.int.injEq,Lf.str.injEq,Lf.bool.injEq,Lf.vrow.injEq,and_true,true_and] at h
 exact row_inj h
theorem K318_ok:ConG G318 K318:=conG_of P318_inj (fun _ _=>rfl) (fun _=>rfl) fun xs r h=>by
 simp only [K318] at h
 split at h
 ·cases h;rename_i l;exact ⟨l,rfl,rfl⟩
 ·cases h
theorem pr318 {S:SC} (hB:SB S) (q336:PrOk S 336 (pureP G336)) (q298:PrOk S 298 (pureP G298)) (h318:S.has 318 f318):PrOk S 318 (pureP G318):=by
 refine prM hB [] [⟨336,G336,K336⟩,⟨298,G298,K298⟩] trivial ⟨⟨q336,K336_ok⟩,⟨q298,K298_ok⟩,trivial⟩ h318 (fun _=>⟨rfl,rfl,rfl⟩) (fun l=>fun _ _ _ _=>none) 400 ?_
 rintro l hc
 have hc1:l.length<=1099511627776:=hc.1
 have hc2:SmW l:=hc.2.1
 refine VC.use (p:=
  ((l.length<=1099511627776)/\
  ((SmW l)/\
  ((badK l < 0 →
    (0=errL l))/\
  (¬badK l < 0 →
   ((0<=badK l/\badK l<(l.length:Int))/\
   ((List.length (l.getD (badK l).toNat ([],0)).1<=1099511627776)/\
   (wE ((l.getD (badK l).toNat ([],0)).1,(l.getD (badK l).toNat ([],0)).2)=errL l)))))))) (by kernel_rfl) ?_
 refine ⟨hc1,hc2,?_⟩
 rcases badK_spec l with ⟨h1,h2⟩ | ⟨i,h1,h2,h3⟩
 ·rw [h1,h2]
  exact ⟨fun _=>rfl,fun h=>absurd h (by decide)⟩
 ·rw [h2]
  exact ⟨fun h=>absurd h (by omega),fun _=>⟨by omega,hc2.at _,h3⟩⟩
def P296:(List (List UInt8×Int))->List SV:=fun l=>[.one (.row (.pair .str (.int .i64)) l)]
def R296:(List (List UInt8×Int))->SV×List Prop:=fun l=>(.one (.int .i64 (isE l)),[l.length<=1099511627776,SmW l])
def K296:Con:=⟨true,[some (.pair .str (.int .i64))],fun xs=>match xs with | [.one (.row (.pair .str (.int .i64)) l)]=>some (R296 l) | _=>none⟩
noncomputable def G296:GP:=conG P296 R296
theorem P296_inj:∀ a b,(P296 a).map den0=(P296 b).map den0->a=b:=by
 rintro a0 b0 h
 simp only [P296,zK,List.map_nil,den0,den0L,zG,AV.one.injEq,AV.agg.injEq,Lf.int.injEq,Lf.str.injEq,Lf.bool.injEq,Lf.vrow.injEq,and_true,true_and] at h
 exact row_inj h
theorem K296_ok:ConG G296 K296:=conG_of P296_inj (fun _ _=>rfl) (fun _=>rfl) fun xs r h=>by
 simp only [K296] at h
 split at h
 ·cases h;rename_i l;exact ⟨l,rfl,rfl⟩
 ·cases h
theorem pr296 {S:SC} (hB:SB S) (q318:PrOk S 318 (pureP G318)) (h296:S.has 296 f296):PrOk S 296 (pureP G296):=by
 refine prM hB [] [⟨318,G318,K318⟩] trivial ⟨⟨q318,K318_ok⟩,trivial⟩ h296 (fun _=>⟨rfl,rfl,rfl⟩) (fun l=>fun f id T L=>match f,id with
  | 296,0=>some (.inv { i:Nat // i<=l.length/\∀ j,j+1<i->ltW (l.getD j ([],0)) (l.getD (j+1) ([],0))=true } (fun x=>([(12,.one (.int .i64 x.1))],[])) (fun x=>l.length-x.1))
  | _,_=>none) 400 ?_
 rintro l hc
 have hc1:l.length<=1099511627776:=hc.1
 have hc2:SmW l:=hc.2.1
 refine VC.use (p:=
  ((l.length<=1099511627776)/\
  ((SmW l)/\
  ((errL l=0 →
    ((∃ x1:{ i:Nat // i≤l.length∧∀ (j:Nat),j+1 < i→ltW (l.getD j ([],0)) (l.getD (j+1) ([],0))=true },
      ((l=l)/\
      (((l.length:Int)=(l.length:Int))/\
      (0=(x1.1:Int)))))/\
    (∀ x1 : { i : Nat // i ≤ l.length ∧ ∀ (j : Nat), j + 1 < i → ltW (l.getD j ([], 0)) (l.getD (j + 1) ([], 0)) = true },
     (((↑x1.val:Int) < (↑l.length:Int) →
       ((0 < (↑x1.val:Int) →
         ((i64R ((x1.1:Int)-1))/\
         ((0<=(x1.1:Int)-1/\(x1.1:Int)-1<(l.length:Int))/\
         ((0<=(x1.1:Int)/\(x1.1:Int)<(l.length:Int))/\
         (((!sless (l.getD ((↑x1.val:Int) - 1).toNat ([],0)).fst (l.getD x1.val ([],0)).fst)=true →
           (7=isE l))/\
         (¬(!sless (l.getD ((↑x1.val : Int) - 1).toNat ([], 0)).fst (l.getD x1.val ([], 0)).fst) = true →
          ((i64R ((x1.1:Int)+1))/\
          (∃ x2 : { i : Nat // i ≤ l.length ∧ ∀ (j : Nat), j + 1 < i → ltW (l.getD j ([], 0)) (l.getD (j + 1) ([], 0)) = true },
           ((l.length-x2.1<l.length-x1.1)/\
           ((l=l)/\
           (((l.length:Int)=(l.length:Int))/\
           ((x1.1:Int)+1=(x2.1:Int)))))))))))))/\
       (¬0 < (↑x1.val : Int) →
        ((i64R ((x1.1:Int)+1))/\
        (∃ x2 : { i : Nat // i ≤ l.length ∧ ∀ (j : Nat), j + 1 < i → ltW (l.getD j ([], 0)) (l.getD (j + 1) ([], 0)) = true },
         ((l.length-x2.1<l.length-x1.1)/\
         ((l=l)/\
         (((l.length:Int)=(l.length:Int))/\
         ((x1.1:Int)+1=(x2.1:Int))))))))))/\
     (¬(↑x1.val : Int) < (↑l.length : Int) →
      ((65536 < (↑l.length:Int) →
        (6=isE l))/\
      (¬65536 < (↑l.length : Int) →
       (0=isE l))))))))/\
  (¬errL l = 0 →
   (errL l=isE l)))))) (by kernel_rfl) ?_
 refine ⟨hc1,hc2,fun he=>⟨⟨⟨0,Nat.zero_le _,fun j h=>absurd h (by omega)⟩,rfl,rfl,rfl⟩,?_⟩,fun he=>?_⟩
 ·rintro ⟨i,hi,ha⟩
  dsimp only
  refine ⟨fun h=>⟨fun h0=>⟨by unfold i64R;omega,by omega,by omega,isE_7 he h0 (by omega),fun h1=>⟨by unfold i64R;omega,⟨i+1,by omega,ris_step ha fun _=>h1⟩,by show l.length-(i+1)<l.length-i;omega,rfl,rfl,rfl⟩⟩,fun h0=>⟨by unfold i64R;omega,⟨i+1,by omega,ris_step ha fun h1=>absurd h1 h0⟩,by show l.length-(i+1)<l.length-i;omega,rfl,rfl,rfl⟩⟩,fun h=>?_⟩
  rw [isE_end he fun j hj=>ha j (by omega)]
  exact ⟨fun h1=>by rw [if_pos (by omega)],fun h1=>by rw [if_neg (by omega)]⟩
 ·unfold isE
  rw [if_neg he]
def P299:List UInt8×Int->List SV:=fun (w0,w1)=>[.agg [.str w0,.int .i64 w1]]
def R299:List UInt8×Int->SV×List Prop:=fun (w0,w1)=>(.one (.int .i64 (wE (w0,w1))),[w0.length<=1099511627776])
def K299:Con:=⟨true,[none],fun xs=>match xs with | [.agg [.str w0,.int .i64 w1]]=>some (R299 (w0,w1)) | _=>none⟩
noncomputable def G299:GP:=conG P299 R299
theorem P299_inj:∀ a b,(P299 a).map den0=(P299 b).map den0->a=b:=by
 rintro ⟨a0,a1⟩ ⟨b0,b1⟩ h
 simp only [P299,zK,List.map_nil,den0,den0L,zG,AV.one.injEq,AV.agg.injEq,Lf.int.injEq,Lf.str.injEq,Lf.bool.injEq,Lf.vrow.injEq,and_true,true_and,and_assoc] at h
 obtain ⟨h0,h1⟩:=h
 subst h0 h1
 rfl
theorem K299_ok:ConG G299 K299:=conG_of P299_inj (fun ⟨_,_⟩ ⟨_,_⟩=>rfl) (fun ⟨_,_⟩=>rfl) fun xs r h=>by
 simp only [K299] at h
 split at h
 ·cases h;rename_i w0 w1;exact ⟨(w0,w1),rfl,rfl⟩
 ·cases h
theorem pr299 {S:SC} (hB:SB S) (q21:PrOk S 21 (pureP G21)) (h299:S.has 299 f299):PrOk S 299 (pureP G299):=by
 refine prM hB [] [⟨21,G21,K21⟩] trivial ⟨⟨q21,K21_ok⟩,trivial⟩ h299 (fun ⟨w0,w1⟩=>⟨rfl,rfl,rfl⟩) (fun (w0,w1)=>fun _ _ _ _=>none) 400 ?_
 rintro ⟨w0,w1⟩ hc
 have hc1:w0.length<=1099511627776:=hc.1
 refine VC.use (p:=
  ((w0.length<=1099511627776)/\
  ((tokE w0=0 →
    ((w1 < 1 →
      (2=wE (w0,w1)))/\
    (¬w1 < 1 →
     ((1073741824 < w1 →
       (2=wE (w0,w1)))/\
     (¬1073741824 < w1 →
      (0=wE (w0,w1)))))))/\
  (¬tokE w0 = 0 →
   (tokE w0=wE (w0,w1)))))) (by kernel_rfl) ?_
 refine ⟨hc1,fun h=>⟨fun h1=>?_,fun h1=>⟨fun h2=>?_,fun h2=>?_⟩⟩,fun h=>?_⟩
 all_goals
  unfold wE
  dsimp only
  split <;> (try split) <;> omega
def P317:(List (List UInt8×Int))->List SV:=fun l=>[.one (.row (.pair .str (.int .i64)) l)]
def R317:(List (List UInt8×Int))->SV×List Prop:=fun l=>(.one (.int .i64 (errL l)),[l.length<=1099511627776,SmW l])
def K317:Con:=⟨true,[some (.pair .str (.int .i64))],fun xs=>match xs with | [.one (.row (.pair .str (.int .i64)) l)]=>some (R317 l) | _=>none⟩
noncomputable def G317:GP:=conG P317 R317
theorem P317_inj:∀ a b,(P317 a).map den0=(P317 b).map den0->a=b:=by
 rintro a0 b0 h
 simp only [P317,zK,List.map_nil,den0,den0L,zG,AV.one.injEq,AV.agg.injEq,Lf.int.injEq,Lf.str.injEq,Lf.bool.injEq,Lf.vrow.injEq,and_true,true_and] at h
 exact row_inj h
theorem K317_ok:ConG G317 K317:=conG_of P317_inj (fun _ _=>rfl) (fun _=>rfl) fun xs r h=>by
 simp only [K317] at h
 split at h
 ·cases h;rename_i l;exact ⟨l,rfl,rfl⟩
 ·cases h
theorem pr317 {S:SC} (hB:SB S) (q299:PrOk S 299 (pureP G299)) (h317:S.has 317 f317):PrOk S 317 (pureP G317):=by
 refine prM hB [] [⟨299,G299,K299⟩] trivial ⟨⟨q299,K299_ok⟩,trivial⟩ h317 (fun _=>⟨rfl,rfl,rfl⟩) (fun l=>fun f id T L=>match f,id with
  | 317,0=>some (.inv { i:Nat // i<=l.length/\∀ j,j<i->badW (l.getD j ([],0))=false } (fun x=>([(8,.one (.int .i64 x.1))],[])) (fun x=>l.length-x.1))
  | _,_=>none) 400 ?_
 rintro l hc
 have hc1:l.length<=1099511627776:=hc.1
 have hc2:SmW l:=hc.2.1
 refine VC.use (p:=
  ((∃ x1:{ i:Nat // i≤l.length∧∀ (j:Nat),j < i→badW (l.getD j ([],0))=false },
    ((l=l)/\
    (((l.length:Int)=(l.length:Int))/\
    (0=(x1.1:Int)))))/\
  (∀ x1 : { i : Nat // i ≤ l.length ∧ ∀ (j : Nat), j < i → badW (l.getD j ([], 0)) = false },
   (((↑x1.val:Int) < (↑l.length:Int) →
     ((0<=(x1.1:Int)/\(x1.1:Int)<(l.length:Int))/\
     ((List.length (l.getD x1.1 ([],0)).1<=1099511627776)/\
     ((wE ((l.getD x1.val ([],0)).fst,(l.getD x1.val ([],0)).snd)=0 →
       ((i64R ((x1.1:Int)+1))/\
       (∃ x2 : { i : Nat // i ≤ l.length ∧ ∀ (j : Nat), j < i → badW (l.getD j ([], 0)) = false },
        ((l.length-x2.1<l.length-x1.1)/\
        ((l=l)/\
        (((l.length:Int)=(l.length:Int))/\
        ((x1.1:Int)+1=(x2.1:Int))))))))/\
     (¬wE ((l.getD x1.val ([], 0)).fst, (l.getD x1.val ([], 0)).snd) = 0 →
      (wE ((l.getD x1.1 ([],0)).1,(l.getD x1.1 ([],0)).2)=errL l))))))/\
   (¬(↑x1.val : Int) < (↑l.length : Int) →
    (0=errL l)))))) (by kernel_rfl) ?_
 refine ⟨⟨⟨0,Nat.zero_le _,fun j h=>absurd h (zS _)⟩,rfl,rfl,rfl⟩,?_⟩
 rintro ⟨i,hi,ha⟩
 dsimp only
 exact ⟨fun h=>⟨by omega,hc2.at i,fun h1=>⟨by unfold i64R;omega,⟨i+1,by omega,step_all ha (badW_f.2 h1)⟩,by show l.length-(i+1)<l.length-i;omega,rfl,rfl,rfl⟩,fun h1=>(orV_hit (by omega) ha (badW_t.2 h1)).symm⟩,fun h=>(errL_none fun j hj=>ha j (by omega)).symm⟩
end Go.EA
