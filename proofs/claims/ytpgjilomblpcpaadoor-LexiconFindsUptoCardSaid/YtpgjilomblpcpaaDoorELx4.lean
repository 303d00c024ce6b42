/- Layer 9: the most frequent words. Conditions: none. (Printed by a program of this project's own.) -/
import Derived.Test.YtpgjilomblpcpaaDoorEK14
import Derived.Test.YtpgjilomblpcpaaDoorELx2
import Derived.KernelRfl
set_option linter.unusedVariables false
set_option linter.unusedSimpArgs false
set_option maxRecDepth 100000
set_option maxHeartbeats 0
namespace Go.EA
open F
def P307:(List (List UInt8×Int))×Int→List SV:=fun (l,k)=>[.one (.row (.pair .str (.int .i64)) l),.one (.int .i64 k)]
def R307:(List (List UInt8×Int))×Int→SV×List Prop:=fun (l,k)=>(.tup [.o (.row WdT (bstO l k)),.o (.int .i64 (bstE l k))],[l.length≤1099511627776,SmW l])
def K307:Con:=⟨false,[some (.pair .str (.int .i64)),none],fun xs=>match xs with | [.one (.row (.pair .str (.int .i64)) l),.one (.int .i64 k)]=>some (R307 (l,k)) | _=>none⟩
noncomputable def G307:GP:=conG P307 R307
theorem P307_inj:∀ a b,(P307 a).map den0=(P307 b).map den0→a=b:=by
  rintro ⟨a0,a1⟩ ⟨b0,b1⟩ h
  simp only [P307,List.map_cons,List.map_nil,den0,den0L,List.cons.injEq,AV.one.injEq,AV.agg.injEq,Lf.int.injEq,Lf.str.injEq,Lf.bool.injEq,Lf.vrow.injEq,and_true,true_and,and_assoc] at h
  obtain ⟨h0,h1⟩:=h
  have h0:=row_inj h0
  subst h0 h1
  rfl
theorem K307_ok:ConG G307 K307:=conG_of P307_inj (fun ⟨_,_⟩ ⟨_,_⟩=>rfl) (fun ⟨_,_⟩=>rfl) fun xs r h=>by
  simp only [K307] at h
  split at h
  · cases h;rename_i l k;exact ⟨(l,k),rfl,rfl⟩
  · cases h
theorem pr307 {S:SC} (hB:SB S) (u344:MutOk S 344 C344) (q296:PrOk S 296 (pureP G296)) (h326:S.has 326 f326) (h338:S.has 338 f338) (h347:S.has 347 f347) (h320:S.has 320 f320) (h340:S.has 340 f340) (h307:S.has 307 f307):PrOk S 307 (pureP G307):=by
  refine prMM hB [(326,f326),(338,f338),(347,f347),(320,f320),(340,f340)] [⟨296,G296,K296⟩] [(344,C344)] ⟨h326,h338,h347,h320,h340,trivial⟩ ⟨⟨q296,K296_ok⟩,trivial⟩ ⟨u344,trivial⟩ h307 (fun ⟨l,k⟩=>⟨rfl,rfl,rfl⟩) (fun (l,k)=>fun f id T L=>match f,id with
      | 340,0=>some (.inv { i:Nat // i≤l.length } (fun x=>([(7,.one (.int .i64 x.1))],[(1,.cell [.osl 3]),(3,.row WdT (l.take x.1))])) (fun x=>l.length - x.1))
      | 307,4022=>some (.cut { y:List Wd // PI l y 0 l.length∧SrtR ltB ([],0) y 0 l.length } (fun y=>([(7,.one (.row WdT y.1))],[])))
      | _,_=>none) 2000 ?_
  rintro ⟨l,k⟩ hc
  have hc1:l.length≤1099511627776:=hc.1
  have hc2:SmW l:=hc.2.1
  refine VC.use (p:=
    ((l.length≤1099511627776) ∧
    ((SmW l) ∧
    ((isE l=0 →
      ((k < 0 →
        ((bstO l k=[]) ∧
        (2=bstE l k))) ∧
      (¬k < 0 →
       ((1000 < k →
         ((bstO l k=[]) ∧
         (2=bstE l k))) ∧
       (¬1000 < k →
        (((∃ x1 : { i : Nat // i ≤ l.length },
           ((l=l) ∧
           (((↑l.length:Int)=(↑l.length:Int)) ∧
           ((0=(↑x1.val:Int)) ∧
           ((l=l) ∧
           ((List.take x1.val l=[]) ∧
           (List.take x1.val l=[]))))))) ∧
         (∀ x1 : { i : Nat // i ≤ l.length },
          (((↑x1.val:Int) < (↑l.length:Int) →
            ((0≤(↑x1.val:Int)∧(↑x1.val:Int) < (↑l.length:Int)) ∧
            ((((List.take x1.val l).length+[((l.getD x1.val ([],0)).fst,(l.getD x1.val ([],0)).snd)].length)*24≤140737488355328) ∧
            ((i64R ((↑x1.val:Int)+1)) ∧
            (∃ x2 : { i : Nat // i ≤ l.length },
             ((l.length - x2.val < l.length - x1.val) ∧
             ((l=l) ∧
             (((↑l.length:Int)=(↑l.length:Int)) ∧
             (((↑x1.val:Int)+1=(↑x2.val:Int)) ∧
             ((l=l) ∧
             (List.take x1.val l++[((l.getD x1.val ([],0)).fst,(l.getD x1.val ([],0)).snd)]=List.take x2.val l))))))))))) ∧
          (¬(↑x1.val : Int) < (↑l.length : Int) →
           (((List.take x1.val l).length≤1099511627776) ∧
           (∀ x2 : (List (List UInt8 × Int)),
            (PI (List.take x1.val l) x2 0 (List.take x1.val l).length →
             (SrtR ltB ([], 0) x2 0 (List.take x1.val l).length →
              (∃ x3 : { y : List Wd // PI l y 0 l.length ∧ SrtR ltB ([], 0) y 0 l.length },
               ((k=k) ∧
               (x2=x3.val))))))))))) ∧
        (∀ x1 : { y : List Wd // PI l y 0 l.length ∧ SrtR ltB ([], 0) y 0 l.length },
         ((0 ≤   (if (↑x1.val.length:Int) < k then (↑x1.val.length:Int) else k)) ∧
         ((((if (↑x1.val.length:Int) < k then (↑x1.val.length:Int) else k)) ≤   (if (↑x1.val.length:Int) < k then (↑x1.val.length:Int) else k)) ∧
         ((((if (↑x1.val.length:Int) < k then (↑x1.val.length:Int) else k)) ≤   (↑x1.val.length:Int)) ∧
         ((0 <   (if (↑x1.val.length:Int) < k then (↑x1.val.length:Int) else k) →
           ((List.take     ((if (↑x1.val.length:Int) < k then (↑x1.val.length:Int) else k)).toNat     x1.val =   bstO l k) ∧
           (0=bstE l k))) ∧
         (¬0 <     (if (↑x1.val.length : Int) < k then (↑x1.val.length : Int) else k) →
          ((bstO l k=[]) ∧
          (0=bstE l k)))))))))))))) ∧
    (¬isE l = 0 →
     ((bstO l k=[]) ∧
     (isE l=bstE l k))))))) (by kernel_rfl) ?_
  refine ⟨hc1,hc2,fun he=>⟨fun h=>bst_arg he (.inl h),fun h0=>⟨fun h=>bst_arg he (.inr h),fun h1=>⟨⟨⟨⟨0,Nat.zero_le _⟩,rfl,rfl,rfl,rfl,rfl,rfl⟩,?_⟩,?_⟩⟩⟩,fun he=>bst_bad he⟩
  · rintro ⟨i,hi⟩
    dsimp only
    refine ⟨fun h=>⟨by omega,?_,by unfold i64R;omega,⟨i+1,by omega⟩,by show l.length - (i+1) < l.length - i;omega,rfl,rfl,rfl,rfl,?_⟩,fun h=>?_⟩
    · simp only [List.length_take,List.length_cons,List.length_nil];omega
    · rw [List.take_add_one,List.getElem?_eq_getElem (by omega),Option.toList_some,← getD_lt (by omega)]
    · rw [List.take_of_length_le (show l.length≤i by omega)]
      exact ⟨hc1,fun y hy hs=>⟨⟨y,hy,hs⟩,rfl,rfl⟩⟩
  · rintro ⟨y,hy,hs⟩
    dsimp only
    have hl:=hy.len
    rw [← hl] at hs
    have e:=srtB_uniq hy.perm hs
    obtain ⟨b1,b2⟩:=bst_of (l:=l) (k:=k) he (by omega)
    rw [b1,← e]
    have hm:(if (y.length:Int) < k then (y.length:Int) else k).toNat=min y.length k.toNat:=by split <;> omega
    rw [hm]
    have ht:y.take (min y.length k.toNat)=y.take k.toNat:=by
      rcases Nat.le_total y.length k.toNat with h | h
      · rw [Nat.min_eq_left h,List.take_of_length_le (Nat.le_refl _),List.take_of_length_le h]
      · rw [Nat.min_eq_right h]
    refine ⟨by split <;> omega,by omega,by split <;> omega,fun _=>⟨ht,b2⟩,fun h=>⟨?_,b2⟩⟩
    have h0:min y.length k.toNat=0:=by rw [← hm];omega
    rw [← ht,h0];rfl
end Go.EA
