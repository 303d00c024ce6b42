/- Layer 9, plain: the most frequent words. Conditions: none. -/
import Derived.Test.YtpgjilomblpcpaaDoorENr3
import Derived.Test.YtpgjilomblpcpaaDoorESo2
set_option linter.unusedVariables false
set_option linter.unusedSimpArgs false
namespace Go.EA
open F
def srtB (l:List Wd):List Wd:=l.mergeSort fun a b=>!ltB b a
theorem ltB_anti {x y:Wd} (h1:ltB x y=false) (h2:ltB y x=false):x=y:=by
  rw [Bool.eq_false_iff,Ne,ltB_iff] at h1 h2
  have a1:¬ y.2 < x.2:=fun e=>h1 (.inl e)
  have a2:¬ x.2 < y.2:=fun e=>h2 (.inl e)
  have e:x.2=y.2:=by omega
  have b1:¬ sless x.1 y.1=true:=fun h=>h1 (.inr ⟨e.symm,h⟩)
  have b2:¬ sless y.1 x.1=true:=fun h=>h2 (.inr ⟨e,h⟩)
  rcases sl_tot x.1 y.1 with h | h | h
  · exact absurd h b1
  · exact Prod.ext h e
  · exact absurd h b2
theorem srtB_pw (l:List Wd):(srtB l).Pairwise fun a b=>(!ltB b a)=true:=by
  refine List.pairwise_mergeSort (fun a b c h1 h2=>?_) (fun a b=>?_) l
  · simp only [Bool.not_eq_true'] at h1 h2 ⊢
    exact ltB_swo.ntrans c b a h2 h1
  · simp only [Bool.or_eq_true,Bool.not_eq_true']
    cases h:ltB b a with
    | false=>exact .inl rfl
    | true=>
      refine .inr ?_
      cases h2:ltB a b with
      | false=>rfl
      | true=>have:=ltB_swo.trans _ _ _ h h2;rw [ltB_swo.irrefl] at this;cases this
theorem srtB_perm (l:List Wd):(srtB l).Perm l:=List.mergeSort_perm _ _
theorem srtB_uniq {l y:List Wd} (hp:y.Perm l) (hs:SrtR ltB ([],0) y 0 y.length):y=srtB l:=by
  refine List.Perm.eq_of_pairwise (le:=fun x y=>(!ltB y x)=true) (fun a b _ _ h1 h2=>?_) ?_ (srtB_pw l) (hp.trans (srtB_perm l).symm)
  · simp only [Bool.not_eq_true'] at h1 h2
    exact ltB_anti h2 h1
  · refine List.pairwise_iff_getElem.2 fun i j hi hj hij=>?_
    have:=hs i j (Nat.zero_le _) hij hj
    rw [getD_lt hi,getD_lt hj] at this
    rw [this];rfl
def bstE (l:List Wd) (k:Int):Int:=if isE l=0 then (if k < 0∨1000 < k then 2 else 0) else isE l
def bstO (l:List Wd) (k:Int):List Wd:=if bstE l k=0 then (srtB l).take k.toNat else []
theorem bst_bad {l:List Wd} {k:Int} (h:¬ isE l=0):bstO l k=[]∧isE l=bstE l k:=by
  have e:bstE l k=isE l:=by unfold bstE;rw [if_neg h]
  unfold bstO
  rw [e,if_neg h]
  exact ⟨rfl,rfl⟩
theorem bst_arg {l:List Wd} {k:Int} (h:isE l=0) (hk:k < 0∨1000 < k):bstO l k=[]∧2=bstE l k:=by
  have e:bstE l k=2:=by unfold bstE;rw [if_pos h,if_pos hk]
  unfold bstO
  rw [e]
  exact ⟨rfl,rfl⟩
theorem bst_of {l:List Wd} {k:Int} (h:isE l=0) (hk:¬ (k < 0∨1000 < k)):bstO l k=(srtB l).take k.toNat∧0=bstE l k:=by
  have e:bstE l k=0:=by unfold bstE;rw [if_pos h,if_neg hk]
  unfold bstO
  rw [e]
  exact ⟨rfl,rfl⟩
end Go.EA
