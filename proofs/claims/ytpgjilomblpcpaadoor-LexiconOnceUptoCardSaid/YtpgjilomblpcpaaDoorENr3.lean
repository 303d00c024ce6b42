/- Layer 9, plain: those that begin so stand together. Conditions: none. -/
import Derived.Test.YtpgjilomblpcpaaDoorENr2
set_option linter.unusedVariables false
set_option linter.unusedSimpArgs false
namespace Go.EA
open F
theorem nor_zero {l:List Wd} (h:norE l=0):norO l=normV l∧errL l=0∧isE (normV l)=0:=by
  have e:norO l=normV l:=by unfold norO;rw [if_pos h]
  unfold norE at h
  split at h
  · rename_i h1
    split at h
    · cases h
    · exact ⟨e,h1,isE_zero.2 ⟨errL_normV h1,normV_ris l,by omega⟩⟩
  · rename_i h1;exact absurd h h1
theorem SmW.norm {l:List Wd} {n:Nat} (h:∀ x∈l,x.1.length≤n):∀ x∈normV l,x.1.length≤n:=fun x hx=>by
  obtain ⟨z,hz,e⟩:=normV_key x hx
  rw [← e];exact h z hz
theorem nor_perm {l r:List Wd} (h:r.Perm l) (he:errL l=0):normV r=normV l∧errL r=0:=by
  have hz:=errL_zero he
  have hr:∀ x∈r,wE x=0:=fun x hx=>hz x (h.mem_iff.1 hx)
  exact ⟨normV_perm h fun x hx=>(by have:=wE_zero.1 (hr x hx);omega),errL_of hr⟩
def rotW (l:List Wd) (k:Int):List Wd:=[]++cutR l (some k) none++cutR l none (some k)
theorem rot_perm (l:List Wd) (k:Int):(rotW l k).Perm l:=by
  show (l.drop k.toNat++l.take k.toNat).Perm l
  have:=List.perm_append_comm (l₁:=l.drop k.toNat) (l₂:=l.take k.toNat)
  rwa [List.take_append_drop] at this
theorem nor_of_zero {l r:List Wd} (e:normV r=normV l) (he:errL r=0) (hl:norE l=0):norE r=0∧norO r=norO l:=by
  obtain ⟨e1,e2,e3⟩:=nor_zero hl
  have:=(isE_zero.1 e3).2.2
  have h:norE r=0:=by
    unfold norE
    rw [if_pos he,e,if_neg (by omega)]
  exact ⟨h,by rw [e1];unfold norO;rw [if_pos h,e]⟩
theorem nor_not {l:List Wd} (h:¬ norE l=0):isE l≠0:=by
  intro hi
  obtain ⟨h1,h2,h3⟩:=isE_zero.1 hi
  refine h ?_
  unfold norE
  rw [if_pos h1,if_neg]
  have:=len_normV l
  omega
end Go.EA
