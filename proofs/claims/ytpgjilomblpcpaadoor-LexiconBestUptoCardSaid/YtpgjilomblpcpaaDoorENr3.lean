/- Layer 9, plain: those that begin so stand together. Conditions: none. -/
import Derived.Test.YtpgjilomblpcpaaDoorENr2
set_option linter.unusedVariables false
set_option linter.unusedSimpArgs false
namespace Go.EA
open F
theorem nor_zero {l:List Wd} (h:norE l=0):norO l=normV l∧errL l=0∧isE (normV l)=0:=by
  have e:norO l=normV l:=by unfold norO;rw [if_pos h]
  unfold norE at h
  split at h
  · rename_i h1
    split at h
    · cases h
    · exact ⟨e,h1,isE_zero.2 ⟨errL_normV h1,normV_ris l,by omega⟩⟩
  · rename_i h1;exact absurd h h1
theorem SmW.norm {l:List Wd} {n:Nat} (h:∀ x∈l,x.1.length≤n):∀ x∈normV l,x.1.length≤n:=fun x hx=>by
  obtain ⟨z,hz,e⟩:=normV_key x hx
  rw [← e];exact h z hz
end Go.EA
