/- Layer 4: the document's examples; a law. Conditions: none. (Printed by a program of this project's own.) -/
import Derived.Test.YtmfjbaepgfdfpaaDoorEDi
import Derived.Test.YtmfjbaepgfdfpaaDoorESp4
import Derived.Test.YtmfjbaepgfdfpaaDoorEK11
import Derived.Test.YtmfjbaepgfdfpaaDoorEK9
import Derived.KernelRfl
set_option linter.unusedVariables false
set_option linter.unusedSimpArgs false
set_option maxRecDepth 100000
set_option maxHeartbeats 0
namespace Go.EA
open F
theorem tok_ok {s:List UInt8} (h:tokE s=0):tokR s=decR s∧decOk s=true∧0 < (tokR s).length:=by
  have e:tokR s=decR s:=by unfold tokR;rw [if_pos h]
  by_cases h1:decE s=0
  · by_cases h2:(decR s).length=0
    · rw [(tok_e h1 h2).2] at h;cases h
    · refine ⟨e,decE_zero.1 h1,?_⟩
      rw [e];omega
  · rw [(tok_u h1).2] at h;exact absurd h h1
theorem tok_enc {s:List UInt8} (h:tokE s=0):encL (tokR s)=s:=by
  obtain ⟨e,hk,_⟩:=tok_ok h
  rw [e];unfold decR;rw [if_pos hk]
  exact (enc_runes s.length s (Nat.le_refl _) hk).1
theorem dist_ok {s t:List UInt8} (h:tokE s=0) (h1:tokE t=0):distV s t=lev (tokR s).reverse (tokR t).reverse:=(two_ok h h1).2
theorem dist_zero {s t:List UInt8} (h:tokE s=0) (h1:tokE t=0):distV s t=0↔s=t:=by
  rw [dist_ok h h1]
  constructor
  · intro e
    have e:(tokR s).reverse=(tokR t).reverse:=lev_zero.1 (by omega)
    have e:tokR s=tokR t:=by simpa using congrArg List.reverse e
    rw [← tok_enc h,← tok_enc h1,e]
  · rintro rfl
    have:=(lev_zero (a:=(tokR s).reverse) (b:=(tokR s).reverse)).2 rfl
    omega
end Go.EA
