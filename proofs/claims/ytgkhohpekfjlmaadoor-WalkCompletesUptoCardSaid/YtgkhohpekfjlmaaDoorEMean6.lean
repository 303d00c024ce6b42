/- Layer 1: what Go's library's functions on texts mean. Conditions: none. -/
import Derived.Test.YtgkhohpekfjlmaaDoorEBack
import Derived.Test.YtgkhohpekfjlmaaDoorEMean3
set_option linter.unusedVariables false
set_option linter.unusedSimpArgs false
namespace Go.EA
theorem Ay (s:List UInt8):decide (bG s=0)=dH s:=by
 unfold bG;cases dH s <;> rfl
end Go.EA
