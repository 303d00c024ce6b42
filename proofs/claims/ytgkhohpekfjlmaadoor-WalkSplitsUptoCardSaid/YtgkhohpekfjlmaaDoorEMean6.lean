/- Layer 1: what Go's library's functions on texts mean. Conditions: none. -/
import Derived.Test.YtgkhohpekfjlmaaDoorEBack
import Derived.Test.YtgkhohpekfjlmaaDoorEMean3
set_option linter.unusedVariables false
set_option linter.unusedSimpArgs false
namespace Go.EA
theorem Dj (s:List UInt8):decide (bH s=0)=dD s:=by
 unfold bH;cases dD s <;> rfl
end Go.EA
