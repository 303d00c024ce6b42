/- Layer 1: what Go's library's functions on texts mean. Conditions: none. -/
import Derived.Test.YtgkhohpekfjlmaaDoorEBack
import Derived.Test.YtgkhohpekfjlmaaDoorEMean3
set_option linter.unusedVariables false
set_option linter.unusedSimpArgs false
namespace Go.EA
theorem Cv (s:List UInt8):decide (bI s=0)=dO s:=by
 unfold bI;cases dO s <;> rfl
end Go.EA
