/- Layer 1: what Go's library's functions on texts mean. Conditions: none. -/
import Derived.Test.YtgkhohpekfjlmaaDoorEBack
import Derived.Test.YtgkhohpekfjlmaaDoorEMean3
set_option linter.unusedVariables false
set_option linter.unusedSimpArgs false
namespace Go.EA
theorem Bl (s:List UInt8):decide (bU s=0)=fJ s:=by
 unfold bU;cases fJ s <;> rfl
end Go.EA
