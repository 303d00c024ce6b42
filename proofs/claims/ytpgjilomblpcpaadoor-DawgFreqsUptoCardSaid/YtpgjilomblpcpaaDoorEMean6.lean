/- Layer 1: what Go's library's functions on texts mean. Conditions: none. -/
import Derived.Test.YtpgjilomblpcpaaDoorEBack
import Derived.Test.YtpgjilomblpcpaaDoorEMean3
set_option linter.unusedVariables false
set_option linter.unusedSimpArgs false
namespace Go.EA
theorem decE_dec (s:List UInt8):decide (decE s=0)=decOk s:=by
 unfold decE
 cases decOk s <;> rfl
end Go.EA
