/- Layer 1: what Go's library's functions on texts mean. Conditions: none. -/
import Derived.Test.YtpgjilomblpcpaaDoorEBack
import Derived.Test.YtpgjilomblpcpaaDoorEMean3
set_option linter.unusedVariables false
set_option linter.unusedSimpArgs false
namespace Go.EA
theorem Bq (s:List UInt8):decide (bN s=0)=dE s:=by
 unfold bN;cases dE s <;> rfl
end Go.EA
