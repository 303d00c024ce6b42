/- Layer 1: what Go's library's functions on texts mean. Conditions: none. -/
import Derived.Test.YtpgjilomblpcpaaDoorEBack
import Derived.Test.YtpgjilomblpcpaaDoorEMean3
set_option linter.unusedVariables false
set_option linter.unusedSimpArgs false
namespace Go.EA
theorem Av (s:List UInt8):decide (eP s=0)=gM s:=by
 unfold eP;cases gM s <;> rfl
end Go.EA
