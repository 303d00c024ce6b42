/- Layer 1: what functions that encode mean. Conditions: none. -/
import Derived.Test.YtpgjilomblpcpaaDoorEMean4
set_option linter.unusedVariables false
set_option linter.unusedSimpArgs false
namespace Go.EA
end Go.EA
