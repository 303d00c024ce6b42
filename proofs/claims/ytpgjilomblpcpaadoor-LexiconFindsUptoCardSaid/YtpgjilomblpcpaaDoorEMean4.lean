/- Layer 1: what functions that compare mean. Conditions: none. -/
import Derived.Test.YtpgjilomblpcpaaDoorEOrder
set_option linter.unusedVariables false
set_option linter.unusedSimpArgs false
namespace Go.EA
end Go.EA
