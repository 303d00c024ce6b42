/- A rune's bytes by the operations on bits that Go's library writes. Conditions: none. -/
import Derived.Test.YtpgjilomblpcpaaDoorEMean5
import Derived.Test.YtpgjilomblpcpaaDoorENorm2
set_option linter.unusedVariables false
set_option linter.unusedSimpArgs false
set_option maxRecDepth 100000
namespace Go.EA
end Go.EA
