/- What is encoded is decoded, and the other way round. Conditions: none. -/
import Derived.Test.YtpgjilomblpcpaaDoorEBits
set_option linter.unusedVariables false
set_option linter.unusedSimpArgs false
namespace Go.EA
end Go.EA
