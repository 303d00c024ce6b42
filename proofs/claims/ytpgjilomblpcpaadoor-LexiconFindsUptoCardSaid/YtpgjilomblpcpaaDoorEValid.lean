/- Whether a text is one, as Go's library tells. Conditions: none. -/
import Derived.Test.YtpgjilomblpcpaaDoorEK6
import Derived.Lib.ValidU
set_option linter.unusedVariables false
set_option linter.unusedSimpArgs false
namespace Go.EA
end Go.EA
