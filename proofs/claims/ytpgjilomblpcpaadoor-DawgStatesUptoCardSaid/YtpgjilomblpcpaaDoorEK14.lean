/- Texts. Conditions: none. -/
import Derived.Test.YtpgjilomblpcpaaDoorEK12
import Derived.Test.YtpgjilomblpcpaaDoorESo2
set_option linter.unusedVariables false
set_option linter.unusedSimpArgs false
section
namespace Go.EA
open F
end Go.EA
end
