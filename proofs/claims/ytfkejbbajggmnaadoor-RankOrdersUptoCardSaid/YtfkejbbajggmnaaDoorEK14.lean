/- Texts of the core, one behind the other. Conditions: none. -/
import Derived.Test.YtfkejbbajggmnaaDoorEK12
import Derived.Test.YtfkejbbajggmnaaDoorESo2
set_option linter.unusedVariables false
set_option linter.unusedSimpArgs false
section
namespace Go.EA
open F
end Go.EA
end
section
namespace Go.EA
open F
end Go.EA
end
