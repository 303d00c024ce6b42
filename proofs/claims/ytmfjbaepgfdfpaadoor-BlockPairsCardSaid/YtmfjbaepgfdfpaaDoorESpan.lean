/- A text's pieces: the plain law of layer 2. Conditions: none. -/
import Derived.Test.YtmfjbaepgfdfpaaDoorEMean6
import Derived.Test.YtmfjbaepgfdfpaaDoorEPrim2
import Derived.Test.YtmfjbaepgfdfpaaDoorERu
set_option linter.unusedVariables false
set_option linter.unusedSimpArgs false
namespace Go.EA
end Go.EA
