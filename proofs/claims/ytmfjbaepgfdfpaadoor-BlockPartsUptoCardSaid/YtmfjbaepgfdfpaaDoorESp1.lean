/- Layer 2: spans. Conditions: none. (Printed by a program of this project's own.) -/
import Derived.Test.YtmfjbaepgfdfpaaDoorEAf1
import Derived.Test.YtmfjbaepgfdfpaaDoorEAf2
import Derived.Test.YtmfjbaepgfdfpaaDoorEK9
import Derived.Test.YtmfjbaepgfdfpaaDoorEMean6
import Derived.Test.YtmfjbaepgfdfpaaDoorEPrim2
import Derived.Test.YtmfjbaepgfdfpaaDoorERf
import Derived.Test.YtmfjbaepgfdfpaaDoorERu
import Derived.Test.YtmfjbaepgfdfpaaDoorESpan
import Derived.KernelRfl
set_option linter.unusedVariables false
set_option linter.unusedSimpArgs false
set_option maxRecDepth 100000
set_option maxHeartbeats 0
namespace Go.EA
open F
end Go.EA

