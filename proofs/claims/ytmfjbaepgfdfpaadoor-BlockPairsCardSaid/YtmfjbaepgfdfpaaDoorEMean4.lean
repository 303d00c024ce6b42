/- Layer 1: what functions that compare mean. Conditions: none. -/
import Derived.Test.YtmfjbaepgfdfpaaDoorEOrder
set_option linter.unusedVariables false
set_option linter.unusedSimpArgs false
namespace Go.EA
end Go.EA
