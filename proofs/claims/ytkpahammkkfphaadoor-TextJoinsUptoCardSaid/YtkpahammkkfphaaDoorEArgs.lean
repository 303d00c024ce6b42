/- A law's arguments that are rows of numbers. Conditions: none. -/
import Derived.Test.YtkpahammkkfphaaDoorEK6
import Derived.Test.YtkpahammkkfphaaDoorEMean1
import Derived.ChangeSlices
import Derived.OpenShut
set_option linter.unusedVariables false
set_option linter.unusedSimpArgs false
namespace Go.EA
open Go.ChangeShapes Go.WideShapes Go.RowKit
abbrev RK (k:IntKind) (l:List Int):List (List Lf):=List.map (fun r=>[Lf.int k r]) l
end Go.EA
