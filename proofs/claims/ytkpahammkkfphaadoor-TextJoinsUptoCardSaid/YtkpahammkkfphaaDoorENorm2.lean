/- Rows of bytes told as numbers. Conditions: none. -/
import Derived.Test.YtkpahammkkfphaaDoorEK4
set_option linter.unusedVariables false
set_option linter.unusedSimpArgs false
namespace Go.EA
abbrev RI (l:List Int):List (List Lf):=List.map (fun z=>[Lf.int IntKind.u8 z]) l
section
variable {T:List AV} {L:List AO} {l:List Int}
end
end Go.EA
