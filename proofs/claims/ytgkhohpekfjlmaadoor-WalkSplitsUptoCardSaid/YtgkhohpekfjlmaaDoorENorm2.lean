/- Rows of bytes told as numbers. Conditions: none. -/
import Derived.Test.YtgkhohpekfjlmaaDoorEK4
set_option linter.unusedVariables false
set_option linter.unusedSimpArgs false
namespace Go.EA
abbrev RI (l:List Int):List (List Lf):=List.map (fun z=>[Lf.int IntKind.u8 z]) l
def unI (l:List Int):List UInt8:=l.map fun z=>UInt8.ofNat z.toNat
section
variable {T:List AV} {L:List AO} {l:List Int}
end
theorem Hw (l:List UInt8):unI (l.map fun x=>(x.toNat:Int))=l:=by
 unfold unI;rw[List.map_map]
 conv=>rhs;rw[<- List.map_id l]
 congr 1
 funext x
 simp
end Go.EA
