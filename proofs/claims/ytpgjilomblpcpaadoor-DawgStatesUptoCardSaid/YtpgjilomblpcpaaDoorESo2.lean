/- A function that means a value lays blocks, draws, and does nothing else: said of the world. Which of two words is more frequent is an order. Conditions: none. -/
import Derived.Test.YtpgjilomblpcpaaDoorESrt
import Derived.Test.YtpgjilomblpcpaaDoorEK9
import Derived.Shelf.SlSortCmp.NoneTotal
import Derived.Test.YtpgjilomblpcpaaDoorELx1
import Derived.KernelRfl
set_option linter.unusedVariables false
set_option linter.unusedSimpArgs false
namespace Go.EA
open Go.Sort Go.Proofs
instance:Inhabited WdT.den:=⟨(([],0):List UInt8×Int)⟩
end Go.EA
