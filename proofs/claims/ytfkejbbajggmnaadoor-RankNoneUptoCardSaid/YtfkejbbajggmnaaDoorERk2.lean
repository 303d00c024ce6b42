/- Layer 15, plain: which candidates are the first ones; the first ones of the first ones. Conditions: none. -/
import Derived.Test.YtfkejbbajggmnaaDoorERk1
set_option linter.unusedVariables false
set_option linter.unusedSimpArgs false
namespace Go.EA
open F Go.Sort
def ahead (l:List Cd) (c:Cd):List Cd:=l.filter fun e=>ltC e c
end Go.EA
