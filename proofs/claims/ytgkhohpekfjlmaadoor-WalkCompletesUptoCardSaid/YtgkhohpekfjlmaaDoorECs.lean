/- Comparing texts; the first number that is not nought. Conditions: none. -/
import Derived.Test.YtgkhohpekfjlmaaDoorEAf4
import Derived.Test.YtgkhohpekfjlmaaDoorEK9
import Derived.Test.YtgkhohpekfjlmaaDoorEMean1
import Derived.KernelRfl
set_option linter.unusedVariables false
set_option linter.unusedSimpArgs false
set_option maxRecDepth 100000
set_option maxHeartbeats 0
namespace Go.EA
open F
def orV (l:List Int):Int:=(l.find? fun x=>!decide (x=0)).getD 0
theorem KL {l:List Int}(h:l.all (fun x=>decide (x=0))=true):0=orV l:=by
 unfold orV;rw[List.find?_eq_none.2 (fun x hx=>by have:=List.all_eq_true.1 h x hx;simp at this;simp[this])];rfl
end Go.EA
