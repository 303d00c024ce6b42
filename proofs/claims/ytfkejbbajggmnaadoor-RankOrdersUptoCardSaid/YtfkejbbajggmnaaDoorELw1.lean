/- Layer 15: laws (where any stands; two rows; of three). Conditions: none. (Printed by a program of this project's own.) -/
import Derived.Test.YtfkejbbajggmnaaDoorERc3
import Derived.KernelRfl
set_option linter.unusedVariables false
set_option linter.unusedSimpArgs false
set_option maxRecDepth 100000
set_option maxHeartbeats 0
namespace Go.EA
open F
theorem topO_len (l:List Cd) (k:Int):(topO l k).length≤l.length:=by
  have:=allC_len l
  unfold topO
  split
  · rw [List.length_take];omega
  · exact Nat.zero_le _
theorem sameC_self (l:List Cd):sameC l l=true:=decide_eq_true rfl
end Go.EA
