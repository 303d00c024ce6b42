/- Layer 15: laws (the first ones of the first ones; nothing; places). Conditions: none. (Printed by a program of this project's own.) -/
import Derived.Test.YtfkejbbajggmnaaDoorELw1
import Derived.KernelRfl
set_option linter.unusedVariables false
set_option linter.unusedSimpArgs false
set_option maxRecDepth 100000
set_option maxHeartbeats 0
namespace Go.EA
open F
theorem topE_zero {l:List Cd} {k:Int} (hk:0≤k∧k≤1000):topE l k=0↔errC l=0:=by
  unfold topE
  split
  · rename_i h
    rw [if_neg (by omega)]
    exact ⟨fun _=>h,fun _=>rfl⟩
  · exact Iff.rfl
theorem topO_eq {l:List Cd} {k:Int} (hk:0≤k∧k≤1000) (he:errC l=0):topO l k=(allC l).take k.toNat:=(top_of he (by omega)).1
end Go.EA
