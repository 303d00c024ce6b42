/- Layer 5: laws of single blocks. Conditions: none. (Printed by a program of this project's own.) -/
import Derived.Test.YtmfjbaepgfdfpaaDoorEBk
import Derived.Test.YtmfjbaepgfdfpaaDoorEK9
import Derived.KernelRfl
set_option linter.unusedVariables false
set_option linter.unusedSimpArgs false
set_option maxRecDepth 100000
set_option maxHeartbeats 0
namespace Go.EA
open F
theorem runes_dec {s:List UInt8} (h:decE s=0):decOk s=true∧(runes s).length=(decR s).length:=by
  have hk:=decE_zero.1 h
  refine ⟨hk,?_⟩
  unfold decR
  rw [if_pos hk,List.length_map]
end Go.EA
