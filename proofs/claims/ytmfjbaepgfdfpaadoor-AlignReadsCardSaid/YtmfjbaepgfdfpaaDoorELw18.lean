/- Layer 4: a law, what any steps are of. Conditions: none. (Printed by a program of this project's own.) -/
import Derived.Test.YtmfjbaepgfdfpaaDoorELw8
import Derived.Test.YtmfjbaepgfdfpaaDoorERd
import Derived.Test.YtmfjbaepgfdfpaaDoorEK9
import Derived.KernelRfl
set_option linter.unusedVariables false
set_option linter.unusedSimpArgs false
set_option maxRecDepth 100000
set_option maxHeartbeats 0
namespace Go.EA
open F
theorem w204 {S : SC} (hB : SB S) (q213 : PrOk S 213 (pureP G213)) (q220 : PrOk S 220 (pureP G220)) (q221 : PrOk S 221 (pureP G221)) (q222 : PrOk S 222 (pureP G222)) (q223 : PrOk S 223 (pureP G223)) (q219 : PrOk S 219 (pureP G219)) (q224 : PrOk S 224 (pureP G224)) (h204 : S.has 204 f204) (l : List (Int × Int × Int)) : MF S 204 [] [den0 (.one (.row (.pair (.int .i64) (.pair (.int .i32) (.int .i32))) l))] (hl []) fun v _ => v = .one (.bool true) :=
  mfM hB [] [⟨213, G213, K213⟩, ⟨220, G220, K220⟩, ⟨221, G221, K221⟩, ⟨222, G222, K222⟩, ⟨223, G223, K223⟩, ⟨219, G219, K219⟩, ⟨224, G224, K224⟩] trivial ⟨⟨q213, K213_ok⟩, ⟨q220, K220_ok⟩, ⟨q221, K221_ok⟩, ⟨q222, K222_ok⟩, ⟨q223, K223_ok⟩, ⟨q219, K219_ok⟩, ⟨q224, K224_ok⟩, trivial⟩ h204 (v := .one .tt) (xs := [.one (.row (.pair (.int .i64) (.pair (.int .i32) (.int .i32))) l)]) rfl rfl rfl (fun _ _ _ _ => none) 800 (VC.use (p :=
    (((!true) = true →
      (false = true)) ∧
    (¬(!true) = true →
     ((2000 < (↑l.length : Int) →
       True) ∧
     (¬2000 < (↑l.length : Int) →
      ((l.length ≤ 1099511627776) ∧
      ((l.length ≤ 1099511627776) ∧
      ((readA l = readA l →
        ((readB l = readB l →
          ((chkE l = chkE l →
            ((l.length ≤ 1099511627776) ∧
            ((l.length ≤ 1099511627776) ∧
            ((chkE l = chkE l →
              ((l.length ≤ 1099511627776) ∧
              ((l.length ≤ 1099511627776) ∧
              (decide (costL l = costL l) = true)))) ∧
            (¬chkE l = chkE l →
             (false = true)))))) ∧
          (¬chkE l = chkE l →
           (false = true)))) ∧
        (¬readB l = readB l →
         (false = true)))) ∧
      (¬readA l = readA l →
       (false = true)))))))))) (by kernel_rfl) (by
    exact ⟨fun h => by simp at h, fun _ => ⟨fun _ => trivial, fun h => ⟨by omega, by omega, fun _ => ⟨fun _ => ⟨fun _ => ⟨by omega, by omega, fun _ => ⟨by omega, by omega, by simp⟩, fun h => absurd rfl h⟩, fun h => absurd rfl h⟩, fun h => absurd rfl h⟩, fun h => absurd rfl h⟩⟩⟩))
end Go.EA

