/- Layer 4: the document's examples; a law. Conditions: none. (Printed by a program of this project's own.) -/
import Derived.Test.YtmfjbaepgfdfpaaDoorEDi
import Derived.Test.YtmfjbaepgfdfpaaDoorESp4
import Derived.Test.YtmfjbaepgfdfpaaDoorEK11
import Derived.Test.YtmfjbaepgfdfpaaDoorEK9
import Derived.KernelRfl
set_option linter.unusedVariables false
set_option linter.unusedSimpArgs false
set_option maxRecDepth 100000
set_option maxHeartbeats 0
namespace Go.EA
open F
def P213 : Unit → List SV := fun _ => []
def R213 : Unit → SV × List Prop := fun _ => (.one (.bool true), [])
def K213 : Con := ⟨true, [], fun xs => match xs with | [] => some (R213 ()) | _ => none⟩
noncomputable def G213 : GP := conG P213 R213
theorem P213_inj : ∀ a b, (P213 a).map den0 = (P213 b).map den0 → a = b := by
  intro a b _; rfl
theorem K213_ok : ConG G213 K213 := conG_of P213_inj (fun _ _ => rfl) (fun _ => rfl) fun xs r h => by
  simp only [K213] at h
  split at h
  · cases h; exact ⟨(), rfl, rfl⟩
  · cases h
theorem pr213 {S : SC} (hB : SB S) (q214 : PrOk S 214 (pureP G214)) (q216 : PrOk S 216 (pureP G216)) (h213 : S.has 213 f213) : PrOk S 213 (pureP G213) := by
  refine prM hB [] [⟨214, G214, K214⟩, ⟨216, G216, K216⟩] trivial ⟨⟨q214, K214_ok⟩, ⟨q216, K216_ok⟩, trivial⟩ h213 (fun _ => ⟨rfl, rfl, rfl⟩) (fun _ => fun _ _ _ _ => none) 600 ?_
  rintro _ hc
  refine VC.use (p :=
    (((2 : Nat) ≤ (1099511627776 : Nat)) ∧
    (((1 : Nat) ≤ (1099511627776 : Nat)) ∧
    (((2 : Nat) ≤ (1099511627776 : Nat)) ∧
    (((1 : Nat) ≤ (1099511627776 : Nat)) ∧
    (((2 : Int) = (2 : Int) →
      (((0 : Int) ≤ (0 : Int) ∧ (0 : Int) < (2 : Int)) ∧
      ((sameS (List.take (3 : Nat) (List.drop (0 : Nat) (StpT.cells ((stepsV [(114 : UInt8), (110 : UInt8)] [(109 : UInt8)]).getD (0 : Nat) ((0 : Int), (0 : Int), (0 : Int)))))) (List.take (1 : Nat) (List.take (0 : Nat) (List.map ofLf [Lf.int IntKind.i64 (0 : Int), Lf.int IntKind.i32 (0 : Int), Lf.int IntKind.i32 (0 : Int)]) ++ ([ofLf (Lf.int IntKind.i64 (2 : Int))] ++ List.drop (1 : Nat) (List.map ofLf [Lf.int IntKind.i64 (0 : Int), Lf.int IntKind.i32 (0 : Int), Lf.int IntKind.i32 (0 : Int)]))) ++ ([ofLf (Lf.int IntKind.i32 (114 : Int))] ++ List.drop (2 : Nat) (List.take (0 : Nat) (List.map ofLf [Lf.int IntKind.i64 (0 : Int), Lf.int IntKind.i32 (0 : Int), Lf.int IntKind.i32 (0 : Int)]) ++ ([ofLf (Lf.int IntKind.i64 (2 : Int))] ++ List.drop (1 : Nat) (List.map ofLf [Lf.int IntKind.i64 (0 : Int), Lf.int IntKind.i32 (0 : Int), Lf.int IntKind.i32 (0 : Int)]))))) = true →
        (((0 : Int) ≤ (1 : Int) ∧ (1 : Int) < (2 : Int)) ∧
        (((1 : Int) = (1 : Int) →
          (((1 : Int) = (1 : Int) →
            (((0 : Int) = (0 : Int) →
              (decide ((0 : Int) = (0 : Int)) = true)) ∧
            (¬(0 : Int) = (0 : Int) →
             (false = true)))) ∧
          (¬(1 : Int) = (1 : Int) →
           (false = true)))) ∧
        (¬(1 : Int) = (1 : Int) →
         (false = true))))) ∧
      (¬sameS (List.take (3 : Nat) (List.drop (0 : Nat) (StpT.cells ((stepsV [(114 : UInt8), (110 : UInt8)] [(109 : UInt8)]).getD (0 : Nat) ((0 : Int), (0 : Int), (0 : Int)))))) (List.take (1 : Nat) (List.take (0 : Nat) (List.map ofLf [Lf.int IntKind.i64 (0 : Int), Lf.int IntKind.i32 (0 : Int), Lf.int IntKind.i32 (0 : Int)]) ++ ([ofLf (Lf.int IntKind.i64 (2 : Int))] ++ List.drop (1 : Nat) (List.map ofLf [Lf.int IntKind.i64 (0 : Int), Lf.int IntKind.i32 (0 : Int), Lf.int IntKind.i32 (0 : Int)]))) ++ ([ofLf (Lf.int IntKind.i32 (114 : Int))] ++ List.drop (2 : Nat) (List.take (0 : Nat) (List.map ofLf [Lf.int IntKind.i64 (0 : Int), Lf.int IntKind.i32 (0 : Int), Lf.int IntKind.i32 (0 : Int)]) ++ ([ofLf (Lf.int IntKind.i64 (2 : Int))] ++ List.drop (1 : Nat) (List.map ofLf [Lf.int IntKind.i64 (0 : Int), Lf.int IntKind.i32 (0 : Int), Lf.int IntKind.i32 (0 : Int)]))))) = true →
       (false = true))))) ∧
    (¬(2 : Int) = (2 : Int) →
     (false = true)))))))) (by kernel_rfl) ?_
  repeat' (first | intro _ | apply And.intro)
  all_goals first
    | omega
    | rfl
    | (exfalso; omega)
    | (rename_i h; exact absurd (by decide +kernel) h)
end Go.EA

