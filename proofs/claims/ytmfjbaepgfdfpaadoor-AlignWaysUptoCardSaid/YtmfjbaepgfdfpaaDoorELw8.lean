/- Layer 4: the document's examples; a law. Conditions: none. (Printed by a program of this project's own.) -/
import Derived.Test.YtmfjbaepgfdfpaaDoorEDi
import Derived.Test.YtmfjbaepgfdfpaaDoorESp4
import Derived.Test.YtmfjbaepgfdfpaaDoorELev2
import Derived.Test.YtmfjbaepgfdfpaaDoorEK9
import Derived.KernelRfl
set_option linter.unusedVariables false
set_option linter.unusedSimpArgs false
set_option maxRecDepth 100000
set_option maxHeartbeats 0
namespace Go.EA
open F
theorem alive_steps : stepsV [114, 110] [109] = [(2, 114, 0), (1, 110, 109)] := by decide +kernel
theorem alive_dist : distV [97, 98] [98] = 1 := by decide +kernel
theorem alive_e1 : twoE [114, 110] [109] = 0 := by decide +kernel
theorem alive_e2 : twoE [97, 98] [98] = 0 := by decide +kernel
theorem tok_ok {s : List UInt8} (h : tokE s = 0) : tokR s = decR s ∧ decOk s = true ∧ 0 < (tokR s).length := by
  have e : tokR s = decR s := by unfold tokR; rw [if_pos h]
  by_cases h1 : decE s = 0
  · by_cases h2 : (decR s).length = 0
    · rw [(tok_e h1 h2).2] at h; cases h
    · refine ⟨e, decE_zero.1 h1, ?_⟩
      rw [e]; omega
  · rw [(tok_u h1).2] at h; exact absurd h h1
theorem tok_enc {s : List UInt8} (h : tokE s = 0) : encL (tokR s) = s := by
  obtain ⟨e, hk, _⟩ := tok_ok h
  rw [e]; unfold decR; rw [if_pos hk]
  exact (enc_runes s.length s (Nat.le_refl _) hk).1
theorem dist_ok {s t : List UInt8} (h : tokE s = 0) (h1 : tokE t = 0) : distV s t = lev (tokR s).reverse (tokR t).reverse := (two_ok h h1).2
theorem dist_zero {s t : List UInt8} (h : tokE s = 0) (h1 : tokE t = 0) : distV s t = 0 ↔ s = t := by
  rw [dist_ok h h1]
  constructor
  · intro e
    have e : (tokR s).reverse = (tokR t).reverse := lev_zero.1 (by omega)
    have e : tokR s = tokR t := by simpa using congrArg List.reverse e
    rw [← tok_enc h, ← tok_enc h1, e]
  · rintro rfl
    have := (lev_zero (a := (tokR s).reverse) (b := (tokR s).reverse)).2 rfl
    omega
def P213 : Unit → List SV := fun _ => []
def R213 : Unit → SV × List Prop := fun _ => (.one (.bool true), [])
def K213 : Con := ⟨true, [], fun xs => match xs with | [] => some (R213 ()) | _ => none⟩
noncomputable def G213 : GP := conG P213 R213
theorem P213_inj : ∀ a b, (P213 a).map den0 = (P213 b).map den0 → a = b := by
  intro a b _; rfl
theorem K213_ok : ConG G213 K213 := conG_of P213_inj (fun _ _ => rfl) (fun _ => rfl) fun xs r h => by
  simp only [K213] at h
  split at h
  · cases h; exact ⟨(), rfl, rfl⟩
  · cases h
theorem pr213 {S : SC} (hB : SB S) (q214 : PrOk S 214 (pureP G214)) (q216 : PrOk S 216 (pureP G216)) (h213 : S.has 213 f213) : PrOk S 213 (pureP G213) := by
  refine prM hB [] [⟨214, G214, K214⟩, ⟨216, G216, K216⟩] trivial ⟨⟨q214, K214_ok⟩, ⟨q216, K216_ok⟩, trivial⟩ h213 (fun _ => ⟨rfl, rfl, rfl⟩) (fun _ => fun _ _ _ _ => none) 600 ?_
  rintro _ hc
  refine VC.use (p :=
    (((2 : Nat) ≤ (1099511627776 : Nat)) ∧
    (((1 : Nat) ≤ (1099511627776 : Nat)) ∧
    (((2 : Nat) ≤ (1099511627776 : Nat)) ∧
    (((1 : Nat) ≤ (1099511627776 : Nat)) ∧
    (((2 : Int) = (2 : Int) →
      (((0 : Int) ≤ (0 : Int) ∧ (0 : Int) < (2 : Int)) ∧
      ((sameS (List.take (3 : Nat) (List.drop (0 : Nat) (StpT.cells ((stepsV [(114 : UInt8), (110 : UInt8)] [(109 : UInt8)]).getD (0 : Nat) ((0 : Int), (0 : Int), (0 : Int)))))) (List.take (1 : Nat) (List.take (0 : Nat) (List.map ofLf [Lf.int IntKind.i64 (0 : Int), Lf.int IntKind.i32 (0 : Int), Lf.int IntKind.i32 (0 : Int)]) ++ ([ofLf (Lf.int IntKind.i64 (2 : Int))] ++ List.drop (1 : Nat) (List.map ofLf [Lf.int IntKind.i64 (0 : Int), Lf.int IntKind.i32 (0 : Int), Lf.int IntKind.i32 (0 : Int)]))) ++ ([ofLf (Lf.int IntKind.i32 (114 : Int))] ++ List.drop (2 : Nat) (List.take (0 : Nat) (List.map ofLf [Lf.int IntKind.i64 (0 : Int), Lf.int IntKind.i32 (0 : Int), Lf.int IntKind.i32 (0 : Int)]) ++ ([ofLf (Lf.int IntKind.i64 (2 : Int))] ++ List.drop (1 : Nat) (List.map ofLf [Lf.int IntKind.i64 (0 : Int), Lf.int IntKind.i32 (0 : Int), Lf.int IntKind.i32 (0 : Int)]))))) = true →
        (((0 : Int) ≤ (1 : Int) ∧ (1 : Int) < (2 : Int)) ∧
        (((1 : Int) = (1 : Int) →
          (((1 : Int) = (1 : Int) →
            (((0 : Int) = (0 : Int) →
              (decide ((0 : Int) = (0 : Int)) = true)) ∧
            (¬(0 : Int) = (0 : Int) →
             (false = true)))) ∧
          (¬(1 : Int) = (1 : Int) →
           (false = true)))) ∧
        (¬(1 : Int) = (1 : Int) →
         (false = true))))) ∧
      (¬sameS (List.take (3 : Nat) (List.drop (0 : Nat) (StpT.cells ((stepsV [(114 : UInt8), (110 : UInt8)] [(109 : UInt8)]).getD (0 : Nat) ((0 : Int), (0 : Int), (0 : Int)))))) (List.take (1 : Nat) (List.take (0 : Nat) (List.map ofLf [Lf.int IntKind.i64 (0 : Int), Lf.int IntKind.i32 (0 : Int), Lf.int IntKind.i32 (0 : Int)]) ++ ([ofLf (Lf.int IntKind.i64 (2 : Int))] ++ List.drop (1 : Nat) (List.map ofLf [Lf.int IntKind.i64 (0 : Int), Lf.int IntKind.i32 (0 : Int), Lf.int IntKind.i32 (0 : Int)]))) ++ ([ofLf (Lf.int IntKind.i32 (114 : Int))] ++ List.drop (2 : Nat) (List.take (0 : Nat) (List.map ofLf [Lf.int IntKind.i64 (0 : Int), Lf.int IntKind.i32 (0 : Int), Lf.int IntKind.i32 (0 : Int)]) ++ ([ofLf (Lf.int IntKind.i64 (2 : Int))] ++ List.drop (1 : Nat) (List.map ofLf [Lf.int IntKind.i64 (0 : Int), Lf.int IntKind.i32 (0 : Int), Lf.int IntKind.i32 (0 : Int)]))))) = true →
       (false = true))))) ∧
    (¬(2 : Int) = (2 : Int) →
     (false = true)))))))) (by kernel_rfl) ?_
  repeat' (first | intro _ | apply And.intro)
  all_goals first
    | omega
    | rfl
    | (exfalso; omega)
    | (rename_i h; exact absurd (by decide +kernel) h)
theorem w201 {S : SC} (hB : SB S) (q213 : PrOk S 213 (pureP G213)) (q20 : PrOk S 20 (pureP G20)) (q216 : PrOk S 216 (pureP G216)) (h201 : S.has 201 f201) (s : List UInt8) (t : List UInt8) (u : List UInt8) (ls : s.length ≤ 1048576) (lt : t.length ≤ 1048576) (lu : u.length ≤ 1048576) : MF S 201 [] [den0 (.one (.str s)), den0 (.one (.str t)), den0 (.one (.str u))] (hl []) fun v _ => v = .one (.bool true) :=
  mfM hB [] [⟨213, G213, K213⟩, ⟨20, G20, K20⟩, ⟨216, G216, K216⟩] trivial ⟨⟨q213, K213_ok⟩, ⟨q20, K20_ok⟩, ⟨q216, K216_ok⟩, trivial⟩ h201 (v := .one .tt) (xs := [.one (.str s), .one (.str t), .one (.str u)]) rfl rfl rfl (fun _ _ _ _ => none) 800 (VC.use (p :=
    (((!true) = true →
      (false = true)) ∧
    (¬(!true) = true →
     ((s.length ≤ 1099511627776) ∧
     ((t.length ≤ 1099511627776) ∧
     ((u.length ≤ 1099511627776) ∧
     ((tokE s = 0 →
       ((tokE t = 0 →
         ((tokE u = 0 →
           ((s.length ≤ 1099511627776) ∧
           ((t.length ≤ 1099511627776) ∧
           ((t.length ≤ 1099511627776) ∧
           ((s.length ≤ 1099511627776) ∧
           ((s.length ≤ 1099511627776) ∧
           ((u.length ≤ 1099511627776) ∧
           ((u.length ≤ 1099511627776) ∧
           ((t.length ≤ 1099511627776) ∧
           ((i64R ((↑(tokR s).length : Int) - (↑(tokR t).length : Int))) ∧
           ((distV s t = distV t s →
             ((decide (decide (distV s t = 0) = decide (s = t)) = true →
               ((i64R (distV s u + distV u t)) ∧
               ((distV s t ≤ distV s u + distV u t →
                 ((i64R (-((↑(tokR s).length : Int) - (↑(tokR t).length : Int)))) ∧
                 (((match true with   | true => if (↑(tokR s).length : Int) - (↑(tokR t).length : Int) < -((↑(tokR s).length : Int) - (↑(tokR t).length : Int)) then -((↑(tokR s).length : Int) - (↑(tokR t).length : Int)) else (↑(tokR s).length : Int) - (↑(tokR t).length : Int)   | false => if -((↑(tokR s).length : Int) - (↑(tokR t).length : Int)) < (↑(tokR s).length : Int) - (↑(tokR t).length : Int) then -((↑(tokR s).length : Int) - (↑(tokR t).length : Int)) else (↑(tokR s).length : Int) - (↑(tokR t).length : Int)) ≤   distV s t →
                   (decide     (distV s t ≤       match true with       | true => if (↑(tokR s).length : Int) < (↑(tokR t).length : Int) then (↑(tokR t).length : Int) else (↑(tokR s).length : Int)       | false => if (↑(tokR t).length : Int) < (↑(tokR s).length : Int) then (↑(tokR t).length : Int) else (↑(tokR s).length : Int)) =   true)) ∧
                 (¬(match true with     | true => if (↑(tokR s).length : Int) - (↑(tokR t).length : Int) < -((↑(tokR s).length : Int) - (↑(tokR t).length : Int)) then -((↑(tokR s).length : Int) - (↑(tokR t).length : Int)) else (↑(tokR s).length : Int) - (↑(tokR t).length : Int)     | false => if -((↑(tokR s).length : Int) - (↑(tokR t).length : Int)) < (↑(tokR s).length : Int) - (↑(tokR t).length : Int) then -((↑(tokR s).length : Int) - (↑(tokR t).length : Int)) else (↑(tokR s).length : Int) - (↑(tokR t).length : Int)) ≤     distV s t →
                  (false = true))))) ∧
               (¬distV s t ≤ distV s u + distV u t →
                (false = true))))) ∧
             (¬decide (decide (distV s t = 0) = decide (s = t)) = true →
              (false = true)))) ∧
           (¬distV s t = distV t s →
            (false = true))))))))))))) ∧
         (¬tokE u = 0 →
          True))) ∧
       (¬tokE t = 0 →
        True))) ∧
     (¬tokE s = 0 →
      True)))))))) (by kernel_rfl) (by
    refine ⟨fun h => by simp at h, fun _ => ⟨by omega, by omega, by omega, fun h1 => ⟨fun h2 => ⟨fun h3 => ?_, fun _ => trivial⟩, fun _ => trivial⟩, fun _ => trivial⟩⟩
    have e0 := dist_ok h1 h2
    have e1 : distV s t = distV t s := by rw [e0, dist_ok h2 h1, lev_symm]
    have e2 := dist_zero h1 h2
    have e3 : distV s t ≤ distV s u + distV u t := by
      rw [e0, dist_ok h1 h3, dist_ok h3 h2]
      have := lev_tri (tokR s).reverse (tokR t).reverse (tokR u).reverse
      omega
    have b1 := lev_ge (tokR s).reverse (tokR t).reverse
    have b2 := lev_le (tokR s).reverse (tokR t).reverse
    have b3 := lev_le (tokR s).reverse (tokR u).reverse
    have b4 := lev_le (tokR u).reverse (tokR t).reverse
    have k3 := dist_ok h1 h3
    have k4 := dist_ok h3 h2
    have l1 := tok64 (s := s)
    have l2 := tok64 (s := t)
    have l3 := tok64 (s := u)
    simp only [List.length_reverse] at b1 b2 b3 b4
    refine ⟨by omega, by omega, by omega, by omega, by omega, by omega, by omega, by omega, by unfold i64R; omega, fun _ => ⟨fun _ => ⟨by unfold i64R; omega, fun _ => ⟨by unfold i64R; omega, fun _ => ?_, fun h => ?_⟩, fun h => absurd e3 h⟩, fun h => ?_⟩, fun h => absurd e1 h⟩
    · rw [decide_eq_true_eq]
      dsimp only
      split <;> omega
    · exfalso
      apply h
      dsimp only
      split <;> omega
    · exfalso
      apply h
      rw [decide_eq_true_eq, Bool.eq_iff_iff, decide_eq_true_eq, decide_eq_true_eq]
      exact e2))
end Go.EA
