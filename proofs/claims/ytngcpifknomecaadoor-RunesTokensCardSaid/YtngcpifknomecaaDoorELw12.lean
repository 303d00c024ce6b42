/- Layer 1: a law. Conditions: none. (Printed by a program of this project's own.) -/
import Derived.Test.YtngcpifknomecaaDoorEAf1
import Derived.Test.YtngcpifknomecaaDoorEK9
import Derived.Test.YtngcpifknomecaaDoorEMean6
import Derived.Test.YtngcpifknomecaaDoorERx
import Derived.Test.YtngcpifknomecaaDoorECmp
import Derived.Test.YtngcpifknomecaaDoorERf
import Derived.Test.YtngcpifknomecaaDoorERu
import Derived.Test.YtngcpifknomecaaDoorEPrim2
import Derived.Test.YtngcpifknomecaaDoorELw9
import Derived.KernelRfl
set_option linter.unusedVariables false
set_option linter.unusedSimpArgs false
set_option maxRecDepth 100000
set_option maxHeartbeats 0
namespace Go.EA
open F
theorem letters_encL {l : List Int} (h : l.all Utf8.valid = true) : lettersB (encL l) = (decide (0 < l.length) && l.all letterB) := by
  obtain ⟨e1, e2, _⟩ := dec_encL h
  unfold lettersB
  rw [e1, e2]; rfl
theorem encE_one {r : Int} (h : encE [r] = 0) : encT [r] = encL [r] ∧ lettersB (encT [r]) = letterB r ∧ lettersB (encT [r] ++ encT [r]) = letterB r ∧ lettersB (encT [r] ++ [32]) = false := by
  have hv := encE_ok h
  have hv1 : Utf8.valid r = true := by simpa using hv
  have e0 : encT [r] = encL [r] := (encT_ok hv).1
  have e1 : encL [r] ++ encL [r] = encL [r, r] := by simp [encL]
  have e2 : encL [r] ++ [32] = encL [r, 32] := by
    have : encB 32 = [32] := by decide +kernel
    simp [encL, this]
  rw [e0, e1, e2, letters_encL hv, letters_encL (by simp [hv1]), letters_encL (by simp [hv1]; decide)]
  refine ⟨rfl, by simp, by simp, ?_⟩
  simp
  intro _; decide
theorem letter_bad {r : Int} (h : encE [r] ≠ 0) : letterB r = false := by
  cases hl : letterB r
  · rfl
  · exfalso
    apply h
    unfold letterB at hl
    simp only [Bool.and_eq_true] at hl
    unfold encE
    simp [hl.1.1.1.1]
theorem decOk_runes {s : List UInt8} (h : decOk s = true) : decR s = (runes s).map (·.1) ∧ decE s = 0 := by
  unfold decR decE
  rw [h]; exact ⟨rfl, rfl⟩
theorem tokR_le {s : List UInt8} : tokE s ≠ 0 → tokR s = [] := fun h => by unfold tokR; rw [if_neg h]
theorem w12 {S : SC} (hB : SB S) (q16 : PrOk S 16 (pureP G16)) (q20 : PrOk S 20 (pureP G20)) (q43 : PrOk S 43 (pureP G43)) (q38 : PrOk S 38 (pureP G38)) (q33 : PrOk S 33 (pureP G33)) (q35 : PrOk S 35 (pureP G35)) (q22 : PrOk S 22 (pureP G22)) (h12 : S.has 12 f12) (s : List UInt8) (r : Int) : MF S 12 [] [den0 (.one (.str s)), den0 (.one (.int .i32 r))] (hl []) fun v _ => v = .one (.bool true) :=
  mfM hB [] [⟨16, G16, K16⟩, ⟨20, G20, K20⟩, ⟨43, G43, K43⟩, ⟨38, G38, K38⟩, ⟨33, G33, K33⟩, ⟨35, G35, K35⟩, ⟨22, G22, K22⟩] trivial ⟨⟨q16, K16_ok⟩, ⟨q20, K20_ok⟩, ⟨q43, K43_ok⟩, ⟨q38, K38_ok⟩, ⟨q33, K33_ok⟩, ⟨q35, K35_ok⟩, ⟨q22, K22_ok⟩, trivial⟩ h12 (v := .one .tt) (xs := [.one (.str s), .one (.int .i32 r)]) rfl rfl rfl (fun f id T L => match f, id with
      | 12, 0 => some (.cut Unit fun _ => ([(8, .one (.int .i64 (tokE s)))], []))
      | _, _ => none) 400 (VC.use (p :=
    ((3000 < (↑s.length : Int) →
      True) ∧
    (¬3000 < (↑s.length : Int) →
     ((s.length ≤ 1099511627776) ∧
     ((s.length ≤ 4611686018427387904) ∧
     (((s.length ≤ 4611686018427387904) ∧
      (((!decOk s) = true →
        (∃ x1 : Unit,
         ((r = r) ∧
         ((tokR s = tokR s) ∧
         ((tokE s = tokE s) ∧
         (((↑(runes s).length : Int) = (↑(runes s).length : Int)) ∧
         (3 = tokE s))))))) ∧
      (¬(!decOk s) = true →
       (((↑(runes s).length : Int) = 0 →
         (∃ x1 : Unit,
          ((r = r) ∧
          ((tokR s = tokR s) ∧
          ((tokE s = tokE s) ∧
          (((↑(runes s).length : Int) = (↑(runes s).length : Int)) ∧
          (4 = tokE s))))))) ∧
       (¬(↑(runes s).length : Int) = 0 →
        ((64 < (↑(runes s).length : Int) →
          (∃ x1 : Unit,
           ((r = r) ∧
           ((tokR s = tokR s) ∧
           ((tokE s = tokE s) ∧
           (((↑(runes s).length : Int) = (↑(runes s).length : Int)) ∧
           (5 = tokE s))))))) ∧
        (¬64 < (↑(runes s).length : Int) →
         (∃ x1 : Unit,
          ((r = r) ∧
          ((tokR s = tokR s) ∧
          ((tokE s = tokE s) ∧
          (((↑(runes s).length : Int) = (↑(runes s).length : Int)) ∧
          (0 = tokE s))))))))))))) ∧
     (∀ x1 : Unit,
      ((tokE s = tokE s →
        ((tokE s = 0 →
          (((↑(tokR s).length : Int) = (↑(runes s).length : Int) →
            ((tokE s = 0 →
              (([r].length ≤ 1099511627776) ∧
              ((encE [r] = 0 →
                ((decide (lettersB (encT [r]) = letterB r) = true →
                  (((encT [r]).length + (encT [r]).length ≤ 9223372036854775807) ∧
                  ((decide (lettersB (encT [r] ++ encT [r]) = letterB r) = true →
                    (((encT [r]).length + 1 ≤ 9223372036854775807) ∧
                    (((!lettersB (encT [r] ++ [32])) = true →
                      ((!lettersB []) = true)) ∧
                    (¬(!lettersB (encT [r] ++ [32])) = true →
                     (false = true))))) ∧
                  (¬decide (lettersB (encT [r] ++ encT [r]) = letterB r) = true →
                   (false = true))))) ∧
                (¬decide (lettersB (encT [r]) = letterB r) = true →
                 (false = true)))) ∧
              (¬encE [r] = 0 →
               ((!letterB r) = true))))) ∧
            (¬tokE s = 0 →
             (((↑(tokR s).length : Int) = 0 →
               (([r].length ≤ 1099511627776) ∧
               ((encE [r] = 0 →
                 ((decide (lettersB (encT [r]) = letterB r) = true →
                   (((encT [r]).length + (encT [r]).length ≤ 9223372036854775807) ∧
                   ((decide (lettersB (encT [r] ++ encT [r]) = letterB r) = true →
                     (((encT [r]).length + 1 ≤ 9223372036854775807) ∧
                     (((!lettersB (encT [r] ++ [32])) = true →
                       ((!lettersB []) = true)) ∧
                     (¬(!lettersB (encT [r] ++ [32])) = true →
                      (false = true))))) ∧
                   (¬decide (lettersB (encT [r] ++ encT [r]) = letterB r) = true →
                    (false = true))))) ∧
                 (¬decide (lettersB (encT [r]) = letterB r) = true →
                  (false = true)))) ∧
               (¬encE [r] = 0 →
                ((!letterB r) = true))))) ∧
             (¬(↑(tokR s).length : Int) = 0 →
              (false = true)))))) ∧
          (¬(↑(tokR s).length : Int) = (↑(runes s).length : Int) →
           (false = true)))) ∧
        (¬tokE s = 0 →
         ((tokE s = 0 →
           (([r].length ≤ 1099511627776) ∧
           ((encE [r] = 0 →
             ((decide (lettersB (encT [r]) = letterB r) = true →
               (((encT [r]).length + (encT [r]).length ≤ 9223372036854775807) ∧
               ((decide (lettersB (encT [r] ++ encT [r]) = letterB r) = true →
                 (((encT [r]).length + 1 ≤ 9223372036854775807) ∧
                 (((!lettersB (encT [r] ++ [32])) = true →
                   ((!lettersB []) = true)) ∧
                 (¬(!lettersB (encT [r] ++ [32])) = true →
                  (false = true))))) ∧
               (¬decide (lettersB (encT [r] ++ encT [r]) = letterB r) = true →
                (false = true))))) ∧
             (¬decide (lettersB (encT [r]) = letterB r) = true →
              (false = true)))) ∧
           (¬encE [r] = 0 →
            ((!letterB r) = true))))) ∧
         (¬tokE s = 0 →
          (((↑(tokR s).length : Int) = 0 →
            (([r].length ≤ 1099511627776) ∧
            ((encE [r] = 0 →
              ((decide (lettersB (encT [r]) = letterB r) = true →
                (((encT [r]).length + (encT [r]).length ≤ 9223372036854775807) ∧
                ((decide (lettersB (encT [r] ++ encT [r]) = letterB r) = true →
                  (((encT [r]).length + 1 ≤ 9223372036854775807) ∧
                  (((!lettersB (encT [r] ++ [32])) = true →
                    ((!lettersB []) = true)) ∧
                  (¬(!lettersB (encT [r] ++ [32])) = true →
                   (false = true))))) ∧
                (¬decide (lettersB (encT [r] ++ encT [r]) = letterB r) = true →
                 (false = true))))) ∧
              (¬decide (lettersB (encT [r]) = letterB r) = true →
               (false = true)))) ∧
            (¬encE [r] = 0 →
             ((!letterB r) = true))))) ∧
          (¬(↑(tokR s).length : Int) = 0 →
           (false = true)))))))) ∧
      (¬tokE s = tokE s →
       (false = true)))))))))) (by kernel_rfl) (by
    have l1 : (encT [r]).length ≤ 4 * 1 := encT_len [r]
    have f1 : encE [r] = 0 → lettersB (encT [r]) = letterB r ∧ lettersB (encT [r] ++ encT [r]) = letterB r ∧ lettersB (encT [r] ++ [32]) = false := fun h => (encE_one h).2
    have f2 : encE [r] ≠ 0 → letterB r = false := letter_bad
    have f3 : lettersB [] = false := by decide +kernel
    have t0 : decOk s = false → tokE s = 3 := fun h => by have := decE_nz.2 h; rw [(tok_u this).2]; unfold decE; rw [h]; rfl
    have t1 : decOk s = true → (runes s).length = 0 → tokE s = 4 := fun h h1 => by obtain ⟨a, b⟩ := decOk_runes h; exact (tok_e b (by rw [a]; simpa using h1)).2
    have t2 : decOk s = true → 64 < (runes s).length → tokE s = 5 := fun h h1 => by obtain ⟨a, b⟩ := decOk_runes h; exact (tok_l b (by rw [a]; simpa using h1)).2
    have t3 : decOk s = true → (runes s).length ≠ 0 → ¬ 64 < (runes s).length → tokE s = 0 ∧ (tokR s).length = (runes s).length := fun h h1 h2 => by
      obtain ⟨a, b⟩ := decOk_runes h
      obtain ⟨c, d⟩ := tok_k b (by rw [a]; simpa using h1) (by rw [a]; simpa using h2)
      rw [c, a]; exact ⟨d, by simp⟩
    have t4 : tokE s ≠ 0 → (tokR s).length = 0 := fun h => by rw [tokR_le h]; rfl
    have t5 : tokE s = 0 → (tokR s).length = (runes s).length := fun h => by
      cases hk : decOk s
      · have := t0 hk; omega
      · by_cases c1 : (runes s).length = 0
        · have := t1 hk c1; omega
        · by_cases c2 : 64 < (runes s).length
          · have := t2 hk c2; omega
          · exact (t3 hk c1 c2).2
    refine ⟨fun _ => trivial, fun h0 => ⟨by omega, by omega, ⟨by omega, fun h1 => ⟨(), rfl, rfl, rfl, rfl, (t0 (by simpa using h1)).symm⟩, fun h1 => ⟨fun h2 => ⟨(), rfl, rfl, rfl, rfl, (t1 (by simpa using h1) (by omega)).symm⟩, fun h2 => ⟨fun h3 => ⟨(), rfl, rfl, rfl, rfl, (t2 (by simpa using h1) (by omega)).symm⟩, fun h3 => ⟨(), rfl, rfl, rfl, rfl, (t3 (by simpa using h1) (by omega) (by omega)).1.symm⟩⟩⟩⟩, ?_⟩⟩
    intro _
    clear t0 t1 t2 t3
    repeat' (first | intro _ | apply And.intro)
    all_goals first
      | omega
      | (exfalso; simp_all; done)
      | (simp_all; done)))
end Go.EA
