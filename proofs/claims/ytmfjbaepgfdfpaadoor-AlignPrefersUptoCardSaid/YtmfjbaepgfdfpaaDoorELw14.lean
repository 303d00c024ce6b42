/- Layer 4: laws of steps. Conditions: none. (Printed by a program of this project's own.) -/
import Derived.Test.YtmfjbaepgfdfpaaDoorELw8
import Derived.Test.YtmfjbaepgfdfpaaDoorERd
import Derived.Test.YtmfjbaepgfdfpaaDoorEWl
import Derived.Test.YtmfjbaepgfdfpaaDoorEK9
import Derived.KernelRfl
set_option linter.unusedVariables false
set_option linter.unusedSimpArgs false
set_option maxRecDepth 100000
set_option maxHeartbeats 0
namespace Go.EA
open F
theorem rev_getD {α : Type} {l : List α} {i : Nat} (h : i < l.length) (d : α) : l.reverse.getD i d = l.getD (l.length - 1 - i) d := by
  simp [List.getD_eq_getElem?_getD, List.getElem?_reverse h]
section
variable {s t : List UInt8}
theorem steps_cost (h : tokE s = 0) (h1 : tokE t = 0) : costL (stepsV s t) = distV s t ∧ (tokR s).length ≤ (stepsV s t).length ∧ (stepsV s t).length ≤ 128 := by
  obtain ⟨g1, g2⟩ := walk_all (tokR s).reverse (tokR t).reverse
  have hr := g1.rd
  have hl := walkL_len (tokR s).reverse (tokR t).reverse
  have ha := tok64 (s := s)
  have hb := tok64 (s := t)
  have hc := rdA_len (walkL (tokR s).reverse (tokR t).reverse)
  rw [hr.1] at hc
  simp only [List.length_reverse] at hl hc
  rw [stepsV_ok h h1, costL_rev, g2, dist_ok h h1, List.length_reverse]
  exact ⟨rfl, hc, by omega⟩
theorem last_cons {l : List Int} (h : 0 < l.length) : l.reverse = l.getD (l.length - 1) 0 :: rv l (l.length - 1) := by
  have := rv_succ (l := l) (n := l.length - 1) (by omega)
  rw [show l.length - 1 + 1 = l.length by omega, rv_all] at this
  exact this
theorem steps_last (h : tokE s = 0) (h1 : tokE t = 0) (he : (tokR s).getD ((tokR s).length - 1) 0 = (tokR t).getD ((tokR t).length - 1) 0) : ((stepsV s t).getD ((stepsV s t).length - 1) (0, 0, 0)).1 = 0 := by
  have l1 := (tok_ok h).2.2
  have l2 := (tok_ok h1).2.2
  rw [stepsV_ok h h1, last_cons l1, last_cons l2, he, kind_same, List.length_reverse, List.length_cons, rev_getD (by simp)]
  simp
theorem steps_zip (h : tokE s = 0) (h1 : tokE t = 0) (hl : (tokR s).length = (tokR t).length) (hc : ¬ 1 < costL (stepsV s t)) : (stepsV s t).length = (tokR s).length ∧ ∀ i, i < (stepsV s t).length → ((stepsV s t).getD i (0, 0, 0)).1 ≤ 1 ∧ ((stepsV s t).getD i (0, 0, 0)).2.1 = (tokR s).getD i 0 ∧ ((stepsV s t).getD i (0, 0, 0)).2.2 = (tokR t).getD i 0 := by
  obtain ⟨g1, g2⟩ := walk_all (tokR s).reverse (tokR t).reverse
  obtain ⟨d, i, c1, c2, c3, c4, c5⟩ := g1.count
  rw [stepsV_ok h h1, costL_rev] at hc
  simp only [List.length_reverse] at c1
  obtain ⟨z1, z2, z3⟩ := g1.zip fun x hx => ⟨c3 (by omega) x hx, c4 (by omega) x hx⟩
  rw [stepsV_ok h h1]
  rw [List.length_reverse] at z1 z2
  refine ⟨by rw [List.length_reverse, z1], fun i hi => ?_⟩
  rw [List.length_reverse] at hi
  rw [rev_getD hi]
  obtain ⟨a1, a2, a3⟩ := z3 ((walkL (tokR s).reverse (tokR t).reverse).length - 1 - i) (by omega)
  refine ⟨a3, ?_, ?_⟩
  · rw [a1, rev_getD (by omega)]; congr 1; omega
  · rw [a2, rev_getD (by omega)]; congr 1; omega
end
theorem w203 {S : SC} (hB : SB S) (q213 : PrOk S 213 (pureP G213)) (q20 : PrOk S 20 (pureP G20)) (q214 : PrOk S 214 (pureP G214)) (q219 : PrOk S 219 (pureP G219)) (h203 : S.has 203 f203) (s : List UInt8) (t : List UInt8) (ls : s.length ≤ 1048576) (lt : t.length ≤ 1048576) : MF S 203 [] [den0 (.one (.str s)), den0 (.one (.str t))] (hl []) fun v _ => v = .one (.bool true) :=
  mfM hB [] [⟨213, G213, K213⟩, ⟨20, G20, K20⟩, ⟨214, G214, K214⟩, ⟨219, G219, K219⟩] trivial ⟨⟨q213, K213_ok⟩, ⟨q20, K20_ok⟩, ⟨q214, K214_ok⟩, ⟨q219, K219_ok⟩, trivial⟩ h203 (v := .one .tt) (xs := [.one (.str s), .one (.str t)]) rfl rfl rfl (fun f id T L => match f, id with
      | 203, 0 => some (.inv { i : Nat // i ≤ (stepsV s t).length } (fun x => ([(79, .one (.int .i64 x.1))], [])) (fun x => (stepsV s t).length - x.1))
      | _, _ => none) 800 (VC.use (p :=
    (((!true) = true →
      (false = true)) ∧
    (¬(!true) = true →
     ((s.length ≤ 1099511627776) ∧
     ((t.length ≤ 1099511627776) ∧
     ((tokE s = 0 →
       ((tokE t = 0 →
         ((s.length ≤ 1099511627776) ∧
         ((t.length ≤ 1099511627776) ∧
         ((twoE s t = 0 →
           (((↑(stepsV s t).length : Int) = 0 →
             (false = true)) ∧
           (¬(↑(stepsV s t).length : Int) = 0 →
            ((i64R ((↑(tokR s).length : Int) - 1)) ∧
            ((0 ≤ (↑(tokR s).length : Int) - 1 ∧ (↑(tokR s).length : Int) - 1 < (↑(tokR s).length : Int)) ∧
            ((i64R ((↑(tokR t).length : Int) - 1)) ∧
            ((0 ≤ (↑(tokR t).length : Int) - 1 ∧ (↑(tokR t).length : Int) - 1 < (↑(tokR t).length : Int)) ∧
            (((tokR s).getD ((↑(tokR s).length : Int) - 1).toNat 0 = (tokR t).getD ((↑(tokR t).length : Int) - 1).toNat 0 →
              ((i64R ((↑(stepsV s t).length : Int) - 1)) ∧
              ((0 ≤ (↑(stepsV s t).length : Int) - 1 ∧ (↑(stepsV s t).length : Int) - 1 < (↑(stepsV s t).length : Int)) ∧
              ((((stepsV s t).getD ((↑(stepsV s t).length : Int) - 1).toNat (0, 0, 0)).fst = 0 →
                (((↑(tokR s).length : Int) = (↑(tokR t).length : Int) →
                  (((stepsV s t).length ≤ 1099511627776) ∧
                  ((1 < costL (stepsV s t) →
                    True) ∧
                  (¬1 < costL (stepsV s t) →
                   ((∃ x1 : { i : Nat // i ≤ (stepsV s t).length },
                     ((tokR s = tokR s) ∧
                     ((tokR t = tokR t) ∧
                     ((stepsV s t = stepsV s t) ∧
                     (((↑(stepsV s t).length : Int) = (↑(stepsV s t).length : Int)) ∧
                     (0 = (↑x1.val : Int))))))) ∧
                   (∀ x1 : { i : Nat // i ≤ (stepsV s t).length },
                    (((↑x1.val : Int) < (↑(stepsV s t).length : Int) →
                      ((0 ≤ (↑x1.val : Int) ∧ (↑x1.val : Int) < (↑(stepsV s t).length : Int)) ∧
                      ((1 < ((stepsV s t).getD x1.val (0, 0, 0)).fst →
                        (false = true)) ∧
                      (¬1 < ((stepsV s t).getD x1.val (0, 0, 0)).fst →
                       ((0 ≤ (↑x1.val : Int) ∧ (↑x1.val : Int) < (↑(tokR s).length : Int)) ∧
                       ((((stepsV s t).getD x1.val (0, 0, 0)).snd.fst = (tokR s).getD x1.val 0 →
                         ((0 ≤ (↑x1.val : Int) ∧ (↑x1.val : Int) < (↑(tokR t).length : Int)) ∧
                         ((((stepsV s t).getD x1.val (0, 0, 0)).snd.snd = (tokR t).getD x1.val 0 →
                           ((i64R ((↑x1.val : Int) + 1)) ∧
                           (∃ x2 : { i : Nat // i ≤ (stepsV s t).length },
                            (((stepsV s t).length - x2.val < (stepsV s t).length - x1.val) ∧
                            ((tokR s = tokR s) ∧
                            ((tokR t = tokR t) ∧
                            ((stepsV s t = stepsV s t) ∧
                            (((↑(stepsV s t).length : Int) = (↑(stepsV s t).length : Int)) ∧
                            ((↑x1.val : Int) + 1 = (↑x2.val : Int)))))))))) ∧
                         (¬((stepsV s t).getD x1.val (0, 0, 0)).snd.snd = (tokR t).getD x1.val 0 →
                          (false = true))))) ∧
                       (¬((stepsV s t).getD x1.val (0, 0, 0)).snd.fst = (tokR s).getD x1.val 0 →
                        (false = true)))))))) ∧
                    (¬(↑x1.val : Int) < (↑(stepsV s t).length : Int) →
                     True)))))))) ∧
                (¬(↑(tokR s).length : Int) = (↑(tokR t).length : Int) →
                 True))) ∧
              (¬((stepsV s t).getD ((↑(stepsV s t).length : Int) - 1).toNat (0, 0, 0)).fst = 0 →
               (false = true)))))) ∧
            (¬(tokR s).getD ((↑(tokR s).length : Int) - 1).toNat 0 = (tokR t).getD ((↑(tokR t).length : Int) - 1).toNat 0 →
             (((↑(tokR s).length : Int) = (↑(tokR t).length : Int) →
               (((stepsV s t).length ≤ 1099511627776) ∧
               ((1 < costL (stepsV s t) →
                 True) ∧
               (¬1 < costL (stepsV s t) →
                ((∃ x1 : { i : Nat // i ≤ (stepsV s t).length },
                  ((tokR s = tokR s) ∧
                  ((tokR t = tokR t) ∧
                  ((stepsV s t = stepsV s t) ∧
                  (((↑(stepsV s t).length : Int) = (↑(stepsV s t).length : Int)) ∧
                  (0 = (↑x1.val : Int))))))) ∧
                (∀ x1 : { i : Nat // i ≤ (stepsV s t).length },
                 (((↑x1.val : Int) < (↑(stepsV s t).length : Int) →
                   ((0 ≤ (↑x1.val : Int) ∧ (↑x1.val : Int) < (↑(stepsV s t).length : Int)) ∧
                   ((1 < ((stepsV s t).getD x1.val (0, 0, 0)).fst →
                     (false = true)) ∧
                   (¬1 < ((stepsV s t).getD x1.val (0, 0, 0)).fst →
                    ((0 ≤ (↑x1.val : Int) ∧ (↑x1.val : Int) < (↑(tokR s).length : Int)) ∧
                    ((((stepsV s t).getD x1.val (0, 0, 0)).snd.fst = (tokR s).getD x1.val 0 →
                      ((0 ≤ (↑x1.val : Int) ∧ (↑x1.val : Int) < (↑(tokR t).length : Int)) ∧
                      ((((stepsV s t).getD x1.val (0, 0, 0)).snd.snd = (tokR t).getD x1.val 0 →
                        ((i64R ((↑x1.val : Int) + 1)) ∧
                        (∃ x2 : { i : Nat // i ≤ (stepsV s t).length },
                         (((stepsV s t).length - x2.val < (stepsV s t).length - x1.val) ∧
                         ((tokR s = tokR s) ∧
                         ((tokR t = tokR t) ∧
                         ((stepsV s t = stepsV s t) ∧
                         (((↑(stepsV s t).length : Int) = (↑(stepsV s t).length : Int)) ∧
                         ((↑x1.val : Int) + 1 = (↑x2.val : Int)))))))))) ∧
                      (¬((stepsV s t).getD x1.val (0, 0, 0)).snd.snd = (tokR t).getD x1.val 0 →
                       (false = true))))) ∧
                    (¬((stepsV s t).getD x1.val (0, 0, 0)).snd.fst = (tokR s).getD x1.val 0 →
                     (false = true)))))))) ∧
                 (¬(↑x1.val : Int) < (↑(stepsV s t).length : Int) →
                  True)))))))) ∧
             (¬(↑(tokR s).length : Int) = (↑(tokR t).length : Int) →
              True))))))))))) ∧
         (¬twoE s t = 0 →
          (false = true)))))) ∧
       (¬tokE t = 0 →
        True))) ∧
     (¬tokE s = 0 →
      True))))))) (by kernel_rfl) (by
    refine ⟨fun h => by simp at h, fun _ => ⟨by omega, by omega, fun h1 => ⟨fun h2 => ⟨by omega, by omega, fun h3 => ?_, fun h3 => absurd (two_ok h1 h2).1 h3⟩, fun _ => trivial⟩, fun _ => trivial⟩⟩
    have hs := steps_cost h1 h2
    have l1 := (tok_ok h1).2.2
    have l2 := (tok_ok h2).2.2
    have m1 := tok64 (s := s)
    have m2 := tok64 (s := t)
    have e1 : (((tokR s).length : Int) - 1).toNat = (tokR s).length - 1 := by omega
    have e2 : (((tokR t).length : Int) - 1).toNat = (tokR t).length - 1 := by omega
    have e3 : (((stepsV s t).length : Int) - 1).toNat = (stepsV s t).length - 1 := by omega
    rw [e1, e2, e3]
    refine ⟨fun h => by omega, fun _ => ⟨by unfold i64R; omega, by omega, by unfold i64R; omega, by omega, fun h4 => ⟨by unfold i64R; omega, by omega, fun _ => ⟨fun h5 => ⟨by omega, fun _ => trivial, fun hc => ⟨⟨⟨0, by omega⟩, rfl, rfl, rfl, rfl, rfl⟩, by
      rintro ⟨i, hi⟩
      dsimp only
      have hz := steps_zip h1 h2 (by omega) hc
      refine ⟨fun h => ?_, fun _ => trivial⟩
      obtain ⟨z1, z2, z3⟩ := hz.2 i (by omega)
      have hz1 := hz.1
      exact ⟨by omega, fun h => by omega, fun _ => ⟨by omega, fun _ => ⟨by omega, fun _ => ⟨by unfold i64R; omega, ⟨i + 1, by omega⟩, by dsimp only; omega, rfl, rfl, rfl, rfl, by push_cast; rfl⟩, fun h => absurd z3 h⟩, fun h => absurd z2 h⟩⟩⟩⟩, fun _ => trivial⟩, fun h => absurd (steps_last h1 h2 h4) h⟩, fun h4 => ⟨fun h5 => ⟨by omega, fun _ => trivial, fun hc => ⟨⟨⟨0, by omega⟩, rfl, rfl, rfl, rfl, rfl⟩, by
      rintro ⟨i, hi⟩
      dsimp only
      have hz := steps_zip h1 h2 (by omega) hc
      refine ⟨fun h => ?_, fun _ => trivial⟩
      obtain ⟨z1, z2, z3⟩ := hz.2 i (by omega)
      have hz1 := hz.1
      exact ⟨by omega, fun h => by omega, fun _ => ⟨by omega, fun _ => ⟨by omega, fun _ => ⟨by unfold i64R; omega, ⟨i + 1, by omega⟩, by dsimp only; omega, rfl, rfl, rfl, rfl, by push_cast; rfl⟩, fun h => absurd z3 h⟩, fun h => absurd z2 h⟩⟩⟩⟩, fun _ => trivial⟩⟩⟩))
end Go.EA

