/- Layer 4: laws of steps. Conditions: none. (Printed by a program of this project's own.) -/
import Derived.Test.YtmfjbaepgfdfpaaDoorELw8
import Derived.Test.YtmfjbaepgfdfpaaDoorERd
import Derived.Test.YtmfjbaepgfdfpaaDoorEWl
import Derived.Test.YtmfjbaepgfdfpaaDoorEK9
import Derived.KernelRfl
set_option linter.unusedVariables false
set_option linter.unusedSimpArgs false
set_option maxRecDepth 100000
set_option maxHeartbeats 0
namespace Go.EA
open F
theorem two_zero {s t : List UInt8} (h : twoE s t = 0) : tokE s = 0 ∧ tokE t = 0 := by
  unfold twoE at h
  by_cases h1 : tokE s = 0
  · rw [if_neg (by simpa using h1)] at h; exact ⟨h1, h⟩
  · rw [if_pos h1] at h; exact absurd h h1
section
variable {s t : List UInt8}
theorem steps_cost (h : tokE s = 0) (h1 : tokE t = 0) : costL (stepsV s t) = distV s t ∧ (tokR s).length ≤ (stepsV s t).length ∧ (stepsV s t).length ≤ 128 := by
  obtain ⟨g1, g2⟩ := walk_all (tokR s).reverse (tokR t).reverse
  have hr := g1.rd
  have hl := walkL_len (tokR s).reverse (tokR t).reverse
  have ha := tok64 (s := s)
  have hb := tok64 (s := t)
  have hc := rdA_len (walkL (tokR s).reverse (tokR t).reverse)
  rw [hr.1] at hc
  simp only [List.length_reverse] at hl hc
  rw [stepsV_ok h h1, costL_rev, g2, dist_ok h h1, List.length_reverse]
  exact ⟨rfl, hc, by omega⟩
theorem tok_valid (h : tokE s = 0) : (tokR s).all Utf8.valid = true := by
  obtain ⟨e, hk, _⟩ := tok_ok h
  rw [e]; unfold decR; rw [if_pos hk]
  exact (enc_runes s.length s (Nat.le_refl _) hk).2
theorem tok_encL {l : List Int} (hv : l.all Utf8.valid = true) (h : tokE (encL l) = 0) : tokR (encL l) = l := by
  rw [(tok_ok h).1, (dec_encL hv).1]
theorem tok_app {x : List Int} (h : tokE s = 0) (hv : x.all Utf8.valid = true) (h1 : tokE (s ++ encL x) = 0) : tokR (s ++ encL x) = tokR s ++ x := by
  have e : s ++ encL x = encL (tokR s ++ x) := by
    have : encL (tokR s ++ x) = encL (tokR s) ++ encL x := by simp [encL]
    rw [this, tok_enc h]
  rw [e] at h1 ⊢
  exact tok_encL (by rw [List.all_append, tok_valid h, hv]; rfl) h1
/-- Runes behind that are the same. -/
theorem ends {u : List UInt8} (h : tokE s = 0) (h1 : tokE t = 0) (hu : decE u = 0) (h2 : twoE (s ++ u) (t ++ u) = 0) :
    costL (stepsV s t) = costL (stepsV (s ++ u) (t ++ u)) ∧ stepsV (s ++ u) (t ++ u) = stepsV s t ++ (decR u).map fun x => ((0, x, x) : Stp) := by
  have hk := decE_zero.1 hu
  have he : encL (decR u) = u ∧ (decR u).all Utf8.valid = true := by
    unfold decR; rw [if_pos hk]
    exact enc_runes u.length u (Nat.le_refl _) hk
  obtain ⟨h3, h4⟩ := two_zero h2
  have e1 : tokR (s ++ u) = tokR s ++ decR u := by
    have := tok_app (s := s) h he.2 (by rw [he.1]; exact h3)
    rwa [he.1] at this
  have e2 : tokR (t ++ u) = tokR t ++ decR u := by
    have := tok_app (s := t) h1 he.2 (by rw [he.1]; exact h4)
    rwa [he.1] at this
  constructor
  · rw [(steps_cost h h1).1, (steps_cost h3 h4).1, dist_ok h h1, dist_ok h3 h4, e1, e2, List.reverse_append, List.reverse_append, lev_same]
  · rw [stepsV_ok h3 h4, e1, e2, List.reverse_append, List.reverse_append, walk_same, List.reverse_append, ← stepsV_ok h h1, ← List.map_reverse, List.reverse_reverse]
theorem ends_x (h : tokE s = 0) (h1 : tokE t = 0) (h2 : twoE (s ++ [120]) t = 0) : costL (stepsV s t) - 1 ≤ distV (s ++ [120]) t ∧ distV (s ++ [120]) t ≤ costL (stepsV s t) + 1 := by
  obtain ⟨h3, _⟩ := two_zero h2
  have hx : encL [120] = [120] := by decide +kernel
  have e1 : tokR (s ++ [120]) = tokR s ++ [120] := by
    have := tok_app (s := s) (x := [120]) h (by decide) (by rw [hx]; exact h3)
    rwa [hx] at this
  rw [(steps_cost h h1).1, dist_ok h h1, dist_ok h3 h1, e1, List.reverse_append]
  have := lev_more 120 (tokR s).reverse (tokR t).reverse
  show ((lev (tokR s).reverse (tokR t).reverse : Int)) - 1 ≤ ((lev (120 :: (tokR s).reverse) (tokR t).reverse : Nat) : Int) ∧ ((lev (120 :: (tokR s).reverse) (tokR t).reverse : Nat) : Int) ≤ _
  omega
end
theorem w202 {S : SC} (hB : SB S) (q213 : PrOk S 213 (pureP G213)) (q17 : PrOk S 17 (pureP G17)) (q214 : PrOk S 214 (pureP G214)) (q216 : PrOk S 216 (pureP G216)) (q219 : PrOk S 219 (pureP G219)) (h202 : S.has 202 f202) (s : List UInt8) (t : List UInt8) (u : List UInt8) (ls : s.length ≤ 1048576) (lt : t.length ≤ 1048576) (lu : u.length ≤ 1048576) : MF S 202 [] [den0 (.one (.str s)), den0 (.one (.str t)), den0 (.one (.str u))] (hl []) fun v _ => v = .one (.bool true) :=
  mfM hB [] [⟨213, G213, K213⟩, ⟨17, G17, K17⟩, ⟨214, G214, K214⟩, ⟨216, G216, K216⟩, ⟨219, G219, K219⟩] trivial ⟨⟨q213, K213_ok⟩, ⟨q17, K17_ok⟩, ⟨q214, K214_ok⟩, ⟨q216, K216_ok⟩, ⟨q219, K219_ok⟩, trivial⟩ h202 (v := .one .tt) (xs := [.one (.str s), .one (.str t), .one (.str u)]) rfl rfl rfl (fun f id T L => match f, id with
      | 202, 0 => some (.inv { i : Nat // i ≤ (decR u).length } (fun x => ([(79, .one (.int .i64 x.1))], [])) (fun x => (decR u).length - x.1))
      | _, _ => none) 800 (VC.use (p :=
    (((!true) = true →
      (false = true)) ∧
    (¬(!true) = true →
     ((i64R ((↑s.length : Int) + (↑u.length : Int))) ∧
     ((200 < (↑s.length : Int) + (↑u.length : Int) →
       True) ∧
     (¬200 < (↑s.length : Int) + (↑u.length : Int) →
      ((i64R ((↑t.length : Int) + (↑u.length : Int))) ∧
      ((200 < (↑t.length : Int) + (↑u.length : Int) →
        True) ∧
      (¬200 < (↑t.length : Int) + (↑u.length : Int) →
       ((s.length ≤ 1099511627776) ∧
       ((t.length ≤ 1099511627776) ∧
       ((s.length + u.length ≤ 9223372036854775807) ∧
       ((t.length + u.length ≤ 9223372036854775807) ∧
       (((s ++ u).length ≤ 1099511627776) ∧
       (((t ++ u).length ≤ 1099511627776) ∧
       ((u.length ≤ 1099511627776) ∧
       ((twoE s t = 0 →
         ((twoE (s ++ u) (t ++ u) = 0 →
           ((decE u = 0 →
             (((stepsV s t).length ≤ 1099511627776) ∧
             (((stepsV (s ++ u) (t ++ u)).length ≤ 1099511627776) ∧
             ((costL (stepsV s t) = costL (stepsV (s ++ u) (t ++ u)) →
               (((↑(stepsV (s ++ u) (t ++ u)).length : Int) < (↑(decR u).length : Int) →
                 (false = true)) ∧
               (¬(↑(stepsV (s ++ u) (t ++ u)).length : Int) < (↑(decR u).length : Int) →
                ((∃ x1 : { i : Nat // i ≤ (decR u).length },
                  ((s = s) ∧
                  ((t = t) ∧
                  ((stepsV s t = stepsV s t) ∧
                  ((stepsV (s ++ u) (t ++ u) = stepsV (s ++ u) (t ++ u)) ∧
                  ((decR u = decR u) ∧
                  (((↑(decR u).length : Int) = (↑(decR u).length : Int)) ∧
                  (0 = (↑x1.val : Int))))))))) ∧
                (∀ x1 : { i : Nat // i ≤ (decR u).length },
                 (((↑x1.val : Int) < (↑(decR u).length : Int) →
                   ((i64R ((↑(stepsV (s ++ u) (t ++ u)).length : Int) - 1)) ∧
                   ((i64R ((↑(stepsV (s ++ u) (t ++ u)).length : Int) - 1 - (↑x1.val : Int))) ∧
                   ((0 ≤ (↑(stepsV (s ++ u) (t ++ u)).length : Int) - 1 - (↑x1.val : Int) ∧ (↑(stepsV (s ++ u) (t ++ u)).length : Int) - 1 - (↑x1.val : Int) < (↑(stepsV (s ++ u) (t ++ u)).length : Int)) ∧
                   ((((stepsV (s ++ u) (t ++ u)).getD ((↑(stepsV (s ++ u) (t ++ u)).length : Int) - 1 - (↑x1.val : Int)).toNat (0, 0, 0)).fst = 0 →
                     ((i64R ((↑(decR u).length : Int) - 1)) ∧
                     ((i64R ((↑(decR u).length : Int) - 1 - (↑x1.val : Int))) ∧
                     ((0 ≤ (↑(decR u).length : Int) - 1 - (↑x1.val : Int) ∧ (↑(decR u).length : Int) - 1 - (↑x1.val : Int) < (↑(decR u).length : Int)) ∧
                     ((((stepsV (s ++ u) (t ++ u)).getD ((↑(stepsV (s ++ u) (t ++ u)).length : Int) - 1 - (↑x1.val : Int)).toNat (0, 0, 0)).snd.fst = (decR u).getD ((↑(decR u).length : Int) - 1 - (↑x1.val : Int)).toNat 0 →
                       ((i64R ((↑x1.val : Int) + 1)) ∧
                       (∃ x2 : { i : Nat // i ≤ (decR u).length },
                        (((decR u).length - x2.val < (decR u).length - x1.val) ∧
                        ((s = s) ∧
                        ((t = t) ∧
                        ((stepsV s t = stepsV s t) ∧
                        ((stepsV (s ++ u) (t ++ u) = stepsV (s ++ u) (t ++ u)) ∧
                        ((decR u = decR u) ∧
                        (((↑(decR u).length : Int) = (↑(decR u).length : Int)) ∧
                        ((↑x1.val : Int) + 1 = (↑x2.val : Int)))))))))))) ∧
                     (¬((stepsV (s ++ u) (t ++ u)).getD ((↑(stepsV (s ++ u) (t ++ u)).length : Int) - 1 - (↑x1.val : Int)).toNat (0, 0, 0)).snd.fst = (decR u).getD ((↑(decR u).length : Int) - 1 - (↑x1.val : Int)).toNat 0 →
                      (false = true))))))) ∧
                   (¬((stepsV (s ++ u) (t ++ u)).getD ((↑(stepsV (s ++ u) (t ++ u)).length : Int) - 1 - (↑x1.val : Int)).toNat (0, 0, 0)).fst = 0 →
                    (false = true))))))) ∧
                 (¬(↑x1.val : Int) < (↑(decR u).length : Int) →
                  ((s.length + 1 ≤ 9223372036854775807) ∧
                  (((s ++ [120]).length ≤ 1099511627776) ∧
                  ((t.length ≤ 1099511627776) ∧
                  (((stepsV s t).length ≤ 1099511627776) ∧
                  ((twoE (s ++ [120]) t = 0 →
                    ((i64R (costL (stepsV s t) - 1)) ∧
                    ((costL (stepsV s t) - 1 ≤ distV (s ++ [120]) t →
                      ((i64R (costL (stepsV s t) + 1)) ∧
                      (decide (distV (s ++ [120]) t ≤ costL (stepsV s t) + 1) = true))) ∧
                    (¬costL (stepsV s t) - 1 ≤ distV (s ++ [120]) t →
                     (false = true))))) ∧
                  (¬twoE (s ++ [120]) t = 0 →
                   True))))))))))))) ∧
             (¬costL (stepsV s t) = costL (stepsV (s ++ u) (t ++ u)) →
              (false = true)))))) ∧
           (¬decE u = 0 →
            True))) ∧
         (¬twoE (s ++ u) (t ++ u) = 0 →
          True))) ∧
       (¬twoE s t = 0 →
        True)))))))))))))))))) (by kernel_rfl) (by
    have k0 : (s ++ u).length = s.length + u.length := List.length_append
    have k1 : (t ++ u).length = t.length + u.length := List.length_append
    refine ⟨fun h => by simp at h, fun _ => ⟨by unfold i64R; omega, fun _ => trivial, fun q1 => ⟨by unfold i64R; omega, fun _ => trivial, fun q2 => ⟨by omega, by omega, by omega, by omega, by omega, by omega, by omega, fun h1 => ⟨fun h2 => ⟨fun h3 => ?_, fun _ => trivial⟩, fun _ => trivial⟩, fun _ => trivial⟩⟩⟩⟩
    obtain ⟨t1, t2⟩ := two_zero h1
    obtain ⟨t3, t4⟩ := two_zero h2
    have hs := steps_cost t1 t2
    have hy := steps_cost t3 t4
    obtain ⟨c1, c2⟩ := ends t1 t2 h3 h2
    have hb : costL (stepsV s t) ≤ 64 := by
      rw [hs.1, dist_ok t1 t2]
      have := lev_le (tokR s).reverse (tokR t).reverse
      have m1 := tok64 (s := s)
      have m2 := tok64 (s := t)
      simp only [List.length_reverse] at this
      omega
    have hb0 := costL_le (stepsV s t)
    have hl : (stepsV (s ++ u) (t ++ u)).length = (stepsV s t).length + (decR u).length := by rw [c2, List.length_append, List.length_map]
    refine ⟨by omega, by omega, fun _ => ⟨fun h => by omega, fun _ => ⟨⟨⟨0, by omega⟩, rfl, rfl, rfl, rfl, rfl, rfl, rfl⟩, ?_⟩⟩, fun h => absurd c1 h⟩
    rintro ⟨i, hi⟩
    dsimp only
    refine ⟨fun h => ?_, fun h => ⟨by omega, by simp only [List.length_append, List.length_cons, List.length_nil]; omega, by omega, by omega, fun h4 => ?_, fun _ => trivial⟩⟩
    · have e1 : (((stepsV (s ++ u) (t ++ u)).length : Int) - 1 - i).toNat = (stepsV s t).length + ((decR u).length - 1 - i) := by omega
      have e2 : (((decR u).length : Int) - 1 - i).toNat = (decR u).length - 1 - i := by omega
      have e3 : (stepsV (s ++ u) (t ++ u)).getD ((stepsV s t).length + ((decR u).length - 1 - i)) (0, 0, 0) = (0, (decR u).getD ((decR u).length - 1 - i) 0, (decR u).getD ((decR u).length - 1 - i) 0) := by
        rw [c2, List.getD_eq_getElem?_getD, List.getElem?_append_right (by omega), List.getElem?_map, show (stepsV s t).length + ((decR u).length - 1 - i) - (stepsV s t).length = (decR u).length - 1 - i by omega, List.getD_eq_getElem?_getD, List.getElem?_eq_getElem (by omega)]
        rfl
      rw [e1, e2, e3]
      exact ⟨by unfold i64R; omega, by unfold i64R; omega, by omega, fun _ => ⟨by unfold i64R; omega, by unfold i64R; omega, by omega, fun _ => ⟨by unfold i64R; omega, ⟨i + 1, by omega⟩, by dsimp only; omega, rfl, rfl, rfl, rfl, rfl, rfl, by push_cast; rfl⟩, fun h => absurd rfl h⟩, fun h => absurd rfl h⟩
    · obtain ⟨x1, x2⟩ := ends_x t1 t2 h4
      exact ⟨by unfold i64R; omega, fun _ => ⟨by unfold i64R; omega, by rw [decide_eq_true_eq]; exact x2⟩, fun h => absurd x1 h⟩))
end Go.EA

