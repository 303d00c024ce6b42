/- Layer 4: laws of steps. Conditions: none. (Printed by a program of this project's own.) -/
import Derived.Test.YtmfjbaepgfdfpaaDoorELw8
import Derived.Test.YtmfjbaepgfdfpaaDoorERd
import Derived.Test.YtmfjbaepgfdfpaaDoorEWl
import Derived.Test.YtmfjbaepgfdfpaaDoorEK9
import Derived.KernelRfl
set_option linter.unusedVariables false
set_option linter.unusedSimpArgs false
set_option maxRecDepth 100000
set_option maxHeartbeats 0
namespace Go.EA
open F
theorem two_zero {s t : List UInt8} (h : twoE s t = 0) : tokE s = 0 ∧ tokE t = 0 := by
  unfold twoE at h
  by_cases h1 : tokE s = 0
  · rw [if_neg (by simpa using h1)] at h; exact ⟨h1, h⟩
  · rw [if_pos h1] at h; exact absurd h h1
section
variable {s t : List UInt8}
theorem steps_cost (h : tokE s = 0) (h1 : tokE t = 0) : costL (stepsV s t) = distV s t ∧ (tokR s).length ≤ (stepsV s t).length ∧ (stepsV s t).length ≤ 128 := by
  obtain ⟨g1, g2⟩ := walk_all (tokR s).reverse (tokR t).reverse
  have hr := g1.rd
  have hl := walkL_len (tokR s).reverse (tokR t).reverse
  have ha := tok64 (s := s)
  have hb := tok64 (s := t)
  have hc := rdA_len (walkL (tokR s).reverse (tokR t).reverse)
  rw [hr.1] at hc
  simp only [List.length_reverse] at hl hc
  rw [stepsV_ok h h1, costL_rev, g2, dist_ok h h1, List.length_reverse]
  exact ⟨rfl, hc, by omega⟩
theorem tok_valid (h : tokE s = 0) : (tokR s).all Utf8.valid = true := by
  obtain ⟨e, hk, _⟩ := tok_ok h
  rw [e]; unfold decR; rw [if_pos hk]
  exact (enc_runes s.length s (Nat.le_refl _) hk).2
theorem steps_ok (h : tokE s = 0) (h1 : tokE t = 0) : chkE (stepsV s t) = 0 ∧ readA (stepsV s t) = s ∧ readB (stepsV s t) = t := by
  obtain ⟨g1, g2⟩ := walk_all (tokR s).reverse (tokR t).reverse
  have hall : (stepsV s t).all okS = true := by
    rw [stepsV_ok h h1, List.all_reverse]
    exact g1.ok (by rw [List.all_reverse]; exact tok_valid h) (by rw [List.all_reverse]; exact tok_valid h1)
  obtain ⟨r1, r2⟩ := g1.rd
  refine ⟨(chk_ok hall).symm, ?_, ?_⟩
  · rw [readA_ok hall, stepsV_ok h h1, rdA_rev, r1, List.reverse_reverse, tok_enc h]
  · rw [readB_ok hall, stepsV_ok h h1, rdB_rev, r2, List.reverse_reverse, tok_enc h1]
theorem tok_encL {l : List Int} (hv : l.all Utf8.valid = true) (h : tokE (encL l) = 0) : tokR (encL l) = l := by
  rw [(tok_ok h).1, (dec_encL hv).1]
theorem read_dist {l : List Stp} (hc : chkE l = 0) (h : twoE (readA l) (readB l) = 0) : distV (readA l) (readB l) ≤ costL l := by
  have hall := chk_all hc
  obtain ⟨h1, h2⟩ := two_zero h
  rw [dist_ok h1 h2]
  rw [readA_ok hall] at h1 ⊢
  rw [readB_ok hall] at h2 ⊢
  rw [tok_encL (rdA_valid hall) h1, tok_encL (rdB_valid hall) h2]
  exact cost_least hall
theorem read_len {l : List Stp} (hc : chkE l = 0) : (readA l).length ≤ 4 * l.length ∧ (readB l).length ≤ 4 * l.length := by
  have hall := chk_all hc
  have a := encLI_len _ (rdA_valid hall)
  have b := encLI_len _ (rdB_valid hall)
  rw [encLI_eq, List.length_map] at a b
  have c := rdA_len l
  have d := rdB_len l
  rw [readA_ok hall, readB_ok hall]
  omega
end
theorem w205 {S : SC} (hB : SB S) (q213 : PrOk S 213 (pureP G213)) (q214 : PrOk S 214 (pureP G214)) (q216 : PrOk S 216 (pureP G216)) (q219 : PrOk S 219 (pureP G219)) (q220 : PrOk S 220 (pureP G220)) (h205 : S.has 205 f205) (s : List UInt8) (t : List UInt8) (l : List (Int × Int × Int)) (ls : s.length ≤ 1048576) (lt : t.length ≤ 1048576) : MF S 205 [] [den0 (.one (.str s)), den0 (.one (.str t)), den0 (.one (.row (.pair (.int .i64) (.pair (.int .i32) (.int .i32))) l))] (hl []) fun v _ => v = .one (.bool true) :=
  mfM hB [] [⟨213, G213, K213⟩, ⟨214, G214, K214⟩, ⟨216, G216, K216⟩, ⟨219, G219, K219⟩, ⟨220, G220, K220⟩] trivial ⟨⟨q213, K213_ok⟩, ⟨q214, K214_ok⟩, ⟨q216, K216_ok⟩, ⟨q219, K219_ok⟩, ⟨q220, K220_ok⟩, trivial⟩ h205 (v := .one .tt) (xs := [.one (.str s), .one (.str t), .one (.row (.pair (.int .i64) (.pair (.int .i32) (.int .i32))) l)]) rfl rfl rfl (fun _ _ _ _ => none) 800 (VC.use (p :=
    (((!true) = true →
      (false = true)) ∧
    (¬(!true) = true →
     ((100 < (↑l.length : Int) →
       True) ∧
     (¬100 < (↑l.length : Int) →
      ((s.length ≤ 1099511627776) ∧
      ((t.length ≤ 1099511627776) ∧
      ((s.length ≤ 1099511627776) ∧
      ((t.length ≤ 1099511627776) ∧
      ((twoE s t = twoE s t →
        ((twoE s t = 0 →
          (((stepsV s t).length ≤ 1099511627776) ∧
          ((chkE (stepsV s t) = 0 →
            ((readA (stepsV s t) = s →
              ((readB (stepsV s t) = t →
                (((stepsV s t).length ≤ 1099511627776) ∧
                ((costL (stepsV s t) = distV s t →
                  ((l.length ≤ 1099511627776) ∧
                  ((chkE l = 0 →
                    (((readA l).length ≤ 1099511627776) ∧
                    (((readB l).length ≤ 1099511627776) ∧
                    ((twoE (readA l) (readB l) = 0 →
                      ((l.length ≤ 1099511627776) ∧
                      (decide (distV (readA l) (readB l) ≤ costL l) = true))) ∧
                    (¬twoE (readA l) (readB l) = 0 →
                     True))))) ∧
                  (¬chkE l = 0 →
                   ((readA l = [] →
                     (decide (readB l = []) = true)) ∧
                   (¬readA l = [] →
                    (false = true))))))) ∧
                (¬costL (stepsV s t) = distV s t →
                 (false = true))))) ∧
              (¬readB (stepsV s t) = t →
               (false = true)))) ∧
            (¬readA (stepsV s t) = s →
             (false = true)))) ∧
          (¬chkE (stepsV s t) = 0 →
           (false = true))))) ∧
        (¬twoE s t = 0 →
         ((l.length ≤ 1099511627776) ∧
         ((chkE l = 0 →
           (((readA l).length ≤ 1099511627776) ∧
           (((readB l).length ≤ 1099511627776) ∧
           ((twoE (readA l) (readB l) = 0 →
             ((l.length ≤ 1099511627776) ∧
             (decide (distV (readA l) (readB l) ≤ costL l) = true))) ∧
           (¬twoE (readA l) (readB l) = 0 →
            True))))) ∧
         (¬chkE l = 0 →
          ((readA l = [] →
            (decide (readB l = []) = true)) ∧
          (¬readA l = [] →
           (false = true))))))))) ∧
      (¬twoE s t = twoE s t →
       (false = true)))))))))))) (by kernel_rfl) (by
    refine ⟨fun h => by simp at h, fun _ => ⟨fun _ => trivial, fun h0 => ⟨by omega, by omega, by omega, by omega, fun _ => ⟨fun h1 => ?_, fun _ => ⟨by omega, fun k1 => ⟨by have := (read_len k1).1; omega, by have := (read_len k1).2; omega, fun k2 => ⟨by omega, by rw [decide_eq_true_eq]; exact read_dist k1 k2⟩, fun _ => trivial⟩, fun k1 => ⟨fun _ => by rw [decide_eq_true_eq]; exact (chk_no k1).2.symm, fun h => absurd (chk_no k1).1.symm h⟩⟩⟩, fun h => absurd rfl h⟩⟩⟩
    obtain ⟨t1, t2⟩ := two_zero h1
    have hs := steps_cost t1 t2
    obtain ⟨o1, o2, o3⟩ := steps_ok t1 t2
    exact ⟨by omega, fun _ => ⟨fun _ => ⟨fun _ => ⟨by omega, fun _ => ⟨by omega, fun k1 => ⟨by have := (read_len k1).1; omega, by have := (read_len k1).2; omega, fun k2 => ⟨by omega, by rw [decide_eq_true_eq]; exact read_dist k1 k2⟩, fun _ => trivial⟩, fun k1 => ⟨fun _ => by rw [decide_eq_true_eq]; exact (chk_no k1).2.symm, fun h => absurd (chk_no k1).1.symm h⟩⟩, fun h => absurd hs.1 h⟩, fun h => absurd o3 h⟩, fun h => absurd o2 h⟩, fun h => absurd o1 h⟩))
end Go.EA

