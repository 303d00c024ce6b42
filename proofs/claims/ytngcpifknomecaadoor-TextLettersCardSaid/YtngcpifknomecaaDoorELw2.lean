/- Layer 2: laws. Conditions: none. (Printed by a program of this project's own.) -/
import Derived.Test.YtngcpifknomecaaDoorEAf1
import Derived.Test.YtngcpifknomecaaDoorEAf2
import Derived.Test.YtngcpifknomecaaDoorEK9
import Derived.Test.YtngcpifknomecaaDoorEMean6
import Derived.Test.YtngcpifknomecaaDoorEPrim2
import Derived.Test.YtngcpifknomecaaDoorERf
import Derived.Test.YtngcpifknomecaaDoorERu
import Derived.Test.YtngcpifknomecaaDoorESpan2
import Derived.Test.YtngcpifknomecaaDoorESp1
import Derived.Test.YtngcpifknomecaaDoorESp2
import Derived.Test.YtngcpifknomecaaDoorESpan3
import Derived.KernelRfl
set_option linter.unusedVariables false
set_option linter.unusedSimpArgs false
set_option maxRecDepth 100000
set_option maxHeartbeats 0
namespace Go.EA
open F
theorem w6 {S : SC} (hB : SB S) (q26 : PrOk S 26 (pureP G26)) (q27 : PrOk S 27 (pureP G27)) (q28 : PrOk S 28 (pureP G28)) (q29 : PrOk S 29 (pureP G29)) (q30 : PrOk S 30 (pureP G30)) (q31 : PrOk S 31 (pureP G31)) (q32 : PrOk S 32 (pureP G32)) (h6 : S.has 6 f6) (s : List UInt8) : MF S 6 [] [den0 (.one (.str s))] (hl []) fun v _ => v = .one (.bool true) :=
  mfM hB [] [⟨26, G26, K26⟩, ⟨27, G27, K27⟩, ⟨28, G28, K28⟩, ⟨29, G29, K29⟩, ⟨30, G30, K30⟩, ⟨31, G31, K31⟩, ⟨32, G32, K32⟩] trivial ⟨⟨q26, K26_ok⟩, ⟨q27, K27_ok⟩, ⟨q28, K28_ok⟩, ⟨q29, K29_ok⟩, ⟨q30, K30_ok⟩, ⟨q31, K31_ok⟩, ⟨q32, K32_ok⟩, trivial⟩ h6 (v := .one .tt) (xs := [.one (.str s)]) rfl rfl rfl (fun _ _ _ _ => none) 400 (VC.use (p :=
    (((!true) = true →
      (false = true)) ∧
    (¬(!true) = true →
     ((4000 < (↑s.length : Int) →
       (((↑s.length : Int) ≤ 1048576 →
         True) ∧
       (¬(↑s.length : Int) ≤ 1048576 →
        (((spL s).length ≤ 1099511627776) ∧
        ((decide (spL s = spL s) = true →
          ((spE s = spE s →
            (((toks s (spL s)).length ≤ 1099511627776) ∧
            ((decide (toks s (spL s) = toks s (spL s)) = true →
              (decide (spE s = spE s) = true)) ∧
            (¬decide (toks s (spL s) = toks s (spL s)) = true →
             (false = true))))) ∧
          (¬spE s = spE s →
           (false = true)))) ∧
        (¬decide (spL s = spL s) = true →
         (false = true))))))) ∧
     (¬4000 < (↑s.length : Int) →
      (((spL s).length ≤ 1099511627776) ∧
      ((decide (spL s = spL s) = true →
        ((spE s = spE s →
          (((toks s (spL s)).length ≤ 1099511627776) ∧
          ((decide (toks s (spL s) = toks s (spL s)) = true →
            (decide (spE s = spE s) = true)) ∧
          (¬decide (toks s (spL s) = toks s (spL s)) = true →
           (false = true))))) ∧
        (¬spE s = spE s →
         (false = true)))) ∧
      (¬decide (spL s = spL s) = true →
       (false = true))))))))) (by kernel_rfl) (by
    have h1 := spL_len s
    have h2 := toks_len s
    repeat' (first | intro _ | apply And.intro)
    all_goals first
      | trivial
      | omega
      | (exact decide_eq_true rfl)
      | (exfalso; simp_all; done)))
theorem w7 {S : SC} (hB : SB S) (q26 : PrOk S 26 (pureP G26)) (q29 : PrOk S 29 (pureP G29)) (q32 : PrOk S 32 (pureP G32)) (h7 : S.has 7 f7) (a : List UInt8) (b : List UInt8) : MF S 7 [] [den0 (.one (.str a)), den0 (.one (.str b))] (hl []) fun v _ => v = .one (.bool true) :=
  mfM hB [] [⟨26, G26, K26⟩, ⟨29, G29, K29⟩, ⟨32, G32, K32⟩] trivial ⟨⟨q26, K26_ok⟩, ⟨q29, K29_ok⟩, ⟨q32, K32_ok⟩, trivial⟩ h7 (v := .one .tt) (xs := [.one (.str a), .one (.str b)]) rfl rfl rfl (fun _ _ _ _ => none) 400 (VC.use (p :=
    (((!true) = true →
      (false = true)) ∧
    (¬(!true) = true →
     ((2000 < (↑a.length : Int) →
       True) ∧
     (¬2000 < (↑a.length : Int) →
      ((2000 < (↑b.length : Int) →
        True) ∧
      (¬2000 < (↑b.length : Int) →
       ((a.length + 1 ≤ 9223372036854775807) ∧
       (((a ++ [32]).length + b.length ≤ 9223372036854775807) ∧
       ((spE a = 0 →
         ((spE b = 0 →
           ((spE (a ++ [32] ++ b) = 0 →
             (((0 + (toks a (spL a)).length) * 16 ≤ 140737488355328) ∧
             (((([] ++ toks a (spL a)).length + (toks b (spL b)).length) * 16 ≤ 140737488355328) ∧
             (((toks (a ++ [32] ++ b) (spL (a ++ [32] ++ b))).length ≤ 1099511627776) ∧
             (decide (toks (a ++ [32] ++ b) (spL (a ++ [32] ++ b)) = [] ++ toks a (spL a) ++ toks b (spL b)) = true))))) ∧
           (¬spE (a ++ [32] ++ b) = 0 →
            (false = true)))) ∧
         (¬spE b = 0 →
          ((!decide (spE (a ++ [32] ++ b) = 0)) = true)))) ∧
       (¬spE a = 0 →
        ((!decide (spE (a ++ [32] ++ b) = 0)) = true)))))))))))) (by kernel_rfl) (by
    refine ⟨fun h => by simp at h, fun _ => ⟨fun _ => trivial, fun h1 => ⟨fun _ => trivial, fun h2 => ?_⟩⟩⟩
    have hl : (a ++ [32] ++ b).length ≤ 1048576 := by simp; omega
    have hm := mid_ok e32.2.2 e32.1 a b
    have ea := spE_ok (s := a) (by omega)
    have eb := spE_ok (s := b) (by omega)
    have eab := spE_ok hl
    rw [hm, Bool.and_eq_true] at eab
    have l1 := toks_len a
    have l2 := toks_len b
    have l3 := toks_len (a ++ [32] ++ b)
    refine ⟨by omega, by simp; omega, fun h3 => ⟨fun h4 => ⟨fun h5 => ⟨by omega, by simp; omega, by omega, ?_⟩, fun h5 => ?_⟩, fun h4 => ?_⟩, fun h3 => ?_⟩
    · rw [mid_toks e32.2.2 e32.1 e32.2.1 (ea.1 h3) (eb.1 h4) hl]; exact decide_eq_true rfl
    · exact absurd (eab.2 ⟨ea.1 h3, eb.1 h4⟩) h5
    · rw [decide_eq_false fun h => h4 (eb.2 (eab.1 h).2)]; rfl
    · rw [decide_eq_false fun h => h3 (ea.2 (eab.1 h).1)]; rfl))
theorem w13 {S : SC} (hB : SB S) (q26 : PrOk S 26 (pureP G26)) (q29 : PrOk S 29 (pureP G29)) (q32 : PrOk S 32 (pureP G32)) (q22 : PrOk S 22 (pureP G22)) (q17 : PrOk S 17 (pureP G17)) (q35 : PrOk S 35 (pureP G35)) (h13 : S.has 13 f13) (w : List UInt8) (o : List UInt8) : MF S 13 [] [den0 (.one (.str w)), den0 (.one (.str o))] (hl []) fun v _ => v = .one (.bool true) :=
  mfM hB [] [⟨26, G26, K26⟩, ⟨29, G29, K29⟩, ⟨32, G32, K32⟩, ⟨22, G22, K22⟩, ⟨17, G17, K17⟩, ⟨35, G35, K35⟩] trivial ⟨⟨q26, K26_ok⟩, ⟨q29, K29_ok⟩, ⟨q32, K32_ok⟩, ⟨q22, K22_ok⟩, ⟨q17, K17_ok⟩, ⟨q35, K35_ok⟩, trivial⟩ h13 (v := .one .tt) (xs := [.one (.str w), .one (.str o)]) rfl rfl rfl (fun f id T L => match f, id with
      | 13, 0 => some (.inv { i : Nat // i ≤ (decR o).length ∧ ∀ r ∈ (decR o).take i, letterB r = false } (fun x => ([(73, .one (.int .i64 x.1))], [])) (fun x => (decR o).length - x.1))
      | _, _ => none) 400 (VC.use (p :=
    (((!true) = true →
      (false = true)) ∧
    (¬(!true) = true →
     ((500 < (↑w.length : Int) →
       True) ∧
     (¬500 < (↑w.length : Int) →
      ((500 < (↑o.length : Int) →
        True) ∧
      (¬500 < (↑o.length : Int) →
       (((!lettersB w) = true →
         True) ∧
       (¬(!lettersB w) = true →
        ((w.length + 1 ≤ 9223372036854775807) ∧
        (((w ++ [55]).length + w.length ≤ 9223372036854775807) ∧
        ((spE w = 0 →
          ((spE (w ++ [55] ++ w) = 0 →
            (((toks w (spL w)).length ≤ 1099511627776) ∧
            (((!decide (toks w (spL w) = [w])) = true →
              (false = true)) ∧
            (¬(!decide (toks w (spL w) = [w])) = true →
             (((toks (w ++ [55] ++ w) (spL (w ++ [55] ++ w))).length ≤ 1099511627776) ∧
             (((!decide (toks (w ++ [55] ++ w) (spL (w ++ [55] ++ w)) = [w, w])) = true →
               (false = true)) ∧
             (¬(!decide (toks (w ++ [55] ++ w) (spL (w ++ [55] ++ w)) = [w, w])) = true →
              ((o.length ≤ 1099511627776) ∧
              ((∃ x1 : { i : Nat // i ≤ (decR o).length ∧ ∀ (r : Int), r ∈ List.take i (decR o) → letterB r = false },
                ((w = w) ∧
                ((o = o) ∧
                ((decE o = decE o) ∧
                ((decR o = decR o) ∧
                (((↑(decR o).length : Int) = (↑(decR o).length : Int)) ∧
                (0 = (↑x1.val : Int)))))))) ∧
              (∀ x1 : { i : Nat // i ≤ (decR o).length ∧ ∀ (r : Int), r ∈ List.take i (decR o) → letterB r = false },
               (((↑x1.val : Int) < (↑(decR o).length : Int) →
                 ((0 ≤ (↑x1.val : Int) ∧ (↑x1.val : Int) < (↑(decR o).length : Int)) ∧
                 ((letterB ((decR o).getD x1.val 0) = true →
                   True) ∧
                 (¬letterB ((decR o).getD x1.val 0) = true →
                  ((i64R ((↑x1.val : Int) + 1)) ∧
                  (∃ x2 : { i : Nat // i ≤ (decR o).length ∧ ∀ (r : Int), r ∈ List.take i (decR o) → letterB r = false },
                   (((decR o).length - x2.val < (decR o).length - x1.val) ∧
                   ((w = w) ∧
                   ((o = o) ∧
                   ((decE o = decE o) ∧
                   ((decR o = decR o) ∧
                   (((↑(decR o).length : Int) = (↑(decR o).length : Int)) ∧
                   ((↑x1.val : Int) + 1 = (↑x2.val : Int)))))))))))))) ∧
               (¬(↑x1.val : Int) < (↑(decR o).length : Int) →
                ((o.length + w.length ≤ 9223372036854775807) ∧
                (((o ++ w).length + o.length ≤ 9223372036854775807) ∧
                ((decE o = 0 →
                  ((spE o = 0 →
                    (((↑(toks o (spL o)).length : Int) = 0 →
                      ((spE (o ++ w ++ o) = 0 →
                        (((toks (o ++ w ++ o) (spL (o ++ w ++ o))).length ≤ 1099511627776) ∧
                        (decide (toks (o ++ w ++ o) (spL (o ++ w ++ o)) = [w]) = true))) ∧
                      (¬spE (o ++ w ++ o) = 0 →
                       (false = true)))) ∧
                    (¬(↑(toks o (spL o)).length : Int) = 0 →
                     (false = true)))) ∧
                  (¬spE o = 0 →
                   (false = true)))) ∧
                (¬decE o = 0 →
                 ((spE o = decE o →
                   (decide (spE (o ++ w ++ o) = decE o) = true)) ∧
                 (¬spE o = decE o →
                  (false = true))))))))))))))))))) ∧
          (¬spE (w ++ [55] ++ w) = 0 →
           (false = true)))) ∧
        (¬spE w = 0 →
         (false = true)))))))))))))) (by kernel_rfl) (by
    refine ⟨fun h => by simp at h, fun _ => ⟨fun _ => trivial, fun h1 => ⟨fun _ => trivial, fun h2 => ⟨fun _ => trivial, fun h3 => ?_⟩⟩⟩⟩
    have h3 : lettersB w = true := by simpa using h3
    obtain ⟨hw, _, _, hne⟩ := lettersB_ok h3
    have hl : (w ++ [55] ++ w).length ≤ 1048576 := by simp; omega
    have hl2 : (o ++ w ++ o).length ≤ 1048576 := by simp; omega
    have e1 : spE w = 0 := (spE_ok (by omega)).2 hw
    have e2 : spE (w ++ [55] ++ w) = 0 := (spE_ok hl).2 (by rw [mid_ok e55.2.2 e55.1, hw]; rfl)
    have e3 : toks w (spL w) = [w] := toks_let h3 (by omega)
    have e4 : toks (w ++ [55] ++ w) (spL (w ++ [55] ++ w)) = [w, w] := by rw [mid_toks e55.2.2 e55.1 e55.2.1 hw hw hl, e3]; rfl
    have l1 := toks_len w
    have l2 := toks_len (w ++ [55] ++ w)
    have l3 := toks_len (o ++ w ++ o)
    refine ⟨by omega, by simp; omega, fun _ => ⟨fun _ => ⟨by omega, fun h => by rw [e3] at h; simp at h, fun _ => ⟨by omega, fun h => by rw [e4] at h; simp at h, fun _ => ⟨by omega, ⟨⟨0, Nat.zero_le _, by simp⟩, rfl, rfl, rfl, rfl, rfl, rfl⟩, ?_⟩⟩⟩, fun h => absurd e2 h⟩, fun h => absurd e1 h⟩
    rintro ⟨i, hi, hn⟩
    dsimp only
    have hdl := decR_len o
    refine ⟨fun h4 => ⟨by omega, fun _ => trivial, fun h5 => ⟨by unfold i64R; omega, ⟨i + 1, by omega, ?_⟩, by show _ - (i + 1) < _ - i; omega, rfl, rfl, rfl, rfl, rfl, by push_cast; rfl⟩⟩, fun h4 => ⟨by omega, by simp; omega, fun h5 => ?_, fun h5 => ?_⟩⟩
    · intro r hr
      have hi' : i < (decR o).length := by omega
      rw [List.take_add_one, List.mem_append] at hr
      rcases hr with hr | hr
      · exact hn r hr
      · rw [List.getElem?_eq_getElem hi'] at hr
        rw [List.getD_eq_getElem?_getD, List.getElem?_eq_getElem hi'] at h5
        have hr : r = (decR o)[i] := by simpa using hr
        subst hr; simpa using h5
    · have hk := decE_zero.1 h5
      have hr : decR o = rn o := by unfold decR rn; rw [if_pos hk]
      rw [List.take_of_length_le (by omega), hr] at hn
      obtain ⟨a1, a2⟩ := around hk h3 hl2 hn
      exact ⟨fun _ => ⟨fun _ => ⟨fun _ => ⟨by omega, decide_eq_true a2⟩, fun h => absurd ((spE_ok hl2).2 a1) h⟩, fun h => absurd (by rw [toks_none hk (by omega) hn]; rfl) h⟩, fun h => absurd ((spE_ok (by omega)).2 hk) h⟩
    · have hk := decE_nz.1 h5
      have d3 : decE o = 3 := by unfold decE; rw [hk]; rfl
      exact ⟨fun _ => by rw [spE_3 hl2 (around_bad hk h3), d3]; rfl, fun h => absurd (by rw [spE_3 (by omega) hk, d3]) h⟩))
end Go.EA
