/- Layer 5: laws of blocks of steps. Conditions: none. (Printed by a program of this project's own.) -/
import Derived.Test.YtmfjbaepgfdfpaaDoorEBk
import Derived.Test.YtmfjbaepgfdfpaaDoorELw30
import Derived.Test.YtmfjbaepgfdfpaaDoorEBl
import Derived.Test.YtmfjbaepgfdfpaaDoorEK9
import Derived.KernelRfl
set_option linter.unusedVariables false
set_option linter.unusedSimpArgs false
set_option maxRecDepth 100000
set_option maxHeartbeats 0
namespace Go.EA
open F
theorem mem_at {l : List Blk} {i : Nat} (h : i < l.length) : l.getD i ([], [], 0) ∈ l := by
  rw [List.getD_eq_getElem?_getD, List.getElem?_eq_getElem h]; exact List.getElem_mem h
theorem sumA_app (a b : List Blk) : sumA (a ++ b) = sumA a + sumA b := by unfold sumA; rw [List.map_append, List.sum_append]
theorem sumB_app (a b : List Blk) : sumB (a ++ b) = sumB a + sumB b := by unfold sumB; rw [List.map_append, List.sum_append]
theorem sum_step {l : List Blk} {i : Nat} (h : i < l.length) : sumV (l.take (i + 1)) = sumV (l.take i) + mxV (l.getD i ([], [], 0)) ∧ sumA (l.take (i + 1)) = sumA (l.take i) + ((decR (l.getD i ([], [], 0)).1).length : Int) ∧ sumB (l.take (i + 1)) = sumB (l.take i) + ((decR (l.getD i ([], [], 0)).2.1).length : Int) := by
  rw [List.take_add_one, List.getElem?_eq_getElem h, List.getD_eq_getElem?_getD, List.getElem?_eq_getElem h, sum_app, sumA_app, sumB_app]
  generalize l[i] = x
  exact ⟨by simp [sumV], by simp [sumA], by simp [sumB]⟩
theorem sum_pos : ∀ (l : List Blk), 0 ≤ sumV l ∧ 0 ≤ sumA l ∧ 0 ≤ sumB l
  | [] => ⟨by decide, by decide, by decide⟩
  | b :: l => by
    obtain ⟨h1, h2, h3⟩ := sum_pos l
    unfold sumV sumA sumB at *
    simp only [List.map_cons, List.sum_cons]
    have : 0 ≤ mxV b := by unfold mxV; split <;> omega
    omega
theorem sum_take (l : List Blk) (i : Nat) : sumV (l.take i) ≤ sumV l ∧ sumA (l.take i) ≤ sumA l ∧ sumB (l.take i) ≤ sumB l := by
  have e : l = l.take i ++ l.drop i := (List.take_append_drop i l).symm
  obtain ⟨h1, h2, h3⟩ := sum_pos (l.drop i)
  have e1 : sumV l = sumV (l.take i) + sumV (l.drop i) := by conv => lhs; rw [e, sum_app]
  have e2 : sumA l = sumA (l.take i) + sumA (l.drop i) := by conv => lhs; rw [e, sumA_app]
  have e3 : sumB l = sumB (l.take i) + sumB (l.drop i) := by conv => lhs; rw [e, sumB_app]
  omega
theorem pair_room {s t : List UInt8} (h : tokE s = 0) (h1 : tokE t = 0) : (pairV s t).length ≤ 128 ∧ ∀ b ∈ pairV s t, b.1.length ≤ 512 ∧ b.2.1.length ≤ 512 := by
  obtain ⟨p1, p2, p3, p4⟩ := pair_ok h h1
  have hl := (steps_cost h h1).2.2
  have hall := chk_all (steps_ok h h1).1
  constructor
  · have := blks_len (runs' (stepsV s t))
    have := runsN_len (stepsV s t).length (stepsV s t)
    rw [p1]
    unfold runs' at *
    omega
  · intro b hb
    rw [p1] at hb
    obtain ⟨r, hr, _, rfl⟩ := blk_mem p3 b hb
    have := blk_len hall hr
    dsimp only
    omega
theorem cost64 {s t : List UInt8} (h : tokE s = 0) (h1 : tokE t = 0) : costL (stepsV s t) ≤ 64 := by
  rw [(steps_cost h h1).1, dist_ok h h1]
  have := lev_le (tokR s).reverse (tokR t).reverse
  have m1 := tok64 (s := s)
  have m2 := tok64 (s := t)
  simp only [List.length_reverse] at this
  omega
theorem w212 {S : SC} (hB : SB S) (q225 : PrOk S 225 (pureP G225)) (q226 : PrOk S 226 (pureP G226)) (q214 : PrOk S 214 (pureP G214)) (q234 : PrOk S 234 (pureP G234)) (q17 : PrOk S 17 (pureP G17)) (q232 : PrOk S 232 (pureP G232)) (q219 : PrOk S 219 (pureP G219)) (h212 : S.has 212 f212) (s : List UInt8) (t : List UInt8) (ls : s.length ≤ 1048576) (lt : t.length ≤ 1048576) : MF S 212 [] [den0 (.one (.str s)), den0 (.one (.str t))] (hl []) fun v _ => v = .one (.bool true) :=
  mfM hB [] [⟨225, G225, K225⟩, ⟨226, G226, K226⟩, ⟨214, G214, K214⟩, ⟨234, G234, K234⟩, ⟨17, G17, K17⟩, ⟨232, G232, K232⟩, ⟨219, G219, K219⟩] trivial ⟨⟨q225, K225_ok⟩, ⟨q226, K226_ok⟩, ⟨q214, K214_ok⟩, ⟨q234, K234_ok⟩, ⟨q17, K17_ok⟩, ⟨q232, K232_ok⟩, ⟨q219, K219_ok⟩, trivial⟩ h212 (v := .one .tt) (xs := [.one (.str s), .one (.str t)]) rfl rfl rfl (fun f id T L => match f, id with
      | 212, 0 => some (.inv { i : Nat // i ≤ (pairV s t).length } (fun x => ([(42, .one (.int .i64 x.1)), (9, .one (.int .i64 (sumV ((pairV s t).take x.1))))], [])) (fun x => (pairV s t).length - x.1))
      | _, _ => none) 900 (VC.use (p :=
    (((!true) = true →
      (false = true)) ∧
    (¬(!true) = true →
     ((s.length ≤ 1099511627776) ∧
     ((t.length ≤ 1099511627776) ∧
     ((s.length ≤ 1099511627776) ∧
     ((t.length ≤ 1099511627776) ∧
     ((twoE s t = twoE s t →
       ((twoE s t = 0 →
         ((∃ x1 : { i : Nat // i ≤ (pairV s t).length },
           ((s = s) ∧
           ((t = t) ∧
           ((pairV s t = pairV s t) ∧
           ((stepsV s t = stepsV s t) ∧
           ((0 = sumV (List.take x1.val (pairV s t))) ∧
           ((pairV s t = pairV s t) ∧
           (((↑(pairV s t).length : Int) = (↑(pairV s t).length : Int)) ∧
           (0 = (↑x1.val : Int)))))))))) ∧
         (∀ x1 : { i : Nat // i ≤ (pairV s t).length },
          (((↑x1.val : Int) < (↑(pairV s t).length : Int) →
            ((0 ≤ (↑x1.val : Int) ∧ (↑x1.val : Int) < (↑(pairV s t).length : Int)) ∧
            ((List.length ((pairV s t).getD x1.val ([], [], 0)).fst ≤ 4611686018427387904) ∧
            ((List.length ((pairV s t).getD x1.val ([], [], 0)).snd.fst ≤ 4611686018427387904) ∧
            ((bchk (((pairV s t).getD x1.val ([], [], 0)).fst, ((pairV s t).getD x1.val ([], [], 0)).snd.fst, ((pairV s t).getD x1.val ([], [], 0)).snd.snd) = 0 →
              ((((pairV s t).getD x1.val ([], [], 0)).snd.snd = 1 →
                ((List.length ((pairV s t).getD x1.val ([], [], 0)).fst ≤ 1099511627776) ∧
                ((List.length ((pairV s t).getD x1.val ([], [], 0)).snd.fst ≤ 1099511627776) ∧
                ((i64R   (sumV (List.take x1.val (pairV s t)) +     (if (↑(decR ((pairV s t).getD x1.val ([], [], 0)).fst).length : Int) < (↑(decR ((pairV s t).getD x1.val ([], [], 0)).snd.fst).length : Int) then (↑(decR ((pairV s t).getD x1.val ([], [], 0)).snd.fst).length : Int) else (↑(decR ((pairV s t).getD x1.val ([], [], 0)).fst).length : Int)))) ∧
                ((i64R ((↑x1.val : Int) + 1)) ∧
                (∃ x2 : { i : Nat // i ≤ (pairV s t).length },
                 (((pairV s t).length - x2.val < (pairV s t).length - x1.val) ∧
                 ((s = s) ∧
                 ((t = t) ∧
                 ((pairV s t = pairV s t) ∧
                 ((stepsV s t = stepsV s t) ∧
                 (((sumV (List.take x1.val (pairV s t)) +     (if (↑(decR ((pairV s t).getD x1.val ([], [], 0)).fst).length : Int) < (↑(decR ((pairV s t).getD x1.val ([], [], 0)).snd.fst).length : Int) then (↑(decR ((pairV s t).getD x1.val ([], [], 0)).snd.fst).length : Int) else (↑(decR ((pairV s t).getD x1.val ([], [], 0)).fst).length : Int))) =   sumV (List.take x2.val (pairV s t))) ∧
                 ((pairV s t = pairV s t) ∧
                 (((↑(pairV s t).length : Int) = (↑(pairV s t).length : Int)) ∧
                 ((↑x1.val : Int) + 1 = (↑x2.val : Int)))))))))))))))) ∧
              (¬((pairV s t).getD x1.val ([], [], 0)).snd.snd = 1 →
               (false = true)))) ∧
            (¬bchk (((pairV s t).getD x1.val ([], [], 0)).fst, ((pairV s t).getD x1.val ([], [], 0)).snd.fst, ((pairV s t).getD x1.val ([], [], 0)).snd.snd) = 0 →
             (false = true))))))) ∧
          (¬(↑x1.val : Int) < (↑(pairV s t).length : Int) →
           (((stepsV s t).length ≤ 1099511627776) ∧
           ((chkE (stepsV s t) = 0 →
             (((stepsV s t).length ≤ 1099511627776) ∧
             ((sumV (List.take x1.val (pairV s t)) ≤ costL (stepsV s t) →
               ((s = t →
                 (((↑(pairV s t).length : Int) = 0 →
                   ((i64R ((↑(pairV s t).length : Int) + longsV (stepsV s t))) ∧
                   (((stepsV s t).length ≤ 1099511627776) ∧
                   (((↑(pairV s t).length : Int) + longsV (stepsV s t) ≤ costL (stepsV s t) →
                     ((0 < (↑(pairV s t).length : Int) →
                       True) ∧
                     (¬0 < (↑(pairV s t).length : Int) →
                      ((0 < longsV (stepsV s t) →
                        True) ∧
                      (¬0 < longsV (stepsV s t) →
                       (((stepsV s t).length ≤ 1099511627776) ∧
                       (decide (costL (stepsV s t) = 0) = true))))))) ∧
                   (¬(↑(pairV s t).length : Int) + longsV (stepsV s t) ≤ costL (stepsV s t) →
                    (false = true)))))) ∧
                 (¬(↑(pairV s t).length : Int) = 0 →
                  (false = true)))) ∧
               (¬s = t →
                ((i64R ((↑(pairV s t).length : Int) + longsV (stepsV s t))) ∧
                (((stepsV s t).length ≤ 1099511627776) ∧
                (((↑(pairV s t).length : Int) + longsV (stepsV s t) ≤ costL (stepsV s t) →
                  ((0 < (↑(pairV s t).length : Int) →
                    True) ∧
                  (¬0 < (↑(pairV s t).length : Int) →
                   ((0 < longsV (stepsV s t) →
                     True) ∧
                   (¬0 < longsV (stepsV s t) →
                    (((stepsV s t).length ≤ 1099511627776) ∧
                    (decide (costL (stepsV s t) = 0) = true))))))) ∧
                (¬(↑(pairV s t).length : Int) + longsV (stepsV s t) ≤ costL (stepsV s t) →
                 (false = true)))))))) ∧
             (¬sumV (List.take x1.val (pairV s t)) ≤ costL (stepsV s t) →
              (false = true))))) ∧
           (¬chkE (stepsV s t) = 0 →
            (false = true))))))))) ∧
       (¬twoE s t = 0 →
        (decide ((↑(pairV s t).length : Int) = 0) = true)))) ∧
     (¬twoE s t = twoE s t →
      (false = true)))))))))) (by kernel_rfl) (by
    refine ⟨fun h => by simp at h, fun _ => ⟨by omega, by omega, by omega, by omega, fun _ => ⟨fun h0 => ?_, fun h0 => by rw [decide_eq_true_eq]; unfold pairV; rw [if_neg h0]; rfl⟩, fun h => absurd rfl h⟩⟩
    obtain ⟨t1, t2⟩ := two_zero h0
    obtain ⟨a1, a0, a2, a3, a4, a5, a6⟩ := pair_all t1 t2
    obtain ⟨m1, m2⟩ := pair_room t1 t2
    have hs := steps_cost t1 t2
    have hc := cost64 t1 t2
    refine ⟨⟨⟨0, by omega⟩, rfl, rfl, rfl, rfl, rfl, rfl, rfl, rfl⟩, ?_⟩
    rintro ⟨i, hi⟩
    dsimp only at hi ⊢
    refine ⟨fun h => ?_, fun h => ?_⟩
    · have hb := mem_at (l := pairV s t) (i := i) (by omega)
      have hst := (sum_step (l := pairV s t) (i := i) (by omega)).1
      have hle := (sum_take (pairV s t) (i + 1)).1
      have hge := (sum_pos ((pairV s t).take (i + 1))).1
      obtain ⟨c1, c2⟩ := a1 _ hb
      obtain ⟨d1, d2⟩ := m2 _ hb
      have e : sumV (List.take i (pairV s t)) + (if ((decR ((pairV s t).getD i ([], [], 0)).1).length : Int) < ((decR ((pairV s t).getD i ([], [], 0)).2.1).length : Int) then ((decR ((pairV s t).getD i ([], [], 0)).2.1).length : Int) else ((decR ((pairV s t).getD i ([], [], 0)).1).length : Int)) = sumV ((pairV s t).take (i + 1)) := by rw [hst]; rfl
      rw [e]
      exact ⟨by omega, by omega, by omega, fun _ => ⟨fun _ => ⟨by omega, by omega, by unfold i64R; omega, by unfold i64R; omega, ⟨i + 1, by omega⟩, by dsimp only; omega, rfl, rfl, rfl, rfl, rfl, rfl, rfl, by push_cast; rfl⟩, fun h => absurd c2 h⟩, fun h => absurd c1 h⟩
    · rw [List.take_of_length_le (by omega)]
      refine ⟨by omega, fun _ => ⟨by omega, fun _ => ⟨fun h2 => ⟨fun _ => ⟨by unfold i64R; omega, by omega, fun _ => ⟨fun _ => trivial, fun h4 => ⟨fun _ => trivial, fun h5 => ⟨by omega, by rw [decide_eq_true_eq]; exact a6 (by omega) (by omega)⟩⟩⟩, fun h => absurd a3 h⟩, fun h => absurd (by rw [a5 h2]; rfl) h⟩, fun _ => ⟨by unfold i64R; omega, by omega, fun _ => ⟨fun _ => trivial, fun h4 => ⟨fun _ => trivial, fun h5 => ⟨by omega, by rw [decide_eq_true_eq]; exact a6 (by omega) (by omega)⟩⟩⟩, fun h => absurd a3 h⟩⟩, fun h => absurd a2 h⟩, fun h => absurd (steps_ok t1 t2).1 h⟩))
end Go.EA

