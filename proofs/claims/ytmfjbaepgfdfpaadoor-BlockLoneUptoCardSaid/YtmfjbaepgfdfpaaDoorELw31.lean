/- Layer 5: laws of blocks of steps. Conditions: none. (Printed by a program of this project's own.) -/
import Derived.Test.YtmfjbaepgfdfpaaDoorEBk
import Derived.Test.YtmfjbaepgfdfpaaDoorELw30
import Derived.Test.YtmfjbaepgfdfpaaDoorEBl
import Derived.Test.YtmfjbaepgfdfpaaDoorEK9
import Derived.KernelRfl
set_option linter.unusedVariables false
set_option linter.unusedSimpArgs false
set_option maxRecDepth 100000
set_option maxHeartbeats 0
namespace Go.EA
open F
theorem mem_at {l : List Blk} {i : Nat} (h : i < l.length) : l.getD i ([], [], 0) ∈ l := by
  rw [List.getD_eq_getElem?_getD, List.getElem?_eq_getElem h]; exact List.getElem_mem h
theorem sumA_app (a b : List Blk) : sumA (a ++ b) = sumA a + sumA b := by unfold sumA; rw [List.map_append, List.sum_append]
theorem sumB_app (a b : List Blk) : sumB (a ++ b) = sumB a + sumB b := by unfold sumB; rw [List.map_append, List.sum_append]
theorem sum_step {l : List Blk} {i : Nat} (h : i < l.length) : sumV (l.take (i + 1)) = sumV (l.take i) + mxV (l.getD i ([], [], 0)) ∧ sumA (l.take (i + 1)) = sumA (l.take i) + ((decR (l.getD i ([], [], 0)).1).length : Int) ∧ sumB (l.take (i + 1)) = sumB (l.take i) + ((decR (l.getD i ([], [], 0)).2.1).length : Int) := by
  rw [List.take_add_one, List.getElem?_eq_getElem h, List.getD_eq_getElem?_getD, List.getElem?_eq_getElem h, sum_app, sumA_app, sumB_app]
  generalize l[i] = x
  exact ⟨by simp [sumV], by simp [sumA], by simp [sumB]⟩
theorem sum_pos : ∀ (l : List Blk), 0 ≤ sumV l ∧ 0 ≤ sumA l ∧ 0 ≤ sumB l
  | [] => ⟨by decide, by decide, by decide⟩
  | b :: l => by
    obtain ⟨h1, h2, h3⟩ := sum_pos l
    unfold sumV sumA sumB at *
    simp only [List.map_cons, List.sum_cons]
    have : 0 ≤ mxV b := by unfold mxV; split <;> omega
    omega
theorem sum_take (l : List Blk) (i : Nat) : sumV (l.take i) ≤ sumV l ∧ sumA (l.take i) ≤ sumA l ∧ sumB (l.take i) ≤ sumB l := by
  have e : l = l.take i ++ l.drop i := (List.take_append_drop i l).symm
  obtain ⟨h1, h2, h3⟩ := sum_pos (l.drop i)
  have e1 : sumV l = sumV (l.take i) + sumV (l.drop i) := by conv => lhs; rw [e, sum_app]
  have e2 : sumA l = sumA (l.take i) + sumA (l.drop i) := by conv => lhs; rw [e, sumA_app]
  have e3 : sumB l = sumB (l.take i) + sumB (l.drop i) := by conv => lhs; rw [e, sumB_app]
  omega
theorem pair_room {s t : List UInt8} (h : tokE s = 0) (h1 : tokE t = 0) : (pairV s t).length ≤ 128 ∧ ∀ b ∈ pairV s t, b.1.length ≤ 512 ∧ b.2.1.length ≤ 512 := by
  obtain ⟨p1, p2, p3, p4⟩ := pair_ok h h1
  have hl := (steps_cost h h1).2.2
  have hall := chk_all (steps_ok h h1).1
  constructor
  · have := blks_len (runs' (stepsV s t))
    have := runsN_len (stepsV s t).length (stepsV s t)
    rw [p1]
    unfold runs' at *
    omega
  · intro b hb
    rw [p1] at hb
    obtain ⟨r, hr, _, rfl⟩ := blk_mem p3 b hb
    have := blk_len hall hr
    dsimp only
    omega
theorem lone_tok {s : List UInt8} (h : decE s = 0) (h3 : ¬ 3 < ((decR s).length : Int)) : tokE ([60] ++ s ++ [62]) = 0 ∧ tokR ([60] ++ s ++ [62]) = 60 :: (decR s ++ [62]) := by
  have hk := decE_zero.1 h
  have he : encL (decR s) = s ∧ (decR s).all Utf8.valid = true := by
    unfold decR; rw [if_pos hk]
    exact enc_runes s.length s (Nat.le_refl _) hk
  have e1 : encL (60 :: (decR s ++ [62])) = [60] ++ s ++ [62] := by
    have a : encL [60] = [60] := by decide +kernel
    have b : encL [62] = [62] := by decide +kernel
    have : encL (60 :: (decR s ++ [62])) = encL [60] ++ encL (decR s) ++ encL [62] := by simp [encL]
    rw [this, a, b, he.1]
  have hv : (60 :: (decR s ++ [62])).all Utf8.valid = true := by
    rw [List.all_cons, List.all_append, he.2]; decide
  obtain ⟨d1, d2, d3⟩ := dec_encL hv
  rw [e1] at d1 d2
  have hl : (decR ([60] ++ s ++ [62])).length = (decR s).length + 2 := by rw [d1]; simp
  obtain ⟨k1, k2⟩ := tok_k (s := [60] ++ s ++ [62]) d2 (by omega) (by omega)
  exact ⟨k2, by rw [k1, d1]⟩
theorem w209 {S : SC} (hB : SB S) (q225 : PrOk S 225 (pureP G225)) (q226 : PrOk S 226 (pureP G226)) (q17 : PrOk S 17 (pureP G17)) (h209 : S.has 209 f209) (s : List UInt8) (t : List UInt8) (ls : s.length ≤ 1048576) (lt : t.length ≤ 1048576) : MF S 209 [] [den0 (.one (.str s)), den0 (.one (.str t))] (hl []) fun v _ => v = .one (.bool true) :=
  mfM hB [] [⟨225, G225, K225⟩, ⟨226, G226, K226⟩, ⟨17, G17, K17⟩] trivial ⟨⟨q225, K225_ok⟩, ⟨q226, K226_ok⟩, ⟨q17, K17_ok⟩, trivial⟩ h209 (v := .one .tt) (xs := [.one (.str s), .one (.str t)]) rfl rfl rfl (fun f id T L => match f, id with
      | 209, 0 => match T.getD 9 .junk with | .one (.row (.pair .str (.pair .str (.int .i64))) k) => some (.inv { i : Nat // i ≤ k.length } (fun x => ([(71, .one (.int .i64 x.1)), (11, .one (.int .i64 (sumA (k.take x.1)))), (12, .one (.int .i64 (sumB (k.take x.1))))], [])) (fun x => k.length - x.1)) | _ => none
      | _, _ => none) 900 (VC.use (p :=
    (((!true) = true →
      (false = true)) ∧
    (¬(!true) = true →
     ((s.length ≤ 1099511627776) ∧
     ((t.length ≤ 1099511627776) ∧
     ((decE s = 0 →
       ((decE t = 0 →
         ((3 < (↑(decR s).length : Int) →
           True) ∧
         (¬3 < (↑(decR s).length : Int) →
          ((3 < (↑(decR t).length : Int) →
            True) ∧
          (¬3 < (↑(decR t).length : Int) →
           ((s = t →
             True) ∧
           (¬s = t →
            ((1 + s.length ≤ 9223372036854775807) ∧
            ((([60] ++ s).length + 1 ≤ 9223372036854775807) ∧
            ((1 + t.length ≤ 9223372036854775807) ∧
            ((([60] ++ t).length + 1 ≤ 9223372036854775807) ∧
            ((([60] ++ s ++ [62]).length ≤ 1099511627776) ∧
            ((([60] ++ t ++ [62]).length ≤ 1099511627776) ∧
            ((twoE ([60] ++ s ++ [62]) ([60] ++ t ++ [62]) = 0 →
              (((↑(pairV ([60] ++ s ++ [62]) ([60] ++ t ++ [62])).length : Int) = 0 →
                (false = true)) ∧
              (¬(↑(pairV ([60] ++ s ++ [62]) ([60] ++ t ++ [62])).length : Int) = 0 →
               ((∃ x1 : { i : Nat // i ≤ (pairV ([60] ++ s ++ [62]) ([60] ++ t ++ [62])).length },
                 ((decR s = decR s) ∧
                 ((decR t = decR t) ∧
                 ((0 = sumA (List.take x1.val (pairV ([60] ++ s ++ [62]) ([60] ++ t ++ [62])))) ∧
                 ((0 = sumB (List.take x1.val (pairV ([60] ++ s ++ [62]) ([60] ++ t ++ [62])))) ∧
                 ((pairV ([60] ++ s ++ [62]) ([60] ++ t ++ [62]) = pairV ([60] ++ s ++ [62]) ([60] ++ t ++ [62])) ∧
                 (((↑(pairV ([60] ++ s ++ [62]) ([60] ++ t ++ [62])).length : Int) = (↑(pairV ([60] ++ s ++ [62]) ([60] ++ t ++ [62])).length : Int)) ∧
                 (0 = (↑x1.val : Int))))))))) ∧
               (∀ x1 : { i : Nat // i ≤ (pairV ([60] ++ s ++ [62]) ([60] ++ t ++ [62])).length },
                (((↑x1.val : Int) < (↑(pairV ([60] ++ s ++ [62]) ([60] ++ t ++ [62])).length : Int) →
                  ((0 ≤ (↑x1.val : Int) ∧ (↑x1.val : Int) < (↑(pairV ([60] ++ s ++ [62]) ([60] ++ t ++ [62])).length : Int)) ∧
                  ((List.length ((pairV ([60] ++ s ++ [62]) ([60] ++ t ++ [62])).getD x1.val ([], [], 0)).fst ≤ 1099511627776) ∧
                  ((List.length ((pairV ([60] ++ s ++ [62]) ([60] ++ t ++ [62])).getD x1.val ([], [], 0)).snd.fst ≤ 1099511627776) ∧
                  ((i64R (sumA (List.take x1.val (pairV ([60] ++ s ++ [62]) ([60] ++ t ++ [62]))) + (↑(decR ((pairV ([60] ++ s ++ [62]) ([60] ++ t ++ [62])).getD x1.val ([], [], 0)).fst).length : Int))) ∧
                  ((i64R (sumB (List.take x1.val (pairV ([60] ++ s ++ [62]) ([60] ++ t ++ [62]))) + (↑(decR ((pairV ([60] ++ s ++ [62]) ([60] ++ t ++ [62])).getD x1.val ([], [], 0)).snd.fst).length : Int))) ∧
                  ((i64R ((↑x1.val : Int) + 1)) ∧
                  (∃ x2 : { i : Nat // i ≤ (pairV ([60] ++ s ++ [62]) ([60] ++ t ++ [62])).length },
                   (((pairV ([60] ++ s ++ [62]) ([60] ++ t ++ [62])).length - x2.val < (pairV ([60] ++ s ++ [62]) ([60] ++ t ++ [62])).length - x1.val) ∧
                   ((decR s = decR s) ∧
                   ((decR t = decR t) ∧
                   ((sumA (List.take x1.val (pairV ([60] ++ s ++ [62]) ([60] ++ t ++ [62]))) + (↑(decR ((pairV ([60] ++ s ++ [62]) ([60] ++ t ++ [62])).getD x1.val ([], [], 0)).fst).length : Int) = sumA (List.take x2.val (pairV ([60] ++ s ++ [62]) ([60] ++ t ++ [62])))) ∧
                   ((sumB (List.take x1.val (pairV ([60] ++ s ++ [62]) ([60] ++ t ++ [62]))) + (↑(decR ((pairV ([60] ++ s ++ [62]) ([60] ++ t ++ [62])).getD x1.val ([], [], 0)).snd.fst).length : Int) = sumB (List.take x2.val (pairV ([60] ++ s ++ [62]) ([60] ++ t ++ [62])))) ∧
                   ((pairV ([60] ++ s ++ [62]) ([60] ++ t ++ [62]) = pairV ([60] ++ s ++ [62]) ([60] ++ t ++ [62])) ∧
                   (((↑(pairV ([60] ++ s ++ [62]) ([60] ++ t ++ [62])).length : Int) = (↑(pairV ([60] ++ s ++ [62]) ([60] ++ t ++ [62])).length : Int)) ∧
                   ((↑x1.val : Int) + 1 = (↑x2.val : Int))))))))))))))))) ∧
                (¬(↑x1.val : Int) < (↑(pairV ([60] ++ s ++ [62]) ([60] ++ t ++ [62])).length : Int) →
                 ((sumA (List.take x1.val (pairV ([60] ++ s ++ [62]) ([60] ++ t ++ [62]))) ≤ (↑(decR s).length : Int) →
                   (decide (sumB (List.take x1.val (pairV ([60] ++ s ++ [62]) ([60] ++ t ++ [62]))) ≤ (↑(decR t).length : Int)) = true)) ∧
                 (¬sumA (List.take x1.val (pairV ([60] ++ s ++ [62]) ([60] ++ t ++ [62]))) ≤ (↑(decR s).length : Int) →
                  (false = true)))))))))) ∧
            (¬twoE ([60] ++ s ++ [62]) ([60] ++ t ++ [62]) = 0 →
             (false = true)))))))))))))))) ∧
       (¬decE t = 0 →
        True))) ∧
     (¬decE s = 0 →
      True))))))) (by kernel_rfl) (by
    have k0 : ([60] ++ s).length = s.length + 1 := by simp
    have k1 : ([60] ++ t).length = t.length + 1 := by simp
    have k2 : ([60] ++ s ++ [62]).length = s.length + 2 := by simp
    have k3 : ([60] ++ t ++ [62]).length = t.length + 2 := by simp
    refine ⟨fun h => by simp at h, fun _ => ⟨by omega, by omega, fun h1 => ⟨fun h2 => ⟨fun _ => trivial, fun h3 => ⟨fun _ => trivial, fun h4 => ⟨fun _ => trivial, fun h5 => ⟨by omega, by omega, by omega, by omega, by omega, by omega, ?_, ?_⟩⟩⟩⟩, fun _ => trivial⟩, fun _ => trivial⟩⟩
    rotate_left
    · intro h6
      exact absurd (two_ok (lone_tok h1 h3).1 (lone_tok h2 h4).1).1 h6
    intro h6
    obtain ⟨t1, t3⟩ := lone_tok h1 h3
    obtain ⟨t2, t4⟩ := lone_tok h2 h4
    obtain ⟨n1, n2, n3⟩ := lone t1 t2 t3 t4 (by omega) (by omega) (fun e => h5 (by simpa using e))
    obtain ⟨m1, m2⟩ := pair_room t1 t2
    generalize pairV ([60] ++ s ++ [62]) ([60] ++ t ++ [62]) = l at *
    refine ⟨fun h => by omega, fun _ => ⟨⟨⟨0, by omega⟩, rfl, rfl, rfl, rfl, rfl, rfl, rfl⟩, ?_⟩⟩
    rintro ⟨i, hi⟩
    dsimp only at hi ⊢
    refine ⟨fun h => ?_, fun h => ?_⟩
    · have hb := mem_at (l := l) (i := i) (by omega)
      obtain ⟨_, s2, s3⟩ := sum_step (l := l) (i := i) (by omega)
      obtain ⟨_, w2, w3⟩ := sum_take l (i + 1)
      obtain ⟨_, z2, z3⟩ := sum_pos (l.take (i + 1))
      obtain ⟨d1, d2⟩ := m2 _ hb
      exact ⟨by omega, by omega, by omega, by unfold i64R; omega, by unfold i64R; omega, by unfold i64R; omega, ⟨i + 1, by omega⟩, by dsimp only; omega, rfl, rfl, s2.symm, s3.symm, rfl, rfl, by push_cast; rfl⟩
    · rw [List.take_of_length_le (by omega)]
      exact ⟨fun _ => by rw [decide_eq_true_eq]; exact n3, fun h => absurd n2 h⟩))
end Go.EA

