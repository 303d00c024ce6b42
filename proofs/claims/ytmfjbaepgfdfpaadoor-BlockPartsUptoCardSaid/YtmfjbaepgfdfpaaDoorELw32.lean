/- Layer 5: a law of blocks, steps one behind the other. Conditions: none. (Printed by a program of this project's own.) -/
import Derived.Test.YtmfjbaepgfdfpaaDoorELw31
import Derived.Test.YtmfjbaepgfdfpaaDoorEK9
import Derived.KernelRfl
set_option linter.unusedVariables false
set_option linter.unusedSimpArgs false
set_option maxRecDepth 100000
set_option maxHeartbeats 0
namespace Go.EA
open F
def BInv (k : List Stp) : Type := { p : Nat × List Blk // p.1 ≤ k.length + 1 ∧ p.2 ++ ((runsN (k.length - p.1) (k.drop p.1)).map blkOf).flatten = ((runs' k).map blkOf).flatten }
def JInv (k : List Stp) (u : Nat) : Type := { j : Nat // u ≤ j ∧ j ≤ k.length ∧ ((k.drop u).take (j - u)).all nz = true }
abbrev cat3 (l m : List Stp) : List Stp := [] ++ l ++ [(0, 120, 120)] ++ m
abbrev cutT (k : List Stp) (i j : Nat) : List Stp := List.take (toN (some (j : Int)) k.length - toN (some (i : Int)) 0) (List.drop (toN (some (i : Int)) 0) k)
theorem takeWhile_app (x : Stp) (hx : nz x = false) (m : List Stp) : ∀ (l : List Stp), (l ++ x :: m).takeWhile nz = l.takeWhile nz ∧ (l ++ x :: m).dropWhile nz = l.dropWhile nz ++ x :: m
  | [] => by simp [List.takeWhile_cons, List.dropWhile_cons, hx]
  | s :: l => by
    obtain ⟨h1, h2⟩ := takeWhile_app x hx m l
    simp only [List.cons_append, List.takeWhile_cons, List.dropWhile_cons]
    split
    · exact ⟨by rw [h1], h2⟩
    · exact ⟨rfl, rfl⟩
theorem runs_app (x : Stp) (hx : nz x = false) (m : List Stp) : ∀ (n : Nat) (l : List Stp), l.length ≤ n → runsN (l ++ x :: m).length (l ++ x :: m) = runsN l.length l ++ runsN m.length m
  | n, [], _ => by
    simp only [List.nil_append, List.length_cons, runsN, hx, Bool.false_eq_true, if_false]
    rw [runsN_nil]; rfl
  | 0, s :: l, h => by simp at h
  | n + 1, s :: l, h => by
    simp only [List.length_cons] at h
    simp only [List.cons_append, List.length_cons, runsN]
    obtain ⟨h1, h2⟩ := takeWhile_app x hx m l
    have hd := (List.dropWhile_sublist nz (l := l)).length_le
    split
    · rw [h1, h2, runsN_fuel _ (l.dropWhile nz ++ x :: m) (by simp; omega), runs_app x hx m n _ (by omega), runsN_fuel l.length (l.dropWhile nz) hd]
      rfl
    · exact runs_app x hx m n l (by omega)
theorem runs_cat (l m : List Stp) : runs' (cat3 l m) = runs' l ++ runs' m := by
  have e : cat3 l m = l ++ (0, 120, 120) :: m := by simp [cat3]
  rw [e]
  exact runs_app _ rfl m l.length l (Nat.le_refl _)
theorem chk_cat (l m : List Stp) : chkE (cat3 l m) = if chkE l = 0 ∧ chkE m = 0 then 0 else 7 := by
  have e : cat3 l m = l ++ (0, 120, 120) :: m := by simp [cat3]
  have hx : okS (0, 120, 120) = true := by decide
  have e2 : (l ++ ((0, 120, 120) : Stp) :: m).all okS = (l.all okS && m.all okS) := by rw [List.all_append, List.all_cons, hx, Bool.true_and]
  rw [e]
  unfold chkE
  rw [e2]
  cases l.all okS <;> cases m.all okS <;> decide
theorem blkOf_eq {r : List Stp} (h : readA r = readB r) : blkOf r = [] := by unfold blkOf; rw [if_neg (by simp [h])]
theorem blkOf_new {r : List Stp} (h : (!longV r) = true) (h1 : ¬ readA r = readB r) : blkOf r = [(readA r, readB r, 1)] := by unfold blkOf; rw [if_pos (by simp [h1]; simpa using h)]
theorem blkOf_long {r : List Stp} (h : ¬ (!longV r) = true) : blkOf r = [] := by unfold blkOf; rw [if_neg (by rw [Bool.and_eq_true]; exact fun q => h q.1)]
theorem w207 {S : SC} (hB : SB S) (q225 : PrOk S 225 (pureP G225)) (q222 : PrOk S 222 (pureP G222)) (q250 : PrOk S 250 (pureP G250)) (q228 : PrOk S 228 (pureP G228)) (h229 : S.has 229 f229) (h249 : S.has 249 f249) (h260 : S.has 260 f260) (h207 : S.has 207 f207) (l : List (Int × Int × Int)) (m : List (Int × Int × Int)) (hl0 : l.length ≤ 1048576) (hm0 : m.length ≤ 1048576) : MF S 207 [] [den0 (.one (.row (.pair (.int .i64) (.pair (.int .i32) (.int .i32))) l)), den0 (.one (.row (.pair (.int .i64) (.pair (.int .i32) (.int .i32))) m))] (hl []) fun v _ => v = .one (.bool true) :=
  mfM hB [(229, f229), (249, f249), (260, f260)] [⟨225, G225, K225⟩, ⟨222, G222, K222⟩, ⟨250, G250, K250⟩, ⟨228, G228, K228⟩] ⟨h229, h249, h260, trivial⟩ ⟨⟨q225, K225_ok⟩, ⟨q222, K222_ok⟩, ⟨q250, K250_ok⟩, ⟨q228, K228_ok⟩, trivial⟩ h207 (v := .one .tt) (xs := [.one (.row (.pair (.int .i64) (.pair (.int .i32) (.int .i32))) l), .one (.row (.pair (.int .i64) (.pair (.int .i32) (.int .i32))) m)]) rfl rfl rfl (fun f id T L => match f, id with
      | 260, 0 => match T.getD 1 .junk with | .one (.ptr q _ _) => (match getO L q with | .cell [.row (.pair (.int .i64) (.pair (.int .i32) (.int .i32))) k] => some (.inv (BInv k) (fun x => ([(3, .one (.int .i64 x.1.1))], [(q - 1, .cell [.osl L.length]), (L.length, .row BlkT x.1.2)])) (fun x => k.length + 1 - x.1.1)) | .cell [.osl b] => (match getO L b with | .row (.pair (.int .i64) (.pair (.int .i32) (.int .i32))) k => some (.inv (BInv k) (fun x => ([(3, .one (.int .i64 x.1.1))], [(q - 1, .cell [.osl L.length]), (L.length, .row BlkT x.1.2)])) (fun x => k.length + 1 - x.1.1)) | _ => none) | _ => none) | _ => none
      | 260, 2 => match T.getD 4 .junk, T.getD 1 .junk with | .one (.int _ u), .one (.ptr q _ _) => (match getO L q with | .cell [.row (.pair (.int .i64) (.pair (.int .i32) (.int .i32))) k] => some (.inv (JInv k u.toNat) (fun x => ([(3, .one (.int .i64 x.1))], [])) (fun x => k.length - x.1)) | .cell [.osl b] => (match getO L b with | .row (.pair (.int .i64) (.pair (.int .i32) (.int .i32))) k => some (.inv (JInv k u.toNat) (fun x => ([(3, .one (.int .i64 x.1))], [])) (fun x => k.length - x.1)) | _ => none) | _ => none) | _, _ => none
      | _, _ => none) 4000 (VC.use (p :=
    (((!true) = true →
      (false = true)) ∧
    (¬(!true) = true →
     ((i64R ((↑l.length : Int) + (↑m.length : Int))) ∧
     ((2000 < (↑l.length : Int) + (↑m.length : Int) →
       True) ∧
     (¬2000 < (↑l.length : Int) + (↑m.length : Int) →
      ((l.length ≤ 1099511627776) ∧
      ((chkE l = 0 →
        ((∃ x1 : BInv l,
          ((0 = (↑x1.val.fst : Int)) ∧
          ((x1.val.snd = []) ∧
          ((l = l) ∧
          (x1.val.snd = []))))) ∧
        (∀ x1 : BInv l,
         (((↑x1.val.fst : Int) < (↑l.length : Int) →
           ((0 ≤ (↑x1.val.fst : Int) ∧ (↑x1.val.fst : Int) < (↑l.length : Int)) ∧
           (((l.getD x1.val.fst (0, 0, 0)).fst = 0 →
             ((i64R ((↑x1.val.fst : Int) + 1)) ∧
             (∃ x2 : BInv l,
              ((l.length + 1 - x2.val.fst < l.length + 1 - x1.val.fst) ∧
              (((↑x1.val.fst : Int) + 1 = (↑x2.val.fst : Int)) ∧
              ((l = l) ∧
              (x1.val.snd = x2.val.snd))))))) ∧
           (¬(l.getD x1.val.fst (0, 0, 0)).fst = 0 →
            ((∃ x2 : JInv l x1.val.fst,
              (((↑x1.val.fst : Int) = (↑x2.val : Int)) ∧
              (((↑x1.val.fst : Int) = (↑x1.val.fst : Int)) ∧
              ((l = l) ∧
              (x1.val.snd = x1.val.snd))))) ∧
            (∀ x2 : JInv l x1.val.fst,
             (((↑x2.val : Int) < (↑l.length : Int) →
               ((0 ≤ (↑x2.val : Int) ∧ (↑x2.val : Int) < (↑l.length : Int)) ∧
               (((l.getD x2.val (0, 0, 0)).fst = 0 →
                 ((0 ≤ (↑x1.val.fst : Int) ∧ (↑x1.val.fst : Int) ≤ (↑x2.val : Int) ∧ (↑x2.val : Int) ≤ (↑l.length : Int)) ∧
                 (((cutR l (some (↑x1.val.fst : Int)) (some (↑x2.val : Int))).length ≤ 1099511627776) ∧
                 (((!longV (cutR l (some (↑x1.val.fst : Int)) (some (↑x2.val : Int)))) = true →
                   ((readA (cutR l (some (↑x1.val.fst : Int)) (some (↑x2.val : Int))) = readB (cutR l (some (↑x1.val.fst : Int)) (some (↑x2.val : Int))) →
                     ((i64R ((↑x2.val : Int) + 1)) ∧
                     (∃ x3 : BInv l,
                      ((l.length + 1 - x3.val.fst < l.length + 1 - x1.val.fst) ∧
                      (((↑x2.val : Int) + 1 = (↑x3.val.fst : Int)) ∧
                      ((l = l) ∧
                      (x1.val.snd = x3.val.snd))))))) ∧
                   (¬readA (cutR l (some (↑x1.val.fst : Int)) (some (↑x2.val : Int))) = readB (cutR l (some (↑x1.val.fst : Int)) (some (↑x2.val : Int))) →
                    (((x1.val.snd.length + [(readA (cutR l (some (↑x1.val.fst : Int)) (some (↑x2.val : Int))), readB (cutR l (some (↑x1.val.fst : Int)) (some (↑x2.val : Int))), 1)].length) * 40 ≤ 140737488355328) ∧
                    ((i64R ((↑x2.val : Int) + 1)) ∧
                    (∃ x3 : BInv l,
                     ((l.length + 1 - x3.val.fst < l.length + 1 - x1.val.fst) ∧
                     (((↑x2.val : Int) + 1 = (↑x3.val.fst : Int)) ∧
                     ((l = l) ∧
                     (x1.val.snd ++ [(readA (cutR l (some (↑x1.val.fst : Int)) (some (↑x2.val : Int))), readB (cutR l (some (↑x1.val.fst : Int)) (some (↑x2.val : Int))), 1)] = x3.val.snd)))))))))) ∧
                 (¬(!longV (cutR l (some (↑x1.val.fst : Int)) (some (↑x2.val : Int)))) = true →
                  ((i64R ((↑x2.val : Int) + 1)) ∧
                  (∃ x3 : BInv l,
                   ((l.length + 1 - x3.val.fst < l.length + 1 - x1.val.fst) ∧
                   (((↑x2.val : Int) + 1 = (↑x3.val.fst : Int)) ∧
                   ((l = l) ∧
                   (x1.val.snd = x3.val.snd))))))))))) ∧
               (¬(l.getD x2.val (0, 0, 0)).fst = 0 →
                ((i64R ((↑x2.val : Int) + 1)) ∧
                (∃ x3 : JInv l x1.val.fst,
                 ((l.length - x3.val < l.length - x2.val) ∧
                 (((↑x2.val : Int) + 1 = (↑x3.val : Int)) ∧
                 (((↑x1.val.fst : Int) = (↑x1.val.fst : Int)) ∧
                 ((l = l) ∧
                 (x1.val.snd = x1.val.snd))))))))))) ∧
             (¬(↑x2.val : Int) < (↑l.length : Int) →
              ((0 ≤ (↑x1.val.fst : Int) ∧ (↑x1.val.fst : Int) ≤ (↑x2.val : Int) ∧ (↑x2.val : Int) ≤ (↑l.length : Int)) ∧
              (((cutR l (some (↑x1.val.fst : Int)) (some (↑x2.val : Int))).length ≤ 1099511627776) ∧
              (((!longV (cutR l (some (↑x1.val.fst : Int)) (some (↑x2.val : Int)))) = true →
                ((readA (cutR l (some (↑x1.val.fst : Int)) (some (↑x2.val : Int))) = readB (cutR l (some (↑x1.val.fst : Int)) (some (↑x2.val : Int))) →
                  ((i64R ((↑x2.val : Int) + 1)) ∧
                  (∃ x3 : BInv l,
                   ((l.length + 1 - x3.val.fst < l.length + 1 - x1.val.fst) ∧
                   (((↑x2.val : Int) + 1 = (↑x3.val.fst : Int)) ∧
                   ((l = l) ∧
                   (x1.val.snd = x3.val.snd))))))) ∧
                (¬readA (cutR l (some (↑x1.val.fst : Int)) (some (↑x2.val : Int))) = readB (cutR l (some (↑x1.val.fst : Int)) (some (↑x2.val : Int))) →
                 (((x1.val.snd.length + [(readA (cutR l (some (↑x1.val.fst : Int)) (some (↑x2.val : Int))), readB (cutR l (some (↑x1.val.fst : Int)) (some (↑x2.val : Int))), 1)].length) * 40 ≤ 140737488355328) ∧
                 ((i64R ((↑x2.val : Int) + 1)) ∧
                 (∃ x3 : BInv l,
                  ((l.length + 1 - x3.val.fst < l.length + 1 - x1.val.fst) ∧
                  (((↑x2.val : Int) + 1 = (↑x3.val.fst : Int)) ∧
                  ((l = l) ∧
                  (x1.val.snd ++ [(readA (cutR l (some (↑x1.val.fst : Int)) (some (↑x2.val : Int))), readB (cutR l (some (↑x1.val.fst : Int)) (some (↑x2.val : Int))), 1)] = x3.val.snd)))))))))) ∧
              (¬(!longV (cutR l (some (↑x1.val.fst : Int)) (some (↑x2.val : Int)))) = true →
               ((i64R ((↑x2.val : Int) + 1)) ∧
               (∃ x3 : BInv l,
                ((l.length + 1 - x3.val.fst < l.length + 1 - x1.val.fst) ∧
                (((↑x2.val : Int) + 1 = (↑x3.val.fst : Int)) ∧
                ((l = l) ∧
                (x1.val.snd = x3.val.snd)))))))))))))))))) ∧
         (¬(↑x1.val.fst : Int) < (↑l.length : Int) →
          ((m.length ≤ 1099511627776) ∧
          ((chkE m = 0 →
            ((∃ x2 : BInv m,
              ((0 = (↑x2.val.fst : Int)) ∧
              ((l = l) ∧
              ((x1.val.snd = x1.val.snd) ∧
              ((x2.val.snd = []) ∧
              ((m = m) ∧
              (x2.val.snd = []))))))) ∧
            (∀ x2 : BInv m,
             (((↑x2.val.fst : Int) < (↑m.length : Int) →
               ((0 ≤ (↑x2.val.fst : Int) ∧ (↑x2.val.fst : Int) < (↑m.length : Int)) ∧
               (((m.getD x2.val.fst (0, 0, 0)).fst = 0 →
                 ((i64R ((↑x2.val.fst : Int) + 1)) ∧
                 (∃ x3 : BInv m,
                  ((m.length + 1 - x3.val.fst < m.length + 1 - x2.val.fst) ∧
                  (((↑x2.val.fst : Int) + 1 = (↑x3.val.fst : Int)) ∧
                  ((l = l) ∧
                  ((x1.val.snd = x1.val.snd) ∧
                  ((m = m) ∧
                  (x2.val.snd = x3.val.snd))))))))) ∧
               (¬(m.getD x2.val.fst (0, 0, 0)).fst = 0 →
                ((∃ x3 : JInv m x2.val.fst,
                  (((↑x2.val.fst : Int) = (↑x3.val : Int)) ∧
                  (((↑x2.val.fst : Int) = (↑x2.val.fst : Int)) ∧
                  ((l = l) ∧
                  ((x1.val.snd = x1.val.snd) ∧
                  ((m = m) ∧
                  (x2.val.snd = x2.val.snd))))))) ∧
                (∀ x3 : JInv m x2.val.fst,
                 (((↑x3.val : Int) < (↑m.length : Int) →
                   ((0 ≤ (↑x3.val : Int) ∧ (↑x3.val : Int) < (↑m.length : Int)) ∧
                   (((m.getD x3.val (0, 0, 0)).fst = 0 →
                     ((0 ≤ (↑x2.val.fst : Int) ∧ (↑x2.val.fst : Int) ≤ (↑x3.val : Int) ∧ (↑x3.val : Int) ≤ (↑m.length : Int)) ∧
                     (((cutR m (some (↑x2.val.fst : Int)) (some (↑x3.val : Int))).length ≤ 1099511627776) ∧
                     (((!longV (cutR m (some (↑x2.val.fst : Int)) (some (↑x3.val : Int)))) = true →
                       ((readA (cutR m (some (↑x2.val.fst : Int)) (some (↑x3.val : Int))) = readB (cutR m (some (↑x2.val.fst : Int)) (some (↑x3.val : Int))) →
                         ((i64R ((↑x3.val : Int) + 1)) ∧
                         (∃ x4 : BInv m,
                          ((m.length + 1 - x4.val.fst < m.length + 1 - x2.val.fst) ∧
                          (((↑x3.val : Int) + 1 = (↑x4.val.fst : Int)) ∧
                          ((l = l) ∧
                          ((x1.val.snd = x1.val.snd) ∧
                          ((m = m) ∧
                          (x2.val.snd = x4.val.snd))))))))) ∧
                       (¬readA (cutR m (some (↑x2.val.fst : Int)) (some (↑x3.val : Int))) = readB (cutR m (some (↑x2.val.fst : Int)) (some (↑x3.val : Int))) →
                        (((x2.val.snd.length + [(readA (cutR m (some (↑x2.val.fst : Int)) (some (↑x3.val : Int))), readB (cutR m (some (↑x2.val.fst : Int)) (some (↑x3.val : Int))), 1)].length) * 40 ≤ 140737488355328) ∧
                        ((i64R ((↑x3.val : Int) + 1)) ∧
                        (∃ x4 : BInv m,
                         ((m.length + 1 - x4.val.fst < m.length + 1 - x2.val.fst) ∧
                         (((↑x3.val : Int) + 1 = (↑x4.val.fst : Int)) ∧
                         ((l = l) ∧
                         ((x1.val.snd = x1.val.snd) ∧
                         ((m = m) ∧
                         (x2.val.snd ++ [(readA (cutR m (some (↑x2.val.fst : Int)) (some (↑x3.val : Int))), readB (cutR m (some (↑x2.val.fst : Int)) (some (↑x3.val : Int))), 1)] = x4.val.snd)))))))))))) ∧
                     (¬(!longV (cutR m (some (↑x2.val.fst : Int)) (some (↑x3.val : Int)))) = true →
                      ((i64R ((↑x3.val : Int) + 1)) ∧
                      (∃ x4 : BInv m,
                       ((m.length + 1 - x4.val.fst < m.length + 1 - x2.val.fst) ∧
                       (((↑x3.val : Int) + 1 = (↑x4.val.fst : Int)) ∧
                       ((l = l) ∧
                       ((x1.val.snd = x1.val.snd) ∧
                       ((m = m) ∧
                       (x2.val.snd = x4.val.snd))))))))))))) ∧
                   (¬(m.getD x3.val (0, 0, 0)).fst = 0 →
                    ((i64R ((↑x3.val : Int) + 1)) ∧
                    (∃ x4 : JInv m x2.val.fst,
                     ((m.length - x4.val < m.length - x3.val) ∧
                     (((↑x3.val : Int) + 1 = (↑x4.val : Int)) ∧
                     (((↑x2.val.fst : Int) = (↑x2.val.fst : Int)) ∧
                     ((l = l) ∧
                     ((x1.val.snd = x1.val.snd) ∧
                     ((m = m) ∧
                     (x2.val.snd = x2.val.snd))))))))))))) ∧
                 (¬(↑x3.val : Int) < (↑m.length : Int) →
                  ((0 ≤ (↑x2.val.fst : Int) ∧ (↑x2.val.fst : Int) ≤ (↑x3.val : Int) ∧ (↑x3.val : Int) ≤ (↑m.length : Int)) ∧
                  (((cutR m (some (↑x2.val.fst : Int)) (some (↑x3.val : Int))).length ≤ 1099511627776) ∧
                  (((!longV (cutR m (some (↑x2.val.fst : Int)) (some (↑x3.val : Int)))) = true →
                    ((readA (cutR m (some (↑x2.val.fst : Int)) (some (↑x3.val : Int))) = readB (cutR m (some (↑x2.val.fst : Int)) (some (↑x3.val : Int))) →
                      ((i64R ((↑x3.val : Int) + 1)) ∧
                      (∃ x4 : BInv m,
                       ((m.length + 1 - x4.val.fst < m.length + 1 - x2.val.fst) ∧
                       (((↑x3.val : Int) + 1 = (↑x4.val.fst : Int)) ∧
                       ((l = l) ∧
                       ((x1.val.snd = x1.val.snd) ∧
                       ((m = m) ∧
                       (x2.val.snd = x4.val.snd))))))))) ∧
                    (¬readA (cutR m (some (↑x2.val.fst : Int)) (some (↑x3.val : Int))) = readB (cutR m (some (↑x2.val.fst : Int)) (some (↑x3.val : Int))) →
                     (((x2.val.snd.length + [(readA (cutR m (some (↑x2.val.fst : Int)) (some (↑x3.val : Int))), readB (cutR m (some (↑x2.val.fst : Int)) (some (↑x3.val : Int))), 1)].length) * 40 ≤ 140737488355328) ∧
                     ((i64R ((↑x3.val : Int) + 1)) ∧
                     (∃ x4 : BInv m,
                      ((m.length + 1 - x4.val.fst < m.length + 1 - x2.val.fst) ∧
                      (((↑x3.val : Int) + 1 = (↑x4.val.fst : Int)) ∧
                      ((l = l) ∧
                      ((x1.val.snd = x1.val.snd) ∧
                      ((m = m) ∧
                      (x2.val.snd ++ [(readA (cutR m (some (↑x2.val.fst : Int)) (some (↑x3.val : Int))), readB (cutR m (some (↑x2.val.fst : Int)) (some (↑x3.val : Int))), 1)] = x4.val.snd)))))))))))) ∧
                  (¬(!longV (cutR m (some (↑x2.val.fst : Int)) (some (↑x3.val : Int)))) = true →
                   ((i64R ((↑x3.val : Int) + 1)) ∧
                   (∃ x4 : BInv m,
                    ((m.length + 1 - x4.val.fst < m.length + 1 - x2.val.fst) ∧
                    (((↑x3.val : Int) + 1 = (↑x4.val.fst : Int)) ∧
                    ((l = l) ∧
                    ((x1.val.snd = x1.val.snd) ∧
                    ((m = m) ∧
                    (x2.val.snd = x4.val.snd)))))))))))))))))))) ∧
             (¬(↑x2.val.fst : Int) < (↑m.length : Int) →
              (((0 + l.length) * 16 ≤ 140737488355328) ∧
              (((([] ++ l).length + 1) * 16 ≤ 140737488355328) ∧
              (((([] ++ l ++ [(0, 120, 120)]).length + m.length) * 16 ≤ 140737488355328) ∧
              (((cat3 l m).length ≤ 1099511627776) ∧
              ((chkE (cat3 l m) = 0 →
                ((∃ x3 : BInv (cat3 l m),
                  ((0 = (↑x3.val.fst : Int)) ∧
                  ((l = l) ∧
                  ((x1.val.snd = x1.val.snd) ∧
                  ((m = m) ∧
                  ((x2.val.snd = x2.val.snd) ∧
                  ((cat3 l m = cat3 l m) ∧
                  (([((0 : Int), (120 : Int), (120 : Int))] = [((0 : Int), (120 : Int), (120 : Int))]) ∧
                  ((x3.val.snd = []) ∧
                  (x3.val.snd = [])))))))))) ∧
                (∀ x3 : BInv (cat3 l m),
                 (((↑x3.val.fst : Int) < (↑(cat3 l m).length : Int) →
                   ((0 ≤ (↑x3.val.fst : Int) ∧ (↑x3.val.fst : Int) < (↑(cat3 l m).length : Int)) ∧
                   ((x3.val.fst < (cat3 l m).length) ∧
                   ((((cat3 l m).getD x3.val.fst (0, 0, 0)).fst = 0 →
                     ((i64R ((↑x3.val.fst : Int) + 1)) ∧
                     (∃ x4 : BInv (cat3 l m),
                      (((cat3 l m).length + 1 - x4.val.fst < (cat3 l m).length + 1 - x3.val.fst) ∧
                      (((↑x3.val.fst : Int) + 1 = (↑x4.val.fst : Int)) ∧
                      ((l = l) ∧
                      ((x1.val.snd = x1.val.snd) ∧
                      ((m = m) ∧
                      ((x2.val.snd = x2.val.snd) ∧
                      ((cat3 l m = cat3 l m) ∧
                      (([((0 : Int), (120 : Int), (120 : Int))] = [((0 : Int), (120 : Int), (120 : Int))]) ∧
                      (x3.val.snd = x4.val.snd)))))))))))) ∧
                   (¬((cat3 l m).getD x3.val.fst (0, 0, 0)).fst = 0 →
                    ((∃ x4 : JInv (cat3 l m) x3.val.fst,
                      (((↑x3.val.fst : Int) = (↑x4.val : Int)) ∧
                      (((↑x3.val.fst : Int) = (↑x3.val.fst : Int)) ∧
                      ((l = l) ∧
                      ((x1.val.snd = x1.val.snd) ∧
                      ((m = m) ∧
                      ((x2.val.snd = x2.val.snd) ∧
                      ((cat3 l m = cat3 l m) ∧
                      (([((0 : Int), (120 : Int), (120 : Int))] = [((0 : Int), (120 : Int), (120 : Int))]) ∧
                      (x3.val.snd = x3.val.snd)))))))))) ∧
                    (∀ x4 : JInv (cat3 l m) x3.val.fst,
                     (((↑x4.val : Int) < (↑(cat3 l m).length : Int) →
                       ((0 ≤ (↑x4.val : Int) ∧ (↑x4.val : Int) < (↑(cat3 l m).length : Int)) ∧
                       ((x4.val < (cat3 l m).length) ∧
                       ((((cat3 l m).getD x4.val (0, 0, 0)).fst = 0 →
                         ((0 < (cat3 l m).length) ∧
                         ((0 ≤ (↑x3.val.fst : Int) ∧ (↑x3.val.fst : Int) ≤ (↑x4.val : Int) ∧ (↑x4.val : Int) ≤ (↑(cat3 l m).length : Int)) ∧
                         ((toN (some (↑x3.val.fst : Int)) 0 + (toN (some (↑x4.val : Int)) (cat3 l m).length - toN (some (↑x3.val.fst : Int)) 0) ≤ (cat3 l m).length) ∧
                         ((0 < toN (some (↑x4.val : Int)) (cat3 l m).length - toN (some (↑x3.val.fst : Int)) 0) ∧
                         (((cutT (cat3 l m) x3.val.fst x4.val).length ≤ 1099511627776) ∧
                         (((!longV (cutT (cat3 l m) x3.val.fst x4.val)) = true →
                           ((readA (cutT (cat3 l m) x3.val.fst x4.val) = readB (cutT (cat3 l m) x3.val.fst x4.val) →
                             ((i64R ((↑x4.val : Int) + 1)) ∧
                             (∃ x5 : BInv (cat3 l m),
                              (((cat3 l m).length + 1 - x5.val.fst < (cat3 l m).length + 1 - x3.val.fst) ∧
                              (((↑x4.val : Int) + 1 = (↑x5.val.fst : Int)) ∧
                              ((l = l) ∧
                              ((x1.val.snd = x1.val.snd) ∧
                              ((m = m) ∧
                              ((x2.val.snd = x2.val.snd) ∧
                              ((cat3 l m = cat3 l m) ∧
                              (([((0 : Int), (120 : Int), (120 : Int))] = [((0 : Int), (120 : Int), (120 : Int))]) ∧
                              (x3.val.snd = x5.val.snd)))))))))))) ∧
                           (¬readA (cutT (cat3 l m) x3.val.fst x4.val) = readB (cutT (cat3 l m) x3.val.fst x4.val) →
                            (((x3.val.snd.length + [(readA (cutT (cat3 l m) x3.val.fst x4.val), readB (cutT (cat3 l m) x3.val.fst x4.val), 1)].length) * 40 ≤ 140737488355328) ∧
                            ((i64R ((↑x4.val : Int) + 1)) ∧
                            (∃ x5 : BInv (cat3 l m),
                             (((cat3 l m).length + 1 - x5.val.fst < (cat3 l m).length + 1 - x3.val.fst) ∧
                             (((↑x4.val : Int) + 1 = (↑x5.val.fst : Int)) ∧
                             ((l = l) ∧
                             ((x1.val.snd = x1.val.snd) ∧
                             ((m = m) ∧
                             ((x2.val.snd = x2.val.snd) ∧
                             ((cat3 l m = cat3 l m) ∧
                             (([((0 : Int), (120 : Int), (120 : Int))] = [((0 : Int), (120 : Int), (120 : Int))]) ∧
                             (x3.val.snd ++ [(readA (cutT (cat3 l m) x3.val.fst x4.val), readB (cutT (cat3 l m) x3.val.fst x4.val), 1)] = x5.val.snd))))))))))))))) ∧
                         (¬(!longV (cutT (cat3 l m) x3.val.fst x4.val)) = true →
                          ((i64R ((↑x4.val : Int) + 1)) ∧
                          (∃ x5 : BInv (cat3 l m),
                           (((cat3 l m).length + 1 - x5.val.fst < (cat3 l m).length + 1 - x3.val.fst) ∧
                           (((↑x4.val : Int) + 1 = (↑x5.val.fst : Int)) ∧
                           ((l = l) ∧
                           ((x1.val.snd = x1.val.snd) ∧
                           ((m = m) ∧
                           ((x2.val.snd = x2.val.snd) ∧
                           ((cat3 l m = cat3 l m) ∧
                           (([((0 : Int), (120 : Int), (120 : Int))] = [((0 : Int), (120 : Int), (120 : Int))]) ∧
                           (x3.val.snd = x5.val.snd))))))))))))))))))) ∧
                       (¬((cat3 l m).getD x4.val (0, 0, 0)).fst = 0 →
                        ((i64R ((↑x4.val : Int) + 1)) ∧
                        (∃ x5 : JInv (cat3 l m) x3.val.fst,
                         (((cat3 l m).length - x5.val < (cat3 l m).length - x4.val) ∧
                         (((↑x4.val : Int) + 1 = (↑x5.val : Int)) ∧
                         (((↑x3.val.fst : Int) = (↑x3.val.fst : Int)) ∧
                         ((l = l) ∧
                         ((x1.val.snd = x1.val.snd) ∧
                         ((m = m) ∧
                         ((x2.val.snd = x2.val.snd) ∧
                         ((cat3 l m = cat3 l m) ∧
                         (([((0 : Int), (120 : Int), (120 : Int))] = [((0 : Int), (120 : Int), (120 : Int))]) ∧
                         (x3.val.snd = x3.val.snd))))))))))))))))) ∧
                     (¬(↑x4.val : Int) < (↑(cat3 l m).length : Int) →
                      ((0 < (cat3 l m).length) ∧
                      ((0 ≤ (↑x3.val.fst : Int) ∧ (↑x3.val.fst : Int) ≤ (↑x4.val : Int) ∧ (↑x4.val : Int) ≤ (↑(cat3 l m).length : Int)) ∧
                      ((toN (some (↑x3.val.fst : Int)) 0 + (toN (some (↑x4.val : Int)) (cat3 l m).length - toN (some (↑x3.val.fst : Int)) 0) ≤ (cat3 l m).length) ∧
                      ((0 < toN (some (↑x4.val : Int)) (cat3 l m).length - toN (some (↑x3.val.fst : Int)) 0) ∧
                      (((cutT (cat3 l m) x3.val.fst x4.val).length ≤ 1099511627776) ∧
                      (((!longV (cutT (cat3 l m) x3.val.fst x4.val)) = true →
                        ((readA (cutT (cat3 l m) x3.val.fst x4.val) = readB (cutT (cat3 l m) x3.val.fst x4.val) →
                          ((i64R ((↑x4.val : Int) + 1)) ∧
                          (∃ x5 : BInv (cat3 l m),
                           (((cat3 l m).length + 1 - x5.val.fst < (cat3 l m).length + 1 - x3.val.fst) ∧
                           (((↑x4.val : Int) + 1 = (↑x5.val.fst : Int)) ∧
                           ((l = l) ∧
                           ((x1.val.snd = x1.val.snd) ∧
                           ((m = m) ∧
                           ((x2.val.snd = x2.val.snd) ∧
                           ((cat3 l m = cat3 l m) ∧
                           (([((0 : Int), (120 : Int), (120 : Int))] = [((0 : Int), (120 : Int), (120 : Int))]) ∧
                           (x3.val.snd = x5.val.snd)))))))))))) ∧
                        (¬readA (cutT (cat3 l m) x3.val.fst x4.val) = readB (cutT (cat3 l m) x3.val.fst x4.val) →
                         (((x3.val.snd.length + [(readA (cutT (cat3 l m) x3.val.fst x4.val), readB (cutT (cat3 l m) x3.val.fst x4.val), 1)].length) * 40 ≤ 140737488355328) ∧
                         ((i64R ((↑x4.val : Int) + 1)) ∧
                         (∃ x5 : BInv (cat3 l m),
                          (((cat3 l m).length + 1 - x5.val.fst < (cat3 l m).length + 1 - x3.val.fst) ∧
                          (((↑x4.val : Int) + 1 = (↑x5.val.fst : Int)) ∧
                          ((l = l) ∧
                          ((x1.val.snd = x1.val.snd) ∧
                          ((m = m) ∧
                          ((x2.val.snd = x2.val.snd) ∧
                          ((cat3 l m = cat3 l m) ∧
                          (([((0 : Int), (120 : Int), (120 : Int))] = [((0 : Int), (120 : Int), (120 : Int))]) ∧
                          (x3.val.snd ++ [(readA (cutT (cat3 l m) x3.val.fst x4.val), readB (cutT (cat3 l m) x3.val.fst x4.val), 1)] = x5.val.snd))))))))))))))) ∧
                      (¬(!longV (cutT (cat3 l m) x3.val.fst x4.val)) = true →
                       ((i64R ((↑x4.val : Int) + 1)) ∧
                       (∃ x5 : BInv (cat3 l m),
                        (((cat3 l m).length + 1 - x5.val.fst < (cat3 l m).length + 1 - x3.val.fst) ∧
                        (((↑x4.val : Int) + 1 = (↑x5.val.fst : Int)) ∧
                        ((l = l) ∧
                        ((x1.val.snd = x1.val.snd) ∧
                        ((m = m) ∧
                        ((x2.val.snd = x2.val.snd) ∧
                        ((cat3 l m = cat3 l m) ∧
                        (([((0 : Int), (120 : Int), (120 : Int))] = [((0 : Int), (120 : Int), (120 : Int))]) ∧
                        (x3.val.snd = x5.val.snd))))))))))))))))))))))))))) ∧
                 (¬(↑x3.val.fst : Int) < (↑(cat3 l m).length : Int) →
                  (((x1.val.snd.length + x2.val.snd.length) * 40 ≤ 140737488355328) ∧
                  ((x3.val.snd.length ≤ 1099511627776) ∧
                  (decide (x3.val.snd = x1.val.snd ++ x2.val.snd) = true)))))))) ∧
              (¬chkE (cat3 l m) = 0 →
               ((chkE (cat3 l m) = 0 →
                 (((x1.val.snd.length + x2.val.snd.length) * 40 ≤ 140737488355328) ∧
                 (((0 : Nat) ≤ (1099511627776 : Nat)) ∧
                 (decide ([] = x1.val.snd ++ x2.val.snd) = true)))) ∧
               (¬chkE (cat3 l m) = 0 →
                (false = true)))))))))))))) ∧
          (¬chkE m = 0 →
           (((0 + l.length) * 16 ≤ 140737488355328) ∧
           (((([] ++ l).length + 1) * 16 ≤ 140737488355328) ∧
           (((([] ++ l ++ [(0, 120, 120)]).length + m.length) * 16 ≤ 140737488355328) ∧
           (((cat3 l m).length ≤ 1099511627776) ∧
           ((chkE (cat3 l m) = 0 →
             ((∃ x2 : BInv (cat3 l m),
               ((0 = (↑x2.val.fst : Int)) ∧
               ((l = l) ∧
               ((x1.val.snd = x1.val.snd) ∧
               ((cat3 l m = cat3 l m) ∧
               (([((0 : Int), (120 : Int), (120 : Int))] = [((0 : Int), (120 : Int), (120 : Int))]) ∧
               ((x2.val.snd = []) ∧
               (x2.val.snd = [])))))))) ∧
             (∀ x2 : BInv (cat3 l m),
              (((↑x2.val.fst : Int) < (↑(cat3 l m).length : Int) →
                ((0 ≤ (↑x2.val.fst : Int) ∧ (↑x2.val.fst : Int) < (↑(cat3 l m).length : Int)) ∧
                ((x2.val.fst < (cat3 l m).length) ∧
                ((((cat3 l m).getD x2.val.fst (0, 0, 0)).fst = 0 →
                  ((i64R ((↑x2.val.fst : Int) + 1)) ∧
                  (∃ x3 : BInv (cat3 l m),
                   (((cat3 l m).length + 1 - x3.val.fst < (cat3 l m).length + 1 - x2.val.fst) ∧
                   (((↑x2.val.fst : Int) + 1 = (↑x3.val.fst : Int)) ∧
                   ((l = l) ∧
                   ((x1.val.snd = x1.val.snd) ∧
                   ((cat3 l m = cat3 l m) ∧
                   (([((0 : Int), (120 : Int), (120 : Int))] = [((0 : Int), (120 : Int), (120 : Int))]) ∧
                   (x2.val.snd = x3.val.snd)))))))))) ∧
                (¬((cat3 l m).getD x2.val.fst (0, 0, 0)).fst = 0 →
                 ((∃ x3 : JInv (cat3 l m) x2.val.fst,
                   (((↑x2.val.fst : Int) = (↑x3.val : Int)) ∧
                   (((↑x2.val.fst : Int) = (↑x2.val.fst : Int)) ∧
                   ((l = l) ∧
                   ((x1.val.snd = x1.val.snd) ∧
                   ((cat3 l m = cat3 l m) ∧
                   (([((0 : Int), (120 : Int), (120 : Int))] = [((0 : Int), (120 : Int), (120 : Int))]) ∧
                   (x2.val.snd = x2.val.snd)))))))) ∧
                 (∀ x3 : JInv (cat3 l m) x2.val.fst,
                  (((↑x3.val : Int) < (↑(cat3 l m).length : Int) →
                    ((0 ≤ (↑x3.val : Int) ∧ (↑x3.val : Int) < (↑(cat3 l m).length : Int)) ∧
                    ((x3.val < (cat3 l m).length) ∧
                    ((((cat3 l m).getD x3.val (0, 0, 0)).fst = 0 →
                      ((0 < (cat3 l m).length) ∧
                      ((0 ≤ (↑x2.val.fst : Int) ∧ (↑x2.val.fst : Int) ≤ (↑x3.val : Int) ∧ (↑x3.val : Int) ≤ (↑(cat3 l m).length : Int)) ∧
                      ((toN (some (↑x2.val.fst : Int)) 0 + (toN (some (↑x3.val : Int)) (cat3 l m).length - toN (some (↑x2.val.fst : Int)) 0) ≤ (cat3 l m).length) ∧
                      ((0 < toN (some (↑x3.val : Int)) (cat3 l m).length - toN (some (↑x2.val.fst : Int)) 0) ∧
                      (((cutT (cat3 l m) x2.val.fst x3.val).length ≤ 1099511627776) ∧
                      (((!longV (cutT (cat3 l m) x2.val.fst x3.val)) = true →
                        ((readA (cutT (cat3 l m) x2.val.fst x3.val) = readB (cutT (cat3 l m) x2.val.fst x3.val) →
                          ((i64R ((↑x3.val : Int) + 1)) ∧
                          (∃ x4 : BInv (cat3 l m),
                           (((cat3 l m).length + 1 - x4.val.fst < (cat3 l m).length + 1 - x2.val.fst) ∧
                           (((↑x3.val : Int) + 1 = (↑x4.val.fst : Int)) ∧
                           ((l = l) ∧
                           ((x1.val.snd = x1.val.snd) ∧
                           ((cat3 l m = cat3 l m) ∧
                           (([((0 : Int), (120 : Int), (120 : Int))] = [((0 : Int), (120 : Int), (120 : Int))]) ∧
                           (x2.val.snd = x4.val.snd)))))))))) ∧
                        (¬readA (cutT (cat3 l m) x2.val.fst x3.val) = readB (cutT (cat3 l m) x2.val.fst x3.val) →
                         (((x2.val.snd.length + [(readA (cutT (cat3 l m) x2.val.fst x3.val), readB (cutT (cat3 l m) x2.val.fst x3.val), 1)].length) * 40 ≤ 140737488355328) ∧
                         ((i64R ((↑x3.val : Int) + 1)) ∧
                         (∃ x4 : BInv (cat3 l m),
                          (((cat3 l m).length + 1 - x4.val.fst < (cat3 l m).length + 1 - x2.val.fst) ∧
                          (((↑x3.val : Int) + 1 = (↑x4.val.fst : Int)) ∧
                          ((l = l) ∧
                          ((x1.val.snd = x1.val.snd) ∧
                          ((cat3 l m = cat3 l m) ∧
                          (([((0 : Int), (120 : Int), (120 : Int))] = [((0 : Int), (120 : Int), (120 : Int))]) ∧
                          (x2.val.snd ++ [(readA (cutT (cat3 l m) x2.val.fst x3.val), readB (cutT (cat3 l m) x2.val.fst x3.val), 1)] = x4.val.snd))))))))))))) ∧
                      (¬(!longV (cutT (cat3 l m) x2.val.fst x3.val)) = true →
                       ((i64R ((↑x3.val : Int) + 1)) ∧
                       (∃ x4 : BInv (cat3 l m),
                        (((cat3 l m).length + 1 - x4.val.fst < (cat3 l m).length + 1 - x2.val.fst) ∧
                        (((↑x3.val : Int) + 1 = (↑x4.val.fst : Int)) ∧
                        ((l = l) ∧
                        ((x1.val.snd = x1.val.snd) ∧
                        ((cat3 l m = cat3 l m) ∧
                        (([((0 : Int), (120 : Int), (120 : Int))] = [((0 : Int), (120 : Int), (120 : Int))]) ∧
                        (x2.val.snd = x4.val.snd))))))))))))))))) ∧
                    (¬((cat3 l m).getD x3.val (0, 0, 0)).fst = 0 →
                     ((i64R ((↑x3.val : Int) + 1)) ∧
                     (∃ x4 : JInv (cat3 l m) x2.val.fst,
                      (((cat3 l m).length - x4.val < (cat3 l m).length - x3.val) ∧
                      (((↑x3.val : Int) + 1 = (↑x4.val : Int)) ∧
                      (((↑x2.val.fst : Int) = (↑x2.val.fst : Int)) ∧
                      ((l = l) ∧
                      ((x1.val.snd = x1.val.snd) ∧
                      ((cat3 l m = cat3 l m) ∧
                      (([((0 : Int), (120 : Int), (120 : Int))] = [((0 : Int), (120 : Int), (120 : Int))]) ∧
                      (x2.val.snd = x2.val.snd))))))))))))))) ∧
                  (¬(↑x3.val : Int) < (↑(cat3 l m).length : Int) →
                   ((0 < (cat3 l m).length) ∧
                   ((0 ≤ (↑x2.val.fst : Int) ∧ (↑x2.val.fst : Int) ≤ (↑x3.val : Int) ∧ (↑x3.val : Int) ≤ (↑(cat3 l m).length : Int)) ∧
                   ((toN (some (↑x2.val.fst : Int)) 0 + (toN (some (↑x3.val : Int)) (cat3 l m).length - toN (some (↑x2.val.fst : Int)) 0) ≤ (cat3 l m).length) ∧
                   ((0 < toN (some (↑x3.val : Int)) (cat3 l m).length - toN (some (↑x2.val.fst : Int)) 0) ∧
                   (((cutT (cat3 l m) x2.val.fst x3.val).length ≤ 1099511627776) ∧
                   (((!longV (cutT (cat3 l m) x2.val.fst x3.val)) = true →
                     ((readA (cutT (cat3 l m) x2.val.fst x3.val) = readB (cutT (cat3 l m) x2.val.fst x3.val) →
                       ((i64R ((↑x3.val : Int) + 1)) ∧
                       (∃ x4 : BInv (cat3 l m),
                        (((cat3 l m).length + 1 - x4.val.fst < (cat3 l m).length + 1 - x2.val.fst) ∧
                        (((↑x3.val : Int) + 1 = (↑x4.val.fst : Int)) ∧
                        ((l = l) ∧
                        ((x1.val.snd = x1.val.snd) ∧
                        ((cat3 l m = cat3 l m) ∧
                        (([((0 : Int), (120 : Int), (120 : Int))] = [((0 : Int), (120 : Int), (120 : Int))]) ∧
                        (x2.val.snd = x4.val.snd)))))))))) ∧
                     (¬readA (cutT (cat3 l m) x2.val.fst x3.val) = readB (cutT (cat3 l m) x2.val.fst x3.val) →
                      (((x2.val.snd.length + [(readA (cutT (cat3 l m) x2.val.fst x3.val), readB (cutT (cat3 l m) x2.val.fst x3.val), 1)].length) * 40 ≤ 140737488355328) ∧
                      ((i64R ((↑x3.val : Int) + 1)) ∧
                      (∃ x4 : BInv (cat3 l m),
                       (((cat3 l m).length + 1 - x4.val.fst < (cat3 l m).length + 1 - x2.val.fst) ∧
                       (((↑x3.val : Int) + 1 = (↑x4.val.fst : Int)) ∧
                       ((l = l) ∧
                       ((x1.val.snd = x1.val.snd) ∧
                       ((cat3 l m = cat3 l m) ∧
                       (([((0 : Int), (120 : Int), (120 : Int))] = [((0 : Int), (120 : Int), (120 : Int))]) ∧
                       (x2.val.snd ++ [(readA (cutT (cat3 l m) x2.val.fst x3.val), readB (cutT (cat3 l m) x2.val.fst x3.val), 1)] = x4.val.snd))))))))))))) ∧
                   (¬(!longV (cutT (cat3 l m) x2.val.fst x3.val)) = true →
                    ((i64R ((↑x3.val : Int) + 1)) ∧
                    (∃ x4 : BInv (cat3 l m),
                     (((cat3 l m).length + 1 - x4.val.fst < (cat3 l m).length + 1 - x2.val.fst) ∧
                     (((↑x3.val : Int) + 1 = (↑x4.val.fst : Int)) ∧
                     ((l = l) ∧
                     ((x1.val.snd = x1.val.snd) ∧
                     ((cat3 l m = cat3 l m) ∧
                     (([((0 : Int), (120 : Int), (120 : Int))] = [((0 : Int), (120 : Int), (120 : Int))]) ∧
                     (x2.val.snd = x4.val.snd))))))))))))))))))))))))) ∧
              (¬(↑x2.val.fst : Int) < (↑(cat3 l m).length : Int) →
               ((chkE m = 0 →
                 ((x2.val.snd.length ≤ 1099511627776) ∧
                 (decide (x2.val.snd = x1.val.snd) = true))) ∧
               (¬chkE m = 0 →
                (false = true)))))))) ∧
           (¬chkE (cat3 l m) = 0 →
            ((chkE m = 0 →
              ((chkE (cat3 l m) = 0 →
                (((0 : Nat) ≤ (1099511627776 : Nat)) ∧
                (decide ([] = x1.val.snd) = true))) ∧
              (¬chkE (cat3 l m) = 0 →
               (false = true)))) ∧
            (¬chkE m = 0 →
             (decide (chkE (cat3 l m) = 7) = true))))))))))))))))) ∧
      (¬chkE l = 0 →
       ((m.length ≤ 1099511627776) ∧
       ((chkE m = 0 →
         ((∃ x1 : BInv m,
           ((0 = (↑x1.val.fst : Int)) ∧
           ((x1.val.snd = []) ∧
           ((m = m) ∧
           (x1.val.snd = []))))) ∧
         (∀ x1 : BInv m,
          (((↑x1.val.fst : Int) < (↑m.length : Int) →
            ((0 ≤ (↑x1.val.fst : Int) ∧ (↑x1.val.fst : Int) < (↑m.length : Int)) ∧
            (((m.getD x1.val.fst (0, 0, 0)).fst = 0 →
              ((i64R ((↑x1.val.fst : Int) + 1)) ∧
              (∃ x2 : BInv m,
               ((m.length + 1 - x2.val.fst < m.length + 1 - x1.val.fst) ∧
               (((↑x1.val.fst : Int) + 1 = (↑x2.val.fst : Int)) ∧
               ((m = m) ∧
               (x1.val.snd = x2.val.snd))))))) ∧
            (¬(m.getD x1.val.fst (0, 0, 0)).fst = 0 →
             ((∃ x2 : JInv m x1.val.fst,
               (((↑x1.val.fst : Int) = (↑x2.val : Int)) ∧
               (((↑x1.val.fst : Int) = (↑x1.val.fst : Int)) ∧
               ((m = m) ∧
               (x1.val.snd = x1.val.snd))))) ∧
             (∀ x2 : JInv m x1.val.fst,
              (((↑x2.val : Int) < (↑m.length : Int) →
                ((0 ≤ (↑x2.val : Int) ∧ (↑x2.val : Int) < (↑m.length : Int)) ∧
                (((m.getD x2.val (0, 0, 0)).fst = 0 →
                  ((0 ≤ (↑x1.val.fst : Int) ∧ (↑x1.val.fst : Int) ≤ (↑x2.val : Int) ∧ (↑x2.val : Int) ≤ (↑m.length : Int)) ∧
                  (((cutR m (some (↑x1.val.fst : Int)) (some (↑x2.val : Int))).length ≤ 1099511627776) ∧
                  (((!longV (cutR m (some (↑x1.val.fst : Int)) (some (↑x2.val : Int)))) = true →
                    ((readA (cutR m (some (↑x1.val.fst : Int)) (some (↑x2.val : Int))) = readB (cutR m (some (↑x1.val.fst : Int)) (some (↑x2.val : Int))) →
                      ((i64R ((↑x2.val : Int) + 1)) ∧
                      (∃ x3 : BInv m,
                       ((m.length + 1 - x3.val.fst < m.length + 1 - x1.val.fst) ∧
                       (((↑x2.val : Int) + 1 = (↑x3.val.fst : Int)) ∧
                       ((m = m) ∧
                       (x1.val.snd = x3.val.snd))))))) ∧
                    (¬readA (cutR m (some (↑x1.val.fst : Int)) (some (↑x2.val : Int))) = readB (cutR m (some (↑x1.val.fst : Int)) (some (↑x2.val : Int))) →
                     (((x1.val.snd.length + [(readA (cutR m (some (↑x1.val.fst : Int)) (some (↑x2.val : Int))), readB (cutR m (some (↑x1.val.fst : Int)) (some (↑x2.val : Int))), 1)].length) * 40 ≤ 140737488355328) ∧
                     ((i64R ((↑x2.val : Int) + 1)) ∧
                     (∃ x3 : BInv m,
                      ((m.length + 1 - x3.val.fst < m.length + 1 - x1.val.fst) ∧
                      (((↑x2.val : Int) + 1 = (↑x3.val.fst : Int)) ∧
                      ((m = m) ∧
                      (x1.val.snd ++ [(readA (cutR m (some (↑x1.val.fst : Int)) (some (↑x2.val : Int))), readB (cutR m (some (↑x1.val.fst : Int)) (some (↑x2.val : Int))), 1)] = x3.val.snd)))))))))) ∧
                  (¬(!longV (cutR m (some (↑x1.val.fst : Int)) (some (↑x2.val : Int)))) = true →
                   ((i64R ((↑x2.val : Int) + 1)) ∧
                   (∃ x3 : BInv m,
                    ((m.length + 1 - x3.val.fst < m.length + 1 - x1.val.fst) ∧
                    (((↑x2.val : Int) + 1 = (↑x3.val.fst : Int)) ∧
                    ((m = m) ∧
                    (x1.val.snd = x3.val.snd))))))))))) ∧
                (¬(m.getD x2.val (0, 0, 0)).fst = 0 →
                 ((i64R ((↑x2.val : Int) + 1)) ∧
                 (∃ x3 : JInv m x1.val.fst,
                  ((m.length - x3.val < m.length - x2.val) ∧
                  (((↑x2.val : Int) + 1 = (↑x3.val : Int)) ∧
                  (((↑x1.val.fst : Int) = (↑x1.val.fst : Int)) ∧
                  ((m = m) ∧
                  (x1.val.snd = x1.val.snd))))))))))) ∧
              (¬(↑x2.val : Int) < (↑m.length : Int) →
               ((0 ≤ (↑x1.val.fst : Int) ∧ (↑x1.val.fst : Int) ≤ (↑x2.val : Int) ∧ (↑x2.val : Int) ≤ (↑m.length : Int)) ∧
               (((cutR m (some (↑x1.val.fst : Int)) (some (↑x2.val : Int))).length ≤ 1099511627776) ∧
               (((!longV (cutR m (some (↑x1.val.fst : Int)) (some (↑x2.val : Int)))) = true →
                 ((readA (cutR m (some (↑x1.val.fst : Int)) (some (↑x2.val : Int))) = readB (cutR m (some (↑x1.val.fst : Int)) (some (↑x2.val : Int))) →
                   ((i64R ((↑x2.val : Int) + 1)) ∧
                   (∃ x3 : BInv m,
                    ((m.length + 1 - x3.val.fst < m.length + 1 - x1.val.fst) ∧
                    (((↑x2.val : Int) + 1 = (↑x3.val.fst : Int)) ∧
                    ((m = m) ∧
                    (x1.val.snd = x3.val.snd))))))) ∧
                 (¬readA (cutR m (some (↑x1.val.fst : Int)) (some (↑x2.val : Int))) = readB (cutR m (some (↑x1.val.fst : Int)) (some (↑x2.val : Int))) →
                  (((x1.val.snd.length + [(readA (cutR m (some (↑x1.val.fst : Int)) (some (↑x2.val : Int))), readB (cutR m (some (↑x1.val.fst : Int)) (some (↑x2.val : Int))), 1)].length) * 40 ≤ 140737488355328) ∧
                  ((i64R ((↑x2.val : Int) + 1)) ∧
                  (∃ x3 : BInv m,
                   ((m.length + 1 - x3.val.fst < m.length + 1 - x1.val.fst) ∧
                   (((↑x2.val : Int) + 1 = (↑x3.val.fst : Int)) ∧
                   ((m = m) ∧
                   (x1.val.snd ++ [(readA (cutR m (some (↑x1.val.fst : Int)) (some (↑x2.val : Int))), readB (cutR m (some (↑x1.val.fst : Int)) (some (↑x2.val : Int))), 1)] = x3.val.snd)))))))))) ∧
               (¬(!longV (cutR m (some (↑x1.val.fst : Int)) (some (↑x2.val : Int)))) = true →
                ((i64R ((↑x2.val : Int) + 1)) ∧
                (∃ x3 : BInv m,
                 ((m.length + 1 - x3.val.fst < m.length + 1 - x1.val.fst) ∧
                 (((↑x2.val : Int) + 1 = (↑x3.val.fst : Int)) ∧
                 ((m = m) ∧
                 (x1.val.snd = x3.val.snd)))))))))))))))))) ∧
          (¬(↑x1.val.fst : Int) < (↑m.length : Int) →
           (((0 + l.length) * 16 ≤ 140737488355328) ∧
           (((([] ++ l).length + 1) * 16 ≤ 140737488355328) ∧
           (((([] ++ l ++ [(0, 120, 120)]).length + m.length) * 16 ≤ 140737488355328) ∧
           (((cat3 l m).length ≤ 1099511627776) ∧
           ((chkE (cat3 l m) = 0 →
             ((∃ x2 : BInv (cat3 l m),
               ((0 = (↑x2.val.fst : Int)) ∧
               ((m = m) ∧
               ((x1.val.snd = x1.val.snd) ∧
               ((cat3 l m = cat3 l m) ∧
               (([((0 : Int), (120 : Int), (120 : Int))] = [((0 : Int), (120 : Int), (120 : Int))]) ∧
               ((x2.val.snd = []) ∧
               (x2.val.snd = [])))))))) ∧
             (∀ x2 : BInv (cat3 l m),
              (((↑x2.val.fst : Int) < (↑(cat3 l m).length : Int) →
                ((0 ≤ (↑x2.val.fst : Int) ∧ (↑x2.val.fst : Int) < (↑(cat3 l m).length : Int)) ∧
                ((x2.val.fst < (cat3 l m).length) ∧
                ((((cat3 l m).getD x2.val.fst (0, 0, 0)).fst = 0 →
                  ((i64R ((↑x2.val.fst : Int) + 1)) ∧
                  (∃ x3 : BInv (cat3 l m),
                   (((cat3 l m).length + 1 - x3.val.fst < (cat3 l m).length + 1 - x2.val.fst) ∧
                   (((↑x2.val.fst : Int) + 1 = (↑x3.val.fst : Int)) ∧
                   ((m = m) ∧
                   ((x1.val.snd = x1.val.snd) ∧
                   ((cat3 l m = cat3 l m) ∧
                   (([((0 : Int), (120 : Int), (120 : Int))] = [((0 : Int), (120 : Int), (120 : Int))]) ∧
                   (x2.val.snd = x3.val.snd)))))))))) ∧
                (¬((cat3 l m).getD x2.val.fst (0, 0, 0)).fst = 0 →
                 ((∃ x3 : JInv (cat3 l m) x2.val.fst,
                   (((↑x2.val.fst : Int) = (↑x3.val : Int)) ∧
                   (((↑x2.val.fst : Int) = (↑x2.val.fst : Int)) ∧
                   ((m = m) ∧
                   ((x1.val.snd = x1.val.snd) ∧
                   ((cat3 l m = cat3 l m) ∧
                   (([((0 : Int), (120 : Int), (120 : Int))] = [((0 : Int), (120 : Int), (120 : Int))]) ∧
                   (x2.val.snd = x2.val.snd)))))))) ∧
                 (∀ x3 : JInv (cat3 l m) x2.val.fst,
                  (((↑x3.val : Int) < (↑(cat3 l m).length : Int) →
                    ((0 ≤ (↑x3.val : Int) ∧ (↑x3.val : Int) < (↑(cat3 l m).length : Int)) ∧
                    ((x3.val < (cat3 l m).length) ∧
                    ((((cat3 l m).getD x3.val (0, 0, 0)).fst = 0 →
                      ((0 < (cat3 l m).length) ∧
                      ((0 ≤ (↑x2.val.fst : Int) ∧ (↑x2.val.fst : Int) ≤ (↑x3.val : Int) ∧ (↑x3.val : Int) ≤ (↑(cat3 l m).length : Int)) ∧
                      ((toN (some (↑x2.val.fst : Int)) 0 + (toN (some (↑x3.val : Int)) (cat3 l m).length - toN (some (↑x2.val.fst : Int)) 0) ≤ (cat3 l m).length) ∧
                      ((0 < toN (some (↑x3.val : Int)) (cat3 l m).length - toN (some (↑x2.val.fst : Int)) 0) ∧
                      (((cutT (cat3 l m) x2.val.fst x3.val).length ≤ 1099511627776) ∧
                      (((!longV (cutT (cat3 l m) x2.val.fst x3.val)) = true →
                        ((readA (cutT (cat3 l m) x2.val.fst x3.val) = readB (cutT (cat3 l m) x2.val.fst x3.val) →
                          ((i64R ((↑x3.val : Int) + 1)) ∧
                          (∃ x4 : BInv (cat3 l m),
                           (((cat3 l m).length + 1 - x4.val.fst < (cat3 l m).length + 1 - x2.val.fst) ∧
                           (((↑x3.val : Int) + 1 = (↑x4.val.fst : Int)) ∧
                           ((m = m) ∧
                           ((x1.val.snd = x1.val.snd) ∧
                           ((cat3 l m = cat3 l m) ∧
                           (([((0 : Int), (120 : Int), (120 : Int))] = [((0 : Int), (120 : Int), (120 : Int))]) ∧
                           (x2.val.snd = x4.val.snd)))))))))) ∧
                        (¬readA (cutT (cat3 l m) x2.val.fst x3.val) = readB (cutT (cat3 l m) x2.val.fst x3.val) →
                         (((x2.val.snd.length + [(readA (cutT (cat3 l m) x2.val.fst x3.val), readB (cutT (cat3 l m) x2.val.fst x3.val), 1)].length) * 40 ≤ 140737488355328) ∧
                         ((i64R ((↑x3.val : Int) + 1)) ∧
                         (∃ x4 : BInv (cat3 l m),
                          (((cat3 l m).length + 1 - x4.val.fst < (cat3 l m).length + 1 - x2.val.fst) ∧
                          (((↑x3.val : Int) + 1 = (↑x4.val.fst : Int)) ∧
                          ((m = m) ∧
                          ((x1.val.snd = x1.val.snd) ∧
                          ((cat3 l m = cat3 l m) ∧
                          (([((0 : Int), (120 : Int), (120 : Int))] = [((0 : Int), (120 : Int), (120 : Int))]) ∧
                          (x2.val.snd ++ [(readA (cutT (cat3 l m) x2.val.fst x3.val), readB (cutT (cat3 l m) x2.val.fst x3.val), 1)] = x4.val.snd))))))))))))) ∧
                      (¬(!longV (cutT (cat3 l m) x2.val.fst x3.val)) = true →
                       ((i64R ((↑x3.val : Int) + 1)) ∧
                       (∃ x4 : BInv (cat3 l m),
                        (((cat3 l m).length + 1 - x4.val.fst < (cat3 l m).length + 1 - x2.val.fst) ∧
                        (((↑x3.val : Int) + 1 = (↑x4.val.fst : Int)) ∧
                        ((m = m) ∧
                        ((x1.val.snd = x1.val.snd) ∧
                        ((cat3 l m = cat3 l m) ∧
                        (([((0 : Int), (120 : Int), (120 : Int))] = [((0 : Int), (120 : Int), (120 : Int))]) ∧
                        (x2.val.snd = x4.val.snd))))))))))))))))) ∧
                    (¬((cat3 l m).getD x3.val (0, 0, 0)).fst = 0 →
                     ((i64R ((↑x3.val : Int) + 1)) ∧
                     (∃ x4 : JInv (cat3 l m) x2.val.fst,
                      (((cat3 l m).length - x4.val < (cat3 l m).length - x3.val) ∧
                      (((↑x3.val : Int) + 1 = (↑x4.val : Int)) ∧
                      (((↑x2.val.fst : Int) = (↑x2.val.fst : Int)) ∧
                      ((m = m) ∧
                      ((x1.val.snd = x1.val.snd) ∧
                      ((cat3 l m = cat3 l m) ∧
                      (([((0 : Int), (120 : Int), (120 : Int))] = [((0 : Int), (120 : Int), (120 : Int))]) ∧
                      (x2.val.snd = x2.val.snd))))))))))))))) ∧
                  (¬(↑x3.val : Int) < (↑(cat3 l m).length : Int) →
                   ((0 < (cat3 l m).length) ∧
                   ((0 ≤ (↑x2.val.fst : Int) ∧ (↑x2.val.fst : Int) ≤ (↑x3.val : Int) ∧ (↑x3.val : Int) ≤ (↑(cat3 l m).length : Int)) ∧
                   ((toN (some (↑x2.val.fst : Int)) 0 + (toN (some (↑x3.val : Int)) (cat3 l m).length - toN (some (↑x2.val.fst : Int)) 0) ≤ (cat3 l m).length) ∧
                   ((0 < toN (some (↑x3.val : Int)) (cat3 l m).length - toN (some (↑x2.val.fst : Int)) 0) ∧
                   (((cutT (cat3 l m) x2.val.fst x3.val).length ≤ 1099511627776) ∧
                   (((!longV (cutT (cat3 l m) x2.val.fst x3.val)) = true →
                     ((readA (cutT (cat3 l m) x2.val.fst x3.val) = readB (cutT (cat3 l m) x2.val.fst x3.val) →
                       ((i64R ((↑x3.val : Int) + 1)) ∧
                       (∃ x4 : BInv (cat3 l m),
                        (((cat3 l m).length + 1 - x4.val.fst < (cat3 l m).length + 1 - x2.val.fst) ∧
                        (((↑x3.val : Int) + 1 = (↑x4.val.fst : Int)) ∧
                        ((m = m) ∧
                        ((x1.val.snd = x1.val.snd) ∧
                        ((cat3 l m = cat3 l m) ∧
                        (([((0 : Int), (120 : Int), (120 : Int))] = [((0 : Int), (120 : Int), (120 : Int))]) ∧
                        (x2.val.snd = x4.val.snd)))))))))) ∧
                     (¬readA (cutT (cat3 l m) x2.val.fst x3.val) = readB (cutT (cat3 l m) x2.val.fst x3.val) →
                      (((x2.val.snd.length + [(readA (cutT (cat3 l m) x2.val.fst x3.val), readB (cutT (cat3 l m) x2.val.fst x3.val), 1)].length) * 40 ≤ 140737488355328) ∧
                      ((i64R ((↑x3.val : Int) + 1)) ∧
                      (∃ x4 : BInv (cat3 l m),
                       (((cat3 l m).length + 1 - x4.val.fst < (cat3 l m).length + 1 - x2.val.fst) ∧
                       (((↑x3.val : Int) + 1 = (↑x4.val.fst : Int)) ∧
                       ((m = m) ∧
                       ((x1.val.snd = x1.val.snd) ∧
                       ((cat3 l m = cat3 l m) ∧
                       (([((0 : Int), (120 : Int), (120 : Int))] = [((0 : Int), (120 : Int), (120 : Int))]) ∧
                       (x2.val.snd ++ [(readA (cutT (cat3 l m) x2.val.fst x3.val), readB (cutT (cat3 l m) x2.val.fst x3.val), 1)] = x4.val.snd))))))))))))) ∧
                   (¬(!longV (cutT (cat3 l m) x2.val.fst x3.val)) = true →
                    ((i64R ((↑x3.val : Int) + 1)) ∧
                    (∃ x4 : BInv (cat3 l m),
                     (((cat3 l m).length + 1 - x4.val.fst < (cat3 l m).length + 1 - x2.val.fst) ∧
                     (((↑x3.val : Int) + 1 = (↑x4.val.fst : Int)) ∧
                     ((m = m) ∧
                     ((x1.val.snd = x1.val.snd) ∧
                     ((cat3 l m = cat3 l m) ∧
                     (([((0 : Int), (120 : Int), (120 : Int))] = [((0 : Int), (120 : Int), (120 : Int))]) ∧
                     (x2.val.snd = x4.val.snd))))))))))))))))))))))))) ∧
              (¬(↑x2.val.fst : Int) < (↑(cat3 l m).length : Int) →
               ((chkE l = 0 →
                 ((x1.val.snd.length * 40 ≤ 140737488355328) ∧
                 ((x2.val.snd.length ≤ 1099511627776) ∧
                 (decide (x2.val.snd = x1.val.snd) = true)))) ∧
               (¬chkE l = 0 →
                (false = true)))))))) ∧
           (¬chkE (cat3 l m) = 0 →
            ((chkE l = 0 →
              ((chkE (cat3 l m) = 0 →
                ((x1.val.snd.length * 40 ≤ 140737488355328) ∧
                (((0 : Nat) ≤ (1099511627776 : Nat)) ∧
                (decide ([] = x1.val.snd) = true)))) ∧
              (¬chkE (cat3 l m) = 0 →
               (false = true)))) ∧
            (¬chkE l = 0 →
             (decide (chkE (cat3 l m) = 7) = true)))))))))))))) ∧
       (¬chkE m = 0 →
        (((0 + l.length) * 16 ≤ 140737488355328) ∧
        (((([] ++ l).length + 1) * 16 ≤ 140737488355328) ∧
        (((([] ++ l ++ [(0, 120, 120)]).length + m.length) * 16 ≤ 140737488355328) ∧
        (((cat3 l m).length ≤ 1099511627776) ∧
        ((chkE (cat3 l m) = 0 →
          ((∃ x1 : BInv (cat3 l m),
            ((0 = (↑x1.val.fst : Int)) ∧
            ((cat3 l m = cat3 l m) ∧
            (([((0 : Int), (120 : Int), (120 : Int))] = [((0 : Int), (120 : Int), (120 : Int))]) ∧
            ((x1.val.snd = []) ∧
            (x1.val.snd = [])))))) ∧
          (∀ x1 : BInv (cat3 l m),
           (((↑x1.val.fst : Int) < (↑(cat3 l m).length : Int) →
             ((0 ≤ (↑x1.val.fst : Int) ∧ (↑x1.val.fst : Int) < (↑(cat3 l m).length : Int)) ∧
             ((x1.val.fst < (cat3 l m).length) ∧
             ((((cat3 l m).getD x1.val.fst (0, 0, 0)).fst = 0 →
               ((i64R ((↑x1.val.fst : Int) + 1)) ∧
               (∃ x2 : BInv (cat3 l m),
                (((cat3 l m).length + 1 - x2.val.fst < (cat3 l m).length + 1 - x1.val.fst) ∧
                (((↑x1.val.fst : Int) + 1 = (↑x2.val.fst : Int)) ∧
                ((cat3 l m = cat3 l m) ∧
                (([((0 : Int), (120 : Int), (120 : Int))] = [((0 : Int), (120 : Int), (120 : Int))]) ∧
                (x1.val.snd = x2.val.snd)))))))) ∧
             (¬((cat3 l m).getD x1.val.fst (0, 0, 0)).fst = 0 →
              ((∃ x2 : JInv (cat3 l m) x1.val.fst,
                (((↑x1.val.fst : Int) = (↑x2.val : Int)) ∧
                (((↑x1.val.fst : Int) = (↑x1.val.fst : Int)) ∧
                ((cat3 l m = cat3 l m) ∧
                (([((0 : Int), (120 : Int), (120 : Int))] = [((0 : Int), (120 : Int), (120 : Int))]) ∧
                (x1.val.snd = x1.val.snd)))))) ∧
              (∀ x2 : JInv (cat3 l m) x1.val.fst,
               (((↑x2.val : Int) < (↑(cat3 l m).length : Int) →
                 ((0 ≤ (↑x2.val : Int) ∧ (↑x2.val : Int) < (↑(cat3 l m).length : Int)) ∧
                 ((x2.val < (cat3 l m).length) ∧
                 ((((cat3 l m).getD x2.val (0, 0, 0)).fst = 0 →
                   ((0 < (cat3 l m).length) ∧
                   ((0 ≤ (↑x1.val.fst : Int) ∧ (↑x1.val.fst : Int) ≤ (↑x2.val : Int) ∧ (↑x2.val : Int) ≤ (↑(cat3 l m).length : Int)) ∧
                   ((toN (some (↑x1.val.fst : Int)) 0 + (toN (some (↑x2.val : Int)) (cat3 l m).length - toN (some (↑x1.val.fst : Int)) 0) ≤ (cat3 l m).length) ∧
                   ((0 < toN (some (↑x2.val : Int)) (cat3 l m).length - toN (some (↑x1.val.fst : Int)) 0) ∧
                   (((cutT (cat3 l m) x1.val.fst x2.val).length ≤ 1099511627776) ∧
                   (((!longV (cutT (cat3 l m) x1.val.fst x2.val)) = true →
                     ((readA (cutT (cat3 l m) x1.val.fst x2.val) = readB (cutT (cat3 l m) x1.val.fst x2.val) →
                       ((i64R ((↑x2.val : Int) + 1)) ∧
                       (∃ x3 : BInv (cat3 l m),
                        (((cat3 l m).length + 1 - x3.val.fst < (cat3 l m).length + 1 - x1.val.fst) ∧
                        (((↑x2.val : Int) + 1 = (↑x3.val.fst : Int)) ∧
                        ((cat3 l m = cat3 l m) ∧
                        (([((0 : Int), (120 : Int), (120 : Int))] = [((0 : Int), (120 : Int), (120 : Int))]) ∧
                        (x1.val.snd = x3.val.snd)))))))) ∧
                     (¬readA (cutT (cat3 l m) x1.val.fst x2.val) = readB (cutT (cat3 l m) x1.val.fst x2.val) →
                      (((x1.val.snd.length + [(readA (cutT (cat3 l m) x1.val.fst x2.val), readB (cutT (cat3 l m) x1.val.fst x2.val), 1)].length) * 40 ≤ 140737488355328) ∧
                      ((i64R ((↑x2.val : Int) + 1)) ∧
                      (∃ x3 : BInv (cat3 l m),
                       (((cat3 l m).length + 1 - x3.val.fst < (cat3 l m).length + 1 - x1.val.fst) ∧
                       (((↑x2.val : Int) + 1 = (↑x3.val.fst : Int)) ∧
                       ((cat3 l m = cat3 l m) ∧
                       (([((0 : Int), (120 : Int), (120 : Int))] = [((0 : Int), (120 : Int), (120 : Int))]) ∧
                       (x1.val.snd ++ [(readA (cutT (cat3 l m) x1.val.fst x2.val), readB (cutT (cat3 l m) x1.val.fst x2.val), 1)] = x3.val.snd))))))))))) ∧
                   (¬(!longV (cutT (cat3 l m) x1.val.fst x2.val)) = true →
                    ((i64R ((↑x2.val : Int) + 1)) ∧
                    (∃ x3 : BInv (cat3 l m),
                     (((cat3 l m).length + 1 - x3.val.fst < (cat3 l m).length + 1 - x1.val.fst) ∧
                     (((↑x2.val : Int) + 1 = (↑x3.val.fst : Int)) ∧
                     ((cat3 l m = cat3 l m) ∧
                     (([((0 : Int), (120 : Int), (120 : Int))] = [((0 : Int), (120 : Int), (120 : Int))]) ∧
                     (x1.val.snd = x3.val.snd))))))))))))))) ∧
                 (¬((cat3 l m).getD x2.val (0, 0, 0)).fst = 0 →
                  ((i64R ((↑x2.val : Int) + 1)) ∧
                  (∃ x3 : JInv (cat3 l m) x1.val.fst,
                   (((cat3 l m).length - x3.val < (cat3 l m).length - x2.val) ∧
                   (((↑x2.val : Int) + 1 = (↑x3.val : Int)) ∧
                   (((↑x1.val.fst : Int) = (↑x1.val.fst : Int)) ∧
                   ((cat3 l m = cat3 l m) ∧
                   (([((0 : Int), (120 : Int), (120 : Int))] = [((0 : Int), (120 : Int), (120 : Int))]) ∧
                   (x1.val.snd = x1.val.snd))))))))))))) ∧
               (¬(↑x2.val : Int) < (↑(cat3 l m).length : Int) →
                ((0 < (cat3 l m).length) ∧
                ((0 ≤ (↑x1.val.fst : Int) ∧ (↑x1.val.fst : Int) ≤ (↑x2.val : Int) ∧ (↑x2.val : Int) ≤ (↑(cat3 l m).length : Int)) ∧
                ((toN (some (↑x1.val.fst : Int)) 0 + (toN (some (↑x2.val : Int)) (cat3 l m).length - toN (some (↑x1.val.fst : Int)) 0) ≤ (cat3 l m).length) ∧
                ((0 < toN (some (↑x2.val : Int)) (cat3 l m).length - toN (some (↑x1.val.fst : Int)) 0) ∧
                (((cutT (cat3 l m) x1.val.fst x2.val).length ≤ 1099511627776) ∧
                (((!longV (cutT (cat3 l m) x1.val.fst x2.val)) = true →
                  ((readA (cutT (cat3 l m) x1.val.fst x2.val) = readB (cutT (cat3 l m) x1.val.fst x2.val) →
                    ((i64R ((↑x2.val : Int) + 1)) ∧
                    (∃ x3 : BInv (cat3 l m),
                     (((cat3 l m).length + 1 - x3.val.fst < (cat3 l m).length + 1 - x1.val.fst) ∧
                     (((↑x2.val : Int) + 1 = (↑x3.val.fst : Int)) ∧
                     ((cat3 l m = cat3 l m) ∧
                     (([((0 : Int), (120 : Int), (120 : Int))] = [((0 : Int), (120 : Int), (120 : Int))]) ∧
                     (x1.val.snd = x3.val.snd)))))))) ∧
                  (¬readA (cutT (cat3 l m) x1.val.fst x2.val) = readB (cutT (cat3 l m) x1.val.fst x2.val) →
                   (((x1.val.snd.length + [(readA (cutT (cat3 l m) x1.val.fst x2.val), readB (cutT (cat3 l m) x1.val.fst x2.val), 1)].length) * 40 ≤ 140737488355328) ∧
                   ((i64R ((↑x2.val : Int) + 1)) ∧
                   (∃ x3 : BInv (cat3 l m),
                    (((cat3 l m).length + 1 - x3.val.fst < (cat3 l m).length + 1 - x1.val.fst) ∧
                    (((↑x2.val : Int) + 1 = (↑x3.val.fst : Int)) ∧
                    ((cat3 l m = cat3 l m) ∧
                    (([((0 : Int), (120 : Int), (120 : Int))] = [((0 : Int), (120 : Int), (120 : Int))]) ∧
                    (x1.val.snd ++ [(readA (cutT (cat3 l m) x1.val.fst x2.val), readB (cutT (cat3 l m) x1.val.fst x2.val), 1)] = x3.val.snd))))))))))) ∧
                (¬(!longV (cutT (cat3 l m) x1.val.fst x2.val)) = true →
                 ((i64R ((↑x2.val : Int) + 1)) ∧
                 (∃ x3 : BInv (cat3 l m),
                  (((cat3 l m).length + 1 - x3.val.fst < (cat3 l m).length + 1 - x1.val.fst) ∧
                  (((↑x2.val : Int) + 1 = (↑x3.val.fst : Int)) ∧
                  ((cat3 l m = cat3 l m) ∧
                  (([((0 : Int), (120 : Int), (120 : Int))] = [((0 : Int), (120 : Int), (120 : Int))]) ∧
                  (x1.val.snd = x3.val.snd))))))))))))))))))))))) ∧
           (¬(↑x1.val.fst : Int) < (↑(cat3 l m).length : Int) →
            ((chkE l = 0 →
              ((chkE m = 0 →
                False) ∧
              (¬chkE m = 0 →
               (false = true)))) ∧
            (¬chkE l = 0 →
             (false = true)))))))) ∧
        (¬chkE (cat3 l m) = 0 →
         ((chkE l = 0 →
           ((chkE m = 0 →
             ((chkE (cat3 l m) = 0 →
               False) ∧
             (¬chkE (cat3 l m) = 0 →
              (false = true)))) ∧
           (¬chkE m = 0 →
            (decide (chkE (cat3 l m) = 7) = true)))) ∧
         (¬chkE l = 0 →
          (decide (chkE (cat3 l m) = 7) = true))))))))))))))))))))) (by kernel_rfl) (by
    have hlen : (cat3 l m).length = l.length + m.length + 1 := by simp [cat3]; omega
    have hyes : chkE l = 0 → chkE m = 0 → chkE (cat3 l m) = 0 := fun a b => by rw [chk_cat, if_pos ⟨a, b⟩]
    have hno : ¬ (chkE l = 0 ∧ chkE m = 0) → chkE (cat3 l m) = 7 := fun a => by rw [chk_cat, if_neg a]
    refine ⟨fun h => by simp at h, fun _ => ⟨by unfold i64R; omega, fun _ => trivial, fun h0 => ⟨by omega, fun hl => ?_, fun hl => ⟨by omega, fun hm => ?_, fun hm => by have hbad := hno (fun q => hl q.1); exact ⟨by omega, by simp only [List.nil_append]; omega, by simp only [List.nil_append, List.length_append, List.length_cons, List.length_nil]; omega, by rw [hlen]; omega, fun hc => absurd (hbad.symm.trans hc) (by decide), fun _ => ⟨fun q => absurd q hl, fun _ => by rw [decide_eq_true_eq]; exact hbad⟩⟩⟩⟩⟩⟩
    · exact ⟨⟨⟨(0, []), by omega, by rw [List.drop_zero, Nat.sub_zero, List.nil_append]; rfl⟩, rfl, by (repeat' apply And.intro) <;> rfl⟩, by
        rintro ⟨⟨i, o⟩, hi, hv⟩
        dsimp only at hi hv ⊢
        have hroom := blks_room hv
        have hend : ¬ (i : Int) < ((l).length : Int) → o = ((runs' (l)).map blkOf).flatten := fun h => by rw [← hv, List.drop_of_length_le (by omega), runsN_nil]; simp
        refine ⟨fun h => ⟨by omega, fun h1 => ⟨by unfold i64R; omega, ⟨⟨(i + 1, o), by dsimp only; omega, by dsimp only; rw [← runs_match (by omega) h1]; exact hv⟩, by dsimp only; omega, by push_cast; rfl, by (repeat' apply And.intro) <;> rfl⟩⟩, fun h1 => ⟨⟨⟨i, Nat.le_refl _, by omega, by rw [Nat.sub_self, List.take_zero]; rfl⟩, rfl, by (repeat' apply And.intro) <;> rfl⟩, ?_⟩⟩, fun h => ?_⟩
        · rintro ⟨j, hij, hj, ha⟩
          dsimp only at hij hj ha ⊢
          have hlt : ((l).length ≤ j ∨ ((l).getD j (0, 0, 0)).1 = 0) → i < j := fun h9 => by
            rcases Nat.lt_or_ge i j with q | q
            · exact q
            · have : i = j := by omega
              subst this
              rcases h9 with h9 | h9
              · omega
              · exact absurd h9 h1
          exact ⟨fun h2 => ⟨by omega, fun h3 => by have hlt := hlt (.inr h3); exact ⟨by omega, by have := cut_len (l) i j; omega, fun k1 => ⟨fun k2 => ⟨by unfold i64R; omega, ⟨⟨(j + 1, o), by dsimp only; omega, by have := blk_step (b := []) hv (runs_row (by omega) h1 hj hij ha (.inr h3)) (blkOf_eq k2); rw [List.append_nil] at this; exact this⟩, by dsimp only; omega, by push_cast; rfl, by (repeat' apply And.intro) <;> rfl⟩⟩, fun k2 => ⟨by simp only [List.length_cons, List.length_nil]; omega, by unfold i64R; omega, ⟨⟨(j + 1, _), by dsimp only; omega, blk_step hv (runs_row (by omega) h1 hj hij ha (.inr h3)) (blkOf_new k1 k2)⟩, by dsimp only; omega, by push_cast; rfl, by (repeat' apply And.intro) <;> rfl⟩⟩⟩, fun k1 => ⟨by unfold i64R; omega, ⟨⟨(j + 1, o), by dsimp only; omega, by have := blk_step (b := []) hv (runs_row (by omega) h1 hj hij ha (.inr h3)) (blkOf_long k1); rw [List.append_nil] at this; exact this⟩, by dsimp only; omega, by push_cast; rfl, by (repeat' apply And.intro) <;> rfl⟩⟩⟩, fun h3 => ⟨by unfold i64R; omega, ⟨⟨j + 1, by omega, by omega, take_step hij (by omega) ha h3⟩, by dsimp only; omega, by push_cast; rfl, by (repeat' apply And.intro) <;> rfl⟩⟩⟩, fun h2 => by have hlt := hlt (.inl (by omega)); exact ⟨by omega, by have := cut_len (l) i j; omega, fun k1 => ⟨fun k2 => ⟨by unfold i64R; omega, ⟨⟨(j + 1, o), by dsimp only; omega, by have := blk_step (b := []) hv (runs_row (by omega) h1 hj hij ha (.inl (by omega))) (blkOf_eq k2); rw [List.append_nil] at this; exact this⟩, by dsimp only; omega, by push_cast; rfl, by (repeat' apply And.intro) <;> rfl⟩⟩, fun k2 => ⟨by simp only [List.length_cons, List.length_nil]; omega, by unfold i64R; omega, ⟨⟨(j + 1, _), by dsimp only; omega, blk_step hv (runs_row (by omega) h1 hj hij ha (.inl (by omega))) (blkOf_new k1 k2)⟩, by dsimp only; omega, by push_cast; rfl, by (repeat' apply And.intro) <;> rfl⟩⟩⟩, fun k1 => ⟨by unfold i64R; omega, ⟨⟨(j + 1, o), by dsimp only; omega, by have := blk_step (b := []) hv (runs_row (by omega) h1 hj hij ha (.inl (by omega))) (blkOf_long k1); rw [List.append_nil] at this; exact this⟩, by dsimp only; omega, by push_cast; rfl, by (repeat' apply And.intro) <;> rfl⟩⟩⟩⟩
        · have e1 := hend h
          have r1 := hroom
          exact ⟨by omega, fun hm => by
            have hok := hyes hl hm
            exact ⟨⟨⟨(0, []), by omega, by rw [List.drop_zero, Nat.sub_zero, List.nil_append]; rfl⟩, rfl, by (repeat' apply And.intro) <;> rfl⟩, by
              rintro ⟨⟨i, o⟩, hi, hv⟩
              dsimp only at hi hv ⊢
              have hroom := blks_room hv
              have hend : ¬ (i : Int) < ((m).length : Int) → o = ((runs' (m)).map blkOf).flatten := fun h => by rw [← hv, List.drop_of_length_le (by omega), runsN_nil]; simp
              refine ⟨fun h => ⟨by omega, fun h1 => ⟨by unfold i64R; omega, ⟨⟨(i + 1, o), by dsimp only; omega, by dsimp only; rw [← runs_match (by omega) h1]; exact hv⟩, by dsimp only; omega, by push_cast; rfl, by (repeat' apply And.intro) <;> rfl⟩⟩, fun h1 => ⟨⟨⟨i, Nat.le_refl _, by omega, by rw [Nat.sub_self, List.take_zero]; rfl⟩, rfl, by (repeat' apply And.intro) <;> rfl⟩, ?_⟩⟩, fun h => ?_⟩
              · rintro ⟨j, hij, hj, ha⟩
                dsimp only at hij hj ha ⊢
                have hlt : ((m).length ≤ j ∨ ((m).getD j (0, 0, 0)).1 = 0) → i < j := fun h9 => by
                  rcases Nat.lt_or_ge i j with q | q
                  · exact q
                  · have : i = j := by omega
                    subst this
                    rcases h9 with h9 | h9
                    · omega
                    · exact absurd h9 h1
                exact ⟨fun h2 => ⟨by omega, fun h3 => by have hlt := hlt (.inr h3); exact ⟨by omega, by have := cut_len (m) i j; omega, fun k1 => ⟨fun k2 => ⟨by unfold i64R; omega, ⟨⟨(j + 1, o), by dsimp only; omega, by have := blk_step (b := []) hv (runs_row (by omega) h1 hj hij ha (.inr h3)) (blkOf_eq k2); rw [List.append_nil] at this; exact this⟩, by dsimp only; omega, by push_cast; rfl, by (repeat' apply And.intro) <;> rfl⟩⟩, fun k2 => ⟨by simp only [List.length_cons, List.length_nil]; omega, by unfold i64R; omega, ⟨⟨(j + 1, _), by dsimp only; omega, blk_step hv (runs_row (by omega) h1 hj hij ha (.inr h3)) (blkOf_new k1 k2)⟩, by dsimp only; omega, by push_cast; rfl, by (repeat' apply And.intro) <;> rfl⟩⟩⟩, fun k1 => ⟨by unfold i64R; omega, ⟨⟨(j + 1, o), by dsimp only; omega, by have := blk_step (b := []) hv (runs_row (by omega) h1 hj hij ha (.inr h3)) (blkOf_long k1); rw [List.append_nil] at this; exact this⟩, by dsimp only; omega, by push_cast; rfl, by (repeat' apply And.intro) <;> rfl⟩⟩⟩, fun h3 => ⟨by unfold i64R; omega, ⟨⟨j + 1, by omega, by omega, take_step hij (by omega) ha h3⟩, by dsimp only; omega, by push_cast; rfl, by (repeat' apply And.intro) <;> rfl⟩⟩⟩, fun h2 => by have hlt := hlt (.inl (by omega)); exact ⟨by omega, by have := cut_len (m) i j; omega, fun k1 => ⟨fun k2 => ⟨by unfold i64R; omega, ⟨⟨(j + 1, o), by dsimp only; omega, by have := blk_step (b := []) hv (runs_row (by omega) h1 hj hij ha (.inl (by omega))) (blkOf_eq k2); rw [List.append_nil] at this; exact this⟩, by dsimp only; omega, by push_cast; rfl, by (repeat' apply And.intro) <;> rfl⟩⟩, fun k2 => ⟨by simp only [List.length_cons, List.length_nil]; omega, by unfold i64R; omega, ⟨⟨(j + 1, _), by dsimp only; omega, blk_step hv (runs_row (by omega) h1 hj hij ha (.inl (by omega))) (blkOf_new k1 k2)⟩, by dsimp only; omega, by push_cast; rfl, by (repeat' apply And.intro) <;> rfl⟩⟩⟩, fun k1 => ⟨by unfold i64R; omega, ⟨⟨(j + 1, o), by dsimp only; omega, by have := blk_step (b := []) hv (runs_row (by omega) h1 hj hij ha (.inl (by omega))) (blkOf_long k1); rw [List.append_nil] at this; exact this⟩, by dsimp only; omega, by push_cast; rfl, by (repeat' apply And.intro) <;> rfl⟩⟩⟩⟩
              · have e2 := hend h
                have r2 := hroom
                exact ⟨by omega, by simp only [List.nil_append]; omega, by simp only [List.nil_append, List.length_append, List.length_cons, List.length_nil]; omega, by rw [hlen]; omega, fun hc => ⟨⟨⟨(0, []), by omega, by rw [List.drop_zero, Nat.sub_zero, List.nil_append]; rfl⟩, rfl, by (repeat' apply And.intro) <;> rfl⟩, by
                  rintro ⟨⟨i, o⟩, hi, hv⟩
                  dsimp only at hi hv ⊢
                  have hroom := blks_room hv
                  have hend : ¬ (i : Int) < ((cat3 l m).length : Int) → o = ((runs' (cat3 l m)).map blkOf).flatten := fun h => by rw [← hv, List.drop_of_length_le (by omega), runsN_nil]; simp
                  refine ⟨fun h => ⟨by omega, by omega, fun h1 => ⟨by unfold i64R; omega, ⟨⟨(i + 1, o), by dsimp only; omega, by dsimp only; rw [← runs_match (by omega) h1]; exact hv⟩, by dsimp only; omega, by push_cast; rfl, by (repeat' apply And.intro) <;> rfl⟩⟩, fun h1 => ⟨⟨⟨i, Nat.le_refl _, by omega, by rw [Nat.sub_self, List.take_zero]; rfl⟩, rfl, by (repeat' apply And.intro) <;> rfl⟩, ?_⟩⟩, fun h => ?_⟩
                  · rintro ⟨j, hij, hj, ha⟩
                    dsimp only at hij hj ha ⊢
                    have hlt : ((cat3 l m).length ≤ j ∨ ((cat3 l m).getD j (0, 0, 0)).1 = 0) → i < j := fun h9 => by
                      rcases Nat.lt_or_ge i j with q | q
                      · exact q
                      · have : i = j := by omega
                        subst this
                        rcases h9 with h9 | h9
                        · omega
                        · exact absurd h9 h1
                    exact ⟨fun h2 => ⟨by omega, by omega, fun h3 => by have hlt := hlt (.inr h3); exact ⟨by omega, by omega, by simp only [toN, Int.toNat_natCast]; omega, by simp only [toN, Int.toNat_natCast]; omega, by have := cut_len (cat3 l m) i j; exact Nat.le_trans this (by omega), fun k1 => ⟨fun k2 => ⟨by unfold i64R; omega, ⟨⟨(j + 1, o), by dsimp only; omega, by have := blk_step (b := []) hv (runs_row (by omega) h1 hj hij ha (.inr h3)) (blkOf_eq k2); rw [List.append_nil] at this; exact this⟩, by dsimp only; omega, by push_cast; rfl, by (repeat' apply And.intro) <;> rfl⟩⟩, fun k2 => ⟨by simp only [List.length_cons, List.length_nil]; omega, by unfold i64R; omega, ⟨⟨(j + 1, _), by dsimp only; omega, blk_step hv (runs_row (by omega) h1 hj hij ha (.inr h3)) (blkOf_new k1 k2)⟩, by dsimp only; omega, by push_cast; rfl, by (repeat' apply And.intro) <;> rfl⟩⟩⟩, fun k1 => ⟨by unfold i64R; omega, ⟨⟨(j + 1, o), by dsimp only; omega, by have := blk_step (b := []) hv (runs_row (by omega) h1 hj hij ha (.inr h3)) (blkOf_long k1); rw [List.append_nil] at this; exact this⟩, by dsimp only; omega, by push_cast; rfl, by (repeat' apply And.intro) <;> rfl⟩⟩⟩, fun h3 => ⟨by unfold i64R; omega, ⟨⟨j + 1, by omega, by omega, take_step hij (by omega) ha h3⟩, by dsimp only; omega, by push_cast; rfl, by (repeat' apply And.intro) <;> rfl⟩⟩⟩, fun h2 => by have hlt := hlt (.inl (by omega)); exact ⟨by omega, by omega, by simp only [toN, Int.toNat_natCast]; omega, by simp only [toN, Int.toNat_natCast]; omega, by have := cut_len (cat3 l m) i j; exact Nat.le_trans this (by omega), fun k1 => ⟨fun k2 => ⟨by unfold i64R; omega, ⟨⟨(j + 1, o), by dsimp only; omega, by have := blk_step (b := []) hv (runs_row (by omega) h1 hj hij ha (.inl (by omega))) (blkOf_eq k2); rw [List.append_nil] at this; exact this⟩, by dsimp only; omega, by push_cast; rfl, by (repeat' apply And.intro) <;> rfl⟩⟩, fun k2 => ⟨by simp only [List.length_cons, List.length_nil]; omega, by unfold i64R; omega, ⟨⟨(j + 1, _), by dsimp only; omega, blk_step hv (runs_row (by omega) h1 hj hij ha (.inl (by omega))) (blkOf_new k1 k2)⟩, by dsimp only; omega, by push_cast; rfl, by (repeat' apply And.intro) <;> rfl⟩⟩⟩, fun k1 => ⟨by unfold i64R; omega, ⟨⟨(j + 1, o), by dsimp only; omega, by have := blk_step (b := []) hv (runs_row (by omega) h1 hj hij ha (.inl (by omega))) (blkOf_long k1); rw [List.append_nil] at this; exact this⟩, by dsimp only; omega, by push_cast; rfl, by (repeat' apply And.intro) <;> rfl⟩⟩⟩⟩
                  · exact ⟨by omega, by rw [hlen] at hroom; omega, by rw [decide_eq_true_eq]; exact (hend h).trans (by rw [runs_cat, List.map_append, List.flatten_append, ← e1, ← e2])⟩⟩, fun hc => absurd hok hc⟩⟩, fun hm => by have hbad := hno (fun q => hm q.2); exact ⟨by omega, by simp only [List.nil_append]; omega, by simp only [List.nil_append, List.length_append, List.length_cons, List.length_nil]; omega, by rw [hlen]; omega, fun hc => absurd (hbad.symm.trans hc) (by decide), fun _ => ⟨fun q => absurd q hm, fun _ => by rw [decide_eq_true_eq]; exact hbad⟩⟩⟩⟩
    · exact ⟨⟨⟨(0, []), by omega, by rw [List.drop_zero, Nat.sub_zero, List.nil_append]; rfl⟩, rfl, by (repeat' apply And.intro) <;> rfl⟩, by
        rintro ⟨⟨i, o⟩, hi, hv⟩
        dsimp only at hi hv ⊢
        have hroom := blks_room hv
        have hend : ¬ (i : Int) < ((m).length : Int) → o = ((runs' (m)).map blkOf).flatten := fun h => by rw [← hv, List.drop_of_length_le (by omega), runsN_nil]; simp
        refine ⟨fun h => ⟨by omega, fun h1 => ⟨by unfold i64R; omega, ⟨⟨(i + 1, o), by dsimp only; omega, by dsimp only; rw [← runs_match (by omega) h1]; exact hv⟩, by dsimp only; omega, by push_cast; rfl, by (repeat' apply And.intro) <;> rfl⟩⟩, fun h1 => ⟨⟨⟨i, Nat.le_refl _, by omega, by rw [Nat.sub_self, List.take_zero]; rfl⟩, rfl, by (repeat' apply And.intro) <;> rfl⟩, ?_⟩⟩, fun h => ?_⟩
        · rintro ⟨j, hij, hj, ha⟩
          dsimp only at hij hj ha ⊢
          have hlt : ((m).length ≤ j ∨ ((m).getD j (0, 0, 0)).1 = 0) → i < j := fun h9 => by
            rcases Nat.lt_or_ge i j with q | q
            · exact q
            · have : i = j := by omega
              subst this
              rcases h9 with h9 | h9
              · omega
              · exact absurd h9 h1
          exact ⟨fun h2 => ⟨by omega, fun h3 => by have hlt := hlt (.inr h3); exact ⟨by omega, by have := cut_len (m) i j; omega, fun k1 => ⟨fun k2 => ⟨by unfold i64R; omega, ⟨⟨(j + 1, o), by dsimp only; omega, by have := blk_step (b := []) hv (runs_row (by omega) h1 hj hij ha (.inr h3)) (blkOf_eq k2); rw [List.append_nil] at this; exact this⟩, by dsimp only; omega, by push_cast; rfl, by (repeat' apply And.intro) <;> rfl⟩⟩, fun k2 => ⟨by simp only [List.length_cons, List.length_nil]; omega, by unfold i64R; omega, ⟨⟨(j + 1, _), by dsimp only; omega, blk_step hv (runs_row (by omega) h1 hj hij ha (.inr h3)) (blkOf_new k1 k2)⟩, by dsimp only; omega, by push_cast; rfl, by (repeat' apply And.intro) <;> rfl⟩⟩⟩, fun k1 => ⟨by unfold i64R; omega, ⟨⟨(j + 1, o), by dsimp only; omega, by have := blk_step (b := []) hv (runs_row (by omega) h1 hj hij ha (.inr h3)) (blkOf_long k1); rw [List.append_nil] at this; exact this⟩, by dsimp only; omega, by push_cast; rfl, by (repeat' apply And.intro) <;> rfl⟩⟩⟩, fun h3 => ⟨by unfold i64R; omega, ⟨⟨j + 1, by omega, by omega, take_step hij (by omega) ha h3⟩, by dsimp only; omega, by push_cast; rfl, by (repeat' apply And.intro) <;> rfl⟩⟩⟩, fun h2 => by have hlt := hlt (.inl (by omega)); exact ⟨by omega, by have := cut_len (m) i j; omega, fun k1 => ⟨fun k2 => ⟨by unfold i64R; omega, ⟨⟨(j + 1, o), by dsimp only; omega, by have := blk_step (b := []) hv (runs_row (by omega) h1 hj hij ha (.inl (by omega))) (blkOf_eq k2); rw [List.append_nil] at this; exact this⟩, by dsimp only; omega, by push_cast; rfl, by (repeat' apply And.intro) <;> rfl⟩⟩, fun k2 => ⟨by simp only [List.length_cons, List.length_nil]; omega, by unfold i64R; omega, ⟨⟨(j + 1, _), by dsimp only; omega, blk_step hv (runs_row (by omega) h1 hj hij ha (.inl (by omega))) (blkOf_new k1 k2)⟩, by dsimp only; omega, by push_cast; rfl, by (repeat' apply And.intro) <;> rfl⟩⟩⟩, fun k1 => ⟨by unfold i64R; omega, ⟨⟨(j + 1, o), by dsimp only; omega, by have := blk_step (b := []) hv (runs_row (by omega) h1 hj hij ha (.inl (by omega))) (blkOf_long k1); rw [List.append_nil] at this; exact this⟩, by dsimp only; omega, by push_cast; rfl, by (repeat' apply And.intro) <;> rfl⟩⟩⟩⟩
        · have hbad := hno (fun q => hl q.1)
          exact ⟨by omega, by simp only [List.nil_append]; omega, by simp only [List.nil_append, List.length_append, List.length_cons, List.length_nil]; omega, by rw [hlen]; omega, fun hc => absurd (hbad.symm.trans hc) (by decide), fun _ => ⟨fun q => absurd q hl, fun _ => by rw [decide_eq_true_eq]; exact hbad⟩⟩⟩))
end Go.EA

