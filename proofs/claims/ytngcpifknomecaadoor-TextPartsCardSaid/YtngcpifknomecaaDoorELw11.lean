/- Layer 2: pieces stand one behind the other. Conditions: none. (Printed by a program of this project's own.) -/
import Derived.Test.YtngcpifknomecaaDoorEAf1
import Derived.Test.YtngcpifknomecaaDoorEAf2
import Derived.Test.YtngcpifknomecaaDoorEK9
import Derived.Test.YtngcpifknomecaaDoorEMean6
import Derived.Test.YtngcpifknomecaaDoorEPrim2
import Derived.Test.YtngcpifknomecaaDoorERf
import Derived.Test.YtngcpifknomecaaDoorERu
import Derived.Test.YtngcpifknomecaaDoorESpan2
import Derived.Test.YtngcpifknomecaaDoorESp1
import Derived.Test.YtngcpifknomecaaDoorESp2
import Derived.Test.YtngcpifknomecaaDoorESpan3
import Derived.KernelRfl
set_option linter.unusedVariables false
set_option linter.unusedSimpArgs false
set_option maxRecDepth 100000
set_option maxHeartbeats 0
namespace Go.EA
open F
def atN (l : List (Int × Int × Bool)) : Nat → Int
  | 0 => 0
  | j + 1 => (l.getD j (0, 0, false)).2.1
theorem sp_empty {s : List UInt8} (hs : s.length ≤ 4000) (h : spE s = 0) (h1 : (spL s).length = 0) : s = [] := by
  have hk := (spE_ok (by omega)).1 h
  have e := (sp_ok (s := s) (by omega) hk).1
  rw [e, spans_len] at h1
  have h2 : rn s = [] := by
    cases hr : rn s with
    | nil => rfl
    | cons r q => exact absurd (List.eq_nil_of_length_eq_zero h1) (grp_ne (by rw [hr]; simp))
  rw [← encL_rn hk, h2]; rfl
theorem w11 {S : SC} (hB : SB S) (q26 : PrOk S 26 (pureP G26)) (q27 : PrOk S 27 (pureP G27)) (q17 : PrOk S 17 (pureP G17)) (q35 : PrOk S 35 (pureP G35)) (q41 : PrOk S 41 (pureP G41)) (h11 : S.has 11 f11) (s : List UInt8) : MF S 11 [] [den0 (.one (.str s))] (hl []) fun v _ => v = .one (.bool true) :=
  mfM hB [] [⟨26, G26, K26⟩, ⟨27, G27, K27⟩, ⟨17, G17, K17⟩, ⟨35, G35, K35⟩, ⟨41, G41, K41⟩] trivial ⟨⟨q26, K26_ok⟩, ⟨q27, K27_ok⟩, ⟨q17, K17_ok⟩, ⟨q35, K35_ok⟩, ⟨q41, K41_ok⟩, trivial⟩ h11 (v := .one .tt) (xs := [.one (.str s)]) rfl rfl rfl (fun f id T L => match f, id with
      | 11, 0 => some (.inv { i : Nat // i ≤ (spL s).length } (fun x => ([(41, .one (.int .i64 x.1)), (7, .one (.int .i64 (atN (spL s) x.1)))], [])) (fun x => (spL s).length - x.1))
      | 11, 2 => match T.getD 91 .junk with | .one (.row (.int .i32) r) => some (.inv { j : Nat // j ≤ r.length } (fun x => ([(93, .one (.int .i64 x.1))], [])) (fun x => r.length - x.1)) | _ => none
      | _, _ => none) 800 (VC.use (p :=
    (((!true) = true →
      (false = true)) ∧
    (¬(!true) = true →
     ((4000 < (↑s.length : Int) →
       True) ∧
     (¬4000 < (↑s.length : Int) →
      ((spE s = 0 →
        ((∃ x1 : { i : Nat // i ≤ (spL s).length },
          ((s = s) ∧
          ((spL s = spL s) ∧
          ((0 = atN (spL s) x1.val) ∧
          ((spL s = spL s) ∧
          (((↑(spL s).length : Int) = (↑(spL s).length : Int)) ∧
          (0 = (↑x1.val : Int)))))))) ∧
        (∀ x1 : { i : Nat // i ≤ (spL s).length },
         (((↑x1.val : Int) < (↑(spL s).length : Int) →
           ((0 ≤ (↑x1.val : Int) ∧ (↑x1.val : Int) < (↑(spL s).length : Int)) ∧
           ((((spL s).getD x1.val (0, 0, false)).fst = atN (spL s) x1.val →
             ((((spL s).getD x1.val (0, 0, false)).snd.fst ≤ ((spL s).getD x1.val (0, 0, false)).fst →
               (false = true)) ∧
             (¬((spL s).getD x1.val (0, 0, false)).snd.fst ≤ ((spL s).getD x1.val (0, 0, false)).fst →
              (((↑s.length : Int) < ((spL s).getD x1.val (0, 0, false)).snd.fst →
                (false = true)) ∧
              (¬(↑s.length : Int) < ((spL s).getD x1.val (0, 0, false)).snd.fst →
               ((0 < (↑x1.val : Int) →
                 ((i64R ((↑x1.val : Int) - 1)) ∧
                 ((0 ≤ (↑x1.val : Int) - 1 ∧ (↑x1.val : Int) - 1 < (↑(spL s).length : Int)) ∧
                 ((decide (((spL s).getD ((↑x1.val : Int) - 1).toNat (0, 0, false)).snd.snd = ((spL s).getD x1.val (0, 0, false)).snd.snd) = true →
                   (false = true)) ∧
                 (¬decide (((spL s).getD ((↑x1.val : Int) - 1).toNat (0, 0, false)).snd.snd = ((spL s).getD x1.val (0, 0, false)).snd.snd) = true →
                  ((0 ≤ ((spL s).getD x1.val (0, 0, false)).fst ∧ ((spL s).getD x1.val (0, 0, false)).fst ≤ ((spL s).getD x1.val (0, 0, false)).snd.fst ∧ ((spL s).getD x1.val (0, 0, false)).snd.fst ≤ (↑s.length : Int)) ∧
                  (((cutR s (some ((spL s).getD x1.val (0, 0, false)).fst) (some ((spL s).getD x1.val (0, 0, false)).snd.fst)).length ≤ 1099511627776) ∧
                  ((decE (cutR s (some ((spL s).getD x1.val (0, 0, false)).fst) (some ((spL s).getD x1.val (0, 0, false)).snd.fst)) = 0 →
                    ((∃ x2 : { j : Nat // j ≤ (decR (cutR s (some ((spL s).getD x1.val (0, 0, false)).fst) (some ((spL s).getD x1.val (0, 0, false)).snd.fst))).length },
                      ((s = s) ∧
                      ((spL s = spL s) ∧
                      ((spL s = spL s) ∧
                      (((↑(spL s).length : Int) = (↑(spL s).length : Int)) ∧
                      (((↑x1.val : Int) = (↑x1.val : Int)) ∧
                      ((decR (cutR s (some ((spL s).getD x1.val (0, 0, false)).fst) (some ((spL s).getD x1.val (0, 0, false)).snd.fst)) = decR (cutR s (some ((spL s).getD x1.val (0, 0, false)).fst) (some ((spL s).getD x1.val (0, 0, false)).snd.fst))) ∧
                      (((↑(decR (cutR s (some ((spL s).getD x1.val (0, 0, false)).fst) (some ((spL s).getD x1.val (0, 0, false)).snd.fst))).length : Int) = (↑(decR (cutR s (some ((spL s).getD x1.val (0, 0, false)).fst) (some ((spL s).getD x1.val (0, 0, false)).snd.fst))).length : Int)) ∧
                      ((0 = (↑x2.val : Int)) ∧
                      ((((spL s).getD x1.val (0, 0, false)).fst = ((spL s).getD x1.val (0, 0, false)).fst) ∧
                      ((((spL s).getD x1.val (0, 0, false)).snd.fst = ((spL s).getD x1.val (0, 0, false)).snd.fst) ∧
                      (((spL s).getD x1.val (0, 0, false)).snd.snd = ((spL s).getD x1.val (0, 0, false)).snd.snd)))))))))))) ∧
                    (∀ x2 : { j : Nat // j ≤ (decR (cutR s (some ((spL s).getD x1.val (0, 0, false)).fst) (some ((spL s).getD x1.val (0, 0, false)).snd.fst))).length },
                     (((↑x2.val : Int) < (↑(decR (cutR s (some ((spL s).getD x1.val (0, 0, false)).fst) (some ((spL s).getD x1.val (0, 0, false)).snd.fst))).length : Int) →
                       ((0 ≤ (↑x2.val : Int) ∧ (↑x2.val : Int) < (↑(decR (cutR s (some ((spL s).getD x1.val (0, 0, false)).fst) (some ((spL s).getD x1.val (0, 0, false)).snd.fst))).length : Int)) ∧
                       (((!decide (letterB ((decR (cutR s (some ((spL s).getD x1.val (0, 0, false)).fst) (some ((spL s).getD x1.val (0, 0, false)).snd.fst))).getD x2.val 0) = ((spL s).getD x1.val (0, 0, false)).snd.snd)) = true →
                         (false = true)) ∧
                       (¬(!decide (letterB ((decR (cutR s (some ((spL s).getD x1.val (0, 0, false)).fst) (some ((spL s).getD x1.val (0, 0, false)).snd.fst))).getD x2.val 0) = ((spL s).getD x1.val (0, 0, false)).snd.snd)) = true →
                        ((i64R ((↑x2.val : Int) + 1)) ∧
                        (∃ x3 : { j : Nat // j ≤ (decR (cutR s (some ((spL s).getD x1.val (0, 0, false)).fst) (some ((spL s).getD x1.val (0, 0, false)).snd.fst))).length },
                         (((decR (cutR s (some ((spL s).getD x1.val (0, 0, false)).fst) (some ((spL s).getD x1.val (0, 0, false)).snd.fst))).length - x3.val < (decR (cutR s (some ((spL s).getD x1.val (0, 0, false)).fst) (some ((spL s).getD x1.val (0, 0, false)).snd.fst))).length - x2.val) ∧
                         ((s = s) ∧
                         ((spL s = spL s) ∧
                         ((spL s = spL s) ∧
                         (((↑(spL s).length : Int) = (↑(spL s).length : Int)) ∧
                         (((↑x1.val : Int) = (↑x1.val : Int)) ∧
                         ((decR (cutR s (some ((spL s).getD x1.val (0, 0, false)).fst) (some ((spL s).getD x1.val (0, 0, false)).snd.fst)) = decR (cutR s (some ((spL s).getD x1.val (0, 0, false)).fst) (some ((spL s).getD x1.val (0, 0, false)).snd.fst))) ∧
                         (((↑(decR (cutR s (some ((spL s).getD x1.val (0, 0, false)).fst) (some ((spL s).getD x1.val (0, 0, false)).snd.fst))).length : Int) = (↑(decR (cutR s (some ((spL s).getD x1.val (0, 0, false)).fst) (some ((spL s).getD x1.val (0, 0, false)).snd.fst))).length : Int)) ∧
                         (((↑x2.val : Int) + 1 = (↑x3.val : Int)) ∧
                         ((((spL s).getD x1.val (0, 0, false)).fst = ((spL s).getD x1.val (0, 0, false)).fst) ∧
                         ((((spL s).getD x1.val (0, 0, false)).snd.fst = ((spL s).getD x1.val (0, 0, false)).snd.fst) ∧
                         (((spL s).getD x1.val (0, 0, false)).snd.snd = ((spL s).getD x1.val (0, 0, false)).snd.snd)))))))))))))))))) ∧
                     (¬(↑x2.val : Int) < (↑(decR (cutR s (some ((spL s).getD x1.val (0, 0, false)).fst) (some ((spL s).getD x1.val (0, 0, false)).snd.fst))).length : Int) →
                      ((i64R ((↑x1.val : Int) + 1)) ∧
                      (∃ x3 : { i : Nat // i ≤ (spL s).length },
                       (((spL s).length - x3.val < (spL s).length - x1.val) ∧
                       ((s = s) ∧
                       ((spL s = spL s) ∧
                       ((((spL s).getD x1.val (0, 0, false)).snd.fst = atN (spL s) x3.val) ∧
                       ((spL s = spL s) ∧
                       (((↑(spL s).length : Int) = (↑(spL s).length : Int)) ∧
                       ((↑x1.val : Int) + 1 = (↑x3.val : Int))))))))))))))) ∧
                  (¬decE (cutR s (some ((spL s).getD x1.val (0, 0, false)).fst) (some ((spL s).getD x1.val (0, 0, false)).snd.fst)) = 0 →
                   (false = true)))))))))) ∧
               (¬0 < (↑x1.val : Int) →
                ((0 ≤ ((spL s).getD x1.val (0, 0, false)).fst ∧ ((spL s).getD x1.val (0, 0, false)).fst ≤ ((spL s).getD x1.val (0, 0, false)).snd.fst ∧ ((spL s).getD x1.val (0, 0, false)).snd.fst ≤ (↑s.length : Int)) ∧
                (((cutR s (some ((spL s).getD x1.val (0, 0, false)).fst) (some ((spL s).getD x1.val (0, 0, false)).snd.fst)).length ≤ 1099511627776) ∧
                ((decE (cutR s (some ((spL s).getD x1.val (0, 0, false)).fst) (some ((spL s).getD x1.val (0, 0, false)).snd.fst)) = 0 →
                  ((∃ x2 : { j : Nat // j ≤ (decR (cutR s (some ((spL s).getD x1.val (0, 0, false)).fst) (some ((spL s).getD x1.val (0, 0, false)).snd.fst))).length },
                    ((s = s) ∧
                    ((spL s = spL s) ∧
                    ((spL s = spL s) ∧
                    (((↑(spL s).length : Int) = (↑(spL s).length : Int)) ∧
                    (((↑x1.val : Int) = (↑x1.val : Int)) ∧
                    ((decR (cutR s (some ((spL s).getD x1.val (0, 0, false)).fst) (some ((spL s).getD x1.val (0, 0, false)).snd.fst)) = decR (cutR s (some ((spL s).getD x1.val (0, 0, false)).fst) (some ((spL s).getD x1.val (0, 0, false)).snd.fst))) ∧
                    (((↑(decR (cutR s (some ((spL s).getD x1.val (0, 0, false)).fst) (some ((spL s).getD x1.val (0, 0, false)).snd.fst))).length : Int) = (↑(decR (cutR s (some ((spL s).getD x1.val (0, 0, false)).fst) (some ((spL s).getD x1.val (0, 0, false)).snd.fst))).length : Int)) ∧
                    ((0 = (↑x2.val : Int)) ∧
                    ((((spL s).getD x1.val (0, 0, false)).fst = ((spL s).getD x1.val (0, 0, false)).fst) ∧
                    ((((spL s).getD x1.val (0, 0, false)).snd.fst = ((spL s).getD x1.val (0, 0, false)).snd.fst) ∧
                    (((spL s).getD x1.val (0, 0, false)).snd.snd = ((spL s).getD x1.val (0, 0, false)).snd.snd)))))))))))) ∧
                  (∀ x2 : { j : Nat // j ≤ (decR (cutR s (some ((spL s).getD x1.val (0, 0, false)).fst) (some ((spL s).getD x1.val (0, 0, false)).snd.fst))).length },
                   (((↑x2.val : Int) < (↑(decR (cutR s (some ((spL s).getD x1.val (0, 0, false)).fst) (some ((spL s).getD x1.val (0, 0, false)).snd.fst))).length : Int) →
                     ((0 ≤ (↑x2.val : Int) ∧ (↑x2.val : Int) < (↑(decR (cutR s (some ((spL s).getD x1.val (0, 0, false)).fst) (some ((spL s).getD x1.val (0, 0, false)).snd.fst))).length : Int)) ∧
                     (((!decide (letterB ((decR (cutR s (some ((spL s).getD x1.val (0, 0, false)).fst) (some ((spL s).getD x1.val (0, 0, false)).snd.fst))).getD x2.val 0) = ((spL s).getD x1.val (0, 0, false)).snd.snd)) = true →
                       (false = true)) ∧
                     (¬(!decide (letterB ((decR (cutR s (some ((spL s).getD x1.val (0, 0, false)).fst) (some ((spL s).getD x1.val (0, 0, false)).snd.fst))).getD x2.val 0) = ((spL s).getD x1.val (0, 0, false)).snd.snd)) = true →
                      ((i64R ((↑x2.val : Int) + 1)) ∧
                      (∃ x3 : { j : Nat // j ≤ (decR (cutR s (some ((spL s).getD x1.val (0, 0, false)).fst) (some ((spL s).getD x1.val (0, 0, false)).snd.fst))).length },
                       (((decR (cutR s (some ((spL s).getD x1.val (0, 0, false)).fst) (some ((spL s).getD x1.val (0, 0, false)).snd.fst))).length - x3.val < (decR (cutR s (some ((spL s).getD x1.val (0, 0, false)).fst) (some ((spL s).getD x1.val (0, 0, false)).snd.fst))).length - x2.val) ∧
                       ((s = s) ∧
                       ((spL s = spL s) ∧
                       ((spL s = spL s) ∧
                       (((↑(spL s).length : Int) = (↑(spL s).length : Int)) ∧
                       (((↑x1.val : Int) = (↑x1.val : Int)) ∧
                       ((decR (cutR s (some ((spL s).getD x1.val (0, 0, false)).fst) (some ((spL s).getD x1.val (0, 0, false)).snd.fst)) = decR (cutR s (some ((spL s).getD x1.val (0, 0, false)).fst) (some ((spL s).getD x1.val (0, 0, false)).snd.fst))) ∧
                       (((↑(decR (cutR s (some ((spL s).getD x1.val (0, 0, false)).fst) (some ((spL s).getD x1.val (0, 0, false)).snd.fst))).length : Int) = (↑(decR (cutR s (some ((spL s).getD x1.val (0, 0, false)).fst) (some ((spL s).getD x1.val (0, 0, false)).snd.fst))).length : Int)) ∧
                       (((↑x2.val : Int) + 1 = (↑x3.val : Int)) ∧
                       ((((spL s).getD x1.val (0, 0, false)).fst = ((spL s).getD x1.val (0, 0, false)).fst) ∧
                       ((((spL s).getD x1.val (0, 0, false)).snd.fst = ((spL s).getD x1.val (0, 0, false)).snd.fst) ∧
                       (((spL s).getD x1.val (0, 0, false)).snd.snd = ((spL s).getD x1.val (0, 0, false)).snd.snd)))))))))))))))))) ∧
                   (¬(↑x2.val : Int) < (↑(decR (cutR s (some ((spL s).getD x1.val (0, 0, false)).fst) (some ((spL s).getD x1.val (0, 0, false)).snd.fst))).length : Int) →
                    ((i64R ((↑x1.val : Int) + 1)) ∧
                    (∃ x3 : { i : Nat // i ≤ (spL s).length },
                     (((spL s).length - x3.val < (spL s).length - x1.val) ∧
                     ((s = s) ∧
                     ((spL s = spL s) ∧
                     ((((spL s).getD x1.val (0, 0, false)).snd.fst = atN (spL s) x3.val) ∧
                     ((spL s = spL s) ∧
                     (((↑(spL s).length : Int) = (↑(spL s).length : Int)) ∧
                     ((↑x1.val : Int) + 1 = (↑x3.val : Int))))))))))))))) ∧
                (¬decE (cutR s (some ((spL s).getD x1.val (0, 0, false)).fst) (some ((spL s).getD x1.val (0, 0, false)).snd.fst)) = 0 →
                 (false = true)))))))))))) ∧
           (¬((spL s).getD x1.val (0, 0, false)).fst = atN (spL s) x1.val →
            (false = true))))) ∧
         (¬(↑x1.val : Int) < (↑(spL s).length : Int) →
          ((atN (spL s) x1.val = (↑s.length : Int) →
            ((decide (spE s = 0) && decide (spL s = spL s)) = true)) ∧
          (¬atN (spL s) x1.val = (↑s.length : Int) →
           (false = true)))))))) ∧
      (¬spE s = 0 →
       ((s.length ≤ 1099511627776) ∧
       (((↑(spL s).length : Int) = 0 →
         (decide (decE s = spE s) = true)) ∧
       (¬(↑(spL s).length : Int) = 0 →
        (false = true))))))))))) (by kernel_rfl) (by
    have hn := spL_len s
    refine ⟨fun h => by simp at h, fun _ => ⟨fun _ => trivial, fun h1 => ⟨fun h2 => ?_, fun h2 => ?_⟩⟩⟩
    · refine ⟨⟨⟨0, Nat.zero_le _⟩, rfl, rfl, rfl, rfl, rfl, rfl⟩, ?_⟩
      rintro ⟨i, hi⟩
      dsimp only
      refine ⟨fun h => ?_, fun h => ?_⟩
      · have ha := spL_at (s := s) (i := i) (by omega)
        have hat : atN (spL s) (i + 1) = ((spL s).getD i (0, 0, false)).2.1 := rfl
        have hat0 : ((spL s).getD i (0, 0, false)).1 = atN (spL s) i := by
          cases i with
          | zero => exact ha.fst rfl
          | succ j => exact (ha.nxt j rfl).1.symm
        have hprev : 0 < (i : Int) → ¬ decide (((spL s).getD ((i : Int) - 1).toNat (0, 0, false)).2.2 = ((spL s).getD i (0, 0, false)).2.2) = true := by
          intro h0
          obtain ⟨j, rfl⟩ : ∃ j, i = j + 1 := ⟨i - 1, by omega⟩
          rw [show (((j + 1 : Nat) : Int) - 1).toNat = j by omega]
          have := (ha.nxt j rfl).2
          simpa using this
        have hlo := ha.lo
        have hlt := ha.lt
        have hhi := ha.hi
        have hok := ha.ok
        have his := ha.is
        clear ha
        generalize (spL s).getD i (0, 0, false) = x at *
        rw [show cutR s (some x.1) (some x.2.1) = (s.drop x.1.toNat).take (x.2.1.toNat - x.1.toNat) from rfl]
        have hlen : ((s.drop x.1.toNat).take (x.2.1.toNat - x.1.toNat)).length ≤ s.length := by rw [List.length_take, List.length_drop]; omega
        generalize (s.drop x.1.toNat).take (x.2.1.toNat - x.1.toNat) = P at *
        have hE : decE P = 0 := decE_zero.2 hok
        have hR : rn P = decR P := by unfold decR rn; rw [if_pos hok]
        rw [hR] at his
        clear hR hok
        have hdl := decR_len P
        generalize decR P = l at *
        refine ⟨by omega, fun _ => ⟨fun h3 => by omega, fun _ => ⟨fun h3 => by omega, fun _ => ⟨fun h3 => ⟨by unfold i64R; omega, by omega, fun h4 => absurd h4 (hprev h3), fun _ => ?_⟩, fun h3 => ?_⟩⟩⟩, fun h3 => absurd hat0 h3⟩
        all_goals
          refine ⟨by omega, by omega, fun _ => ⟨⟨⟨0, Nat.zero_le _⟩, rfl, rfl, rfl, rfl, rfl, rfl, rfl, rfl, rfl, rfl, rfl⟩, ?_⟩, fun h4 => absurd hE h4⟩
          rintro ⟨j, hj⟩
          dsimp only
          refine ⟨fun h5 => ⟨by omega, fun h6 => ?_, fun _ => ⟨by unfold i64R; omega, ⟨j + 1, by omega⟩, by show _ - (j + 1) < _ - j; omega, rfl, rfl, rfl, rfl, rfl, rfl, rfl, by push_cast; rfl, rfl, rfl, rfl⟩⟩, fun h5 => ⟨by unfold i64R; omega, ⟨i + 1, by omega⟩, by show _ - (i + 1) < _ - i; omega, rfl, rfl, hat.symm, rfl, rfl, by push_cast; rfl⟩⟩
          have hj' : j < l.length := by omega
          rw [List.getD_eq_getElem?_getD, List.getElem?_eq_getElem hj'] at h6
          have h7 := his l[j] (List.getElem_mem hj')
          have h6 : (!decide (letterB l[j] = x.2.2)) = true := h6
          rw [decide_eq_true h7] at h6
          cases h6
      · have hend : atN (spL s) i = s.length := by
          cases i with
          | zero => rw [sp_empty (by omega) h2 (by omega)]; rfl
          | succ j => exact (spL_at (s := s) (i := j) (by omega)).lst (by omega)
        exact ⟨fun _ => by rw [h2]; simp, fun h3 => absurd hend h3⟩
    · have hk : decOk s = false := by
        cases hk : decOk s
        · rfl
        · exact absurd ((spE_ok (by omega)).2 hk) h2
      obtain ⟨e1, e2⟩ := sp_bad (s := s) (by omega) hk
      have e3 : decE s = 3 := by unfold decE; rw [hk]; rfl
      rw [e1, e2, e3]
      exact ⟨by omega, fun _ => rfl, fun h => absurd rfl h⟩))
end Go.EA
