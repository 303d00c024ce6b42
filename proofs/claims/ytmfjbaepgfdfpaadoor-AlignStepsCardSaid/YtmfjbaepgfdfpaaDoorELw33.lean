/- Layer 4: steps are the document's; a law. Conditions: none. (Printed by a program of this project's own.) -/
import Derived.Test.YtmfjbaepgfdfpaaDoorETc
import Derived.Test.YtmfjbaepgfdfpaaDoorELw8
import Derived.Test.YtmfjbaepgfdfpaaDoorEK9
import Derived.KernelRfl
set_option linter.unusedVariables false
set_option linter.unusedSimpArgs false
set_option maxRecDepth 100000
set_option maxHeartbeats 0
namespace Go.EA
open F
theorem same_stp {x y : Stp} : sameS (List.take 3 (List.drop 0 (StpT.cells x))) (List.take 3 (List.drop 0 (StpT.cells y))) = true ↔ x = y := by
  obtain ⟨a, b, c⟩ := x
  obtain ⟨a', b', c'⟩ := y
  simp [Ty.cells, sameS, SL.i?, SL.b?]
theorem take_stp {a b : List Stp} {i : Nat} (h : a.take i = b.take i) (ha : i < a.length) (hb : i < b.length) (he : a.getD i (0, 0, 0) = b.getD i (0, 0, 0)) : a.take (i + 1) = b.take (i + 1) := by
  rw [List.take_add_one, List.take_add_one, h, List.getElem?_eq_getElem ha, List.getElem?_eq_getElem hb]
  rw [List.getD_eq_getElem?_getD, List.getD_eq_getElem?_getD, List.getElem?_eq_getElem ha, List.getElem?_eq_getElem hb] at he
  simp at he
  rw [he]
theorem stepsV_len (s t : List UInt8) : (stepsV s t).length ≤ 128 := by
  unfold stepsV
  split
  · have h := walkL_len (tokR s).reverse (tokR t).reverse
    have h1 := tok64 (s := s)
    have h2 := tok64 (s := t)
    simp only [List.length_reverse] at h ⊢
    omega
  · simp
def P218 : (List (Int × Int × Int)) × (List (Int × Int × Int)) → List SV := fun (a, b) => [.one (.row (.pair (.int .i64) (.pair (.int .i32) (.int .i32))) a), .one (.row (.pair (.int .i64) (.pair (.int .i32) (.int .i32))) b)]
def R218 : (List (Int × Int × Int)) × (List (Int × Int × Int)) → SV × List Prop := fun (a, b) => (.one (.bool (decide (a = b))), [a.length ≤ 1099511627776])
def K218 : Con := ⟨true, [some (.pair (.int .i64) (.pair (.int .i32) (.int .i32))), some (.pair (.int .i64) (.pair (.int .i32) (.int .i32)))], fun xs => match xs with | [.one (.row (.pair (.int .i64) (.pair (.int .i32) (.int .i32))) a), .one (.row (.pair (.int .i64) (.pair (.int .i32) (.int .i32))) b)] => some (R218 (a, b)) | _ => none⟩
noncomputable def G218 : GP := conG P218 R218
theorem P218_inj : ∀ a b, (P218 a).map den0 = (P218 b).map den0 → a = b := by
  rintro ⟨a0, a1⟩ ⟨b0, b1⟩ h
  simp only [P218, List.map_cons, List.map_nil, den0, den0L, List.cons.injEq, AV.one.injEq, AV.agg.injEq, Lf.int.injEq, Lf.str.injEq, Lf.bool.injEq, Lf.vrow.injEq, and_true, true_and, and_assoc] at h
  obtain ⟨h0, h1⟩ := h
  have h0 := row_inj h0
  have h1 := row_inj h1
  subst h0 h1
  rfl
theorem K218_ok : ConG G218 K218 := conG_of P218_inj (fun ⟨_, _⟩ ⟨_, _⟩ => rfl) (fun ⟨_, _⟩ => rfl) fun xs r h => by
  simp only [K218] at h
  split at h
  · cases h; rename_i a b; exact ⟨(a, b), rfl, rfl⟩
  · cases h
theorem pr218 {S : SC} (hB : SB S)  (h218 : S.has 218 f218) : PrOk S 218 (pureP G218) := by
  refine prM hB [] [] trivial trivial h218 (fun ⟨a, b⟩ => ⟨rfl, rfl, rfl⟩) (fun (a, b) => fun f id T L => match f, id with
      | 218, 0 => some (.inv { i : Nat // i ≤ a.length ∧ a.take i = b.take i } (fun x => ([(13, .one (.int .i64 x.1))], [])) (fun x => a.length - x.1))
      | _, _ => none) 600 ?_
  rintro ⟨a, b⟩ hc
  have hc1 : a.length ≤ 1099511627776 := hc.1
  refine VC.use (p :=
    (((↑a.length : Int) = (↑b.length : Int) →
      ((∃ x1 : { i : Nat // i ≤ a.length ∧ List.take i a = List.take i b },
        ((a = a) ∧
        ((b = b) ∧
        (((↑a.length : Int) = (↑a.length : Int)) ∧
        (0 = (↑x1.val : Int)))))) ∧
      (∀ x1 : { i : Nat // i ≤ a.length ∧ List.take i a = List.take i b },
       (((↑x1.val : Int) < (↑a.length : Int) →
         ((0 ≤ (↑x1.val : Int) ∧ (↑x1.val : Int) < (↑a.length : Int)) ∧
         ((0 ≤ (↑x1.val : Int) ∧ (↑x1.val : Int) < (↑b.length : Int)) ∧
         (((!sameS (List.take 3 (List.drop 0 (((Ty.int IntKind.i64).pair ((Ty.int IntKind.i32).pair (Ty.int IntKind.i32))).cells (a.getD x1.val (0, 0, 0))))) (List.take 3 (List.drop 0 (((Ty.int IntKind.i64).pair ((Ty.int IntKind.i32).pair (Ty.int IntKind.i32))).cells (b.getD x1.val (0, 0, 0)))))) = true →
           (false = decide (a = b))) ∧
         (¬(!sameS (List.take 3 (List.drop 0 (((Ty.int IntKind.i64).pair ((Ty.int IntKind.i32).pair (Ty.int IntKind.i32))).cells (a.getD x1.val (0, 0, 0))))) (List.take 3 (List.drop 0 (((Ty.int IntKind.i64).pair ((Ty.int IntKind.i32).pair (Ty.int IntKind.i32))).cells (b.getD x1.val (0, 0, 0)))))) = true →
          ((i64R ((↑x1.val : Int) + 1)) ∧
          (∃ x2 : { i : Nat // i ≤ a.length ∧ List.take i a = List.take i b },
           ((a.length - x2.val < a.length - x1.val) ∧
           ((a = a) ∧
           ((b = b) ∧
           (((↑a.length : Int) = (↑a.length : Int)) ∧
           ((↑x1.val : Int) + 1 = (↑x2.val : Int))))))))))))) ∧
       (¬(↑x1.val : Int) < (↑a.length : Int) →
        (true = decide (a = b))))))) ∧
    (¬(↑a.length : Int) = (↑b.length : Int) →
     (false = decide (a = b))))) (by kernel_rfl) ?_
  refine ⟨fun hl => ⟨⟨⟨0, by omega, rfl⟩, rfl, rfl, rfl, rfl⟩, ?_⟩, fun h => (decide_eq_false (fun e => h (by rw [e]))).symm⟩
  rintro ⟨i, hi, ht⟩
  dsimp only at hi ht ⊢
  refine ⟨fun h => ⟨by omega, by omega, fun h1 => ?_, fun h1 => ⟨by unfold i64R; omega, ⟨⟨i + 1, by omega, take_stp ht (by omega) (by omega) (same_stp.1 (by simpa using h1))⟩, by dsimp only; omega, rfl, rfl, rfl, by push_cast; rfl⟩⟩⟩, fun h => ?_⟩
  · refine (decide_eq_false fun e => ?_).symm
    subst e
    rw [same_stp.2 rfl] at h1
    cases h1
  · refine (decide_eq_true ?_).symm
    rwa [List.take_of_length_le (by omega), List.take_of_length_le (by omega)] at ht
theorem w200 {S : SC} (hB : SB S) (q213 : PrOk S 213 (pureP G213)) (q214 : PrOk S 214 (pureP G214)) (q215 : PrOk S 215 (pureP G215)) (q216 : PrOk S 216 (pureP G216)) (q217 : PrOk S 217 (pureP G217)) (q218 : PrOk S 218 (pureP G218)) (h200 : S.has 200 f200) (s : List UInt8) (t : List UInt8) : MF S 200 [] [den0 (.one (.str s)), den0 (.one (.str t))] (hl []) fun v _ => v = .one (.bool true) :=
  mfM hB [] [⟨213, G213, K213⟩, ⟨214, G214, K214⟩, ⟨215, G215, K215⟩, ⟨216, G216, K216⟩, ⟨217, G217, K217⟩, ⟨218, G218, K218⟩] trivial ⟨⟨q213, K213_ok⟩, ⟨q214, K214_ok⟩, ⟨q215, K215_ok⟩, ⟨q216, K216_ok⟩, ⟨q217, K217_ok⟩, ⟨q218, K218_ok⟩, trivial⟩ h200 (v := .one .tt) (xs := [.one (.str s), .one (.str t)]) rfl rfl rfl (fun f id T L => match f, id with
      | 200, 3055 => some (.rnd 1)
      | 200, 3060 => some (.rnd 1)
      | _, _ => none) 900 (VC.use (p :=
    (((!true) = true →
      (false = true)) ∧
    (¬(!true) = true →
     ((2000 < (↑s.length : Int) →
       True) ∧
     (¬2000 < (↑s.length : Int) →
      ((2000 < (↑t.length : Int) →
        True) ∧
      (¬2000 < (↑t.length : Int) →
       ((s.length ≤ 1099511627776) ∧
       ((t.length ≤ 1099511627776) ∧
       ((s.length ≤ 1099511627776) ∧
       ((t.length ≤ 1099511627776) ∧
       ((s.length ≤ 1099511627776) ∧
       ((t.length ≤ 1099511627776) ∧
       ((s.length ≤ 1099511627776) ∧
       ((t.length ≤ 1099511627776) ∧
       (((stepsV s t).length ≤ 1099511627776) ∧
       ((decide (stepsV s t = stepsV s t) = true →
         ((twoE s t = twoE s t) ∧
         ((distV s t = distV s t) ∧
         (decide (twoE s t = twoE s t) = true)))) ∧
       (¬decide (stepsV s t = stepsV s t) = true →
        (false = true))))))))))))))))))) (by kernel_rfl) (by
    have hs := stepsV_len s t
    refine ⟨fun h => by simp at h, fun _ => ⟨fun _ => trivial, fun h1 => ⟨fun _ => trivial, fun h2 => ⟨by omega, by omega, by omega, by omega, by omega, by omega, by omega, by omega, by omega, fun _ => ⟨rfl, rfl, decide_eq_true rfl⟩, fun h => absurd (decide_eq_true rfl) h⟩⟩⟩⟩))
end Go.EA

