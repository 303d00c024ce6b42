/- Layer 2: tokens, comparisons. Conditions: none. (Printed by a program of this project's own.) -/
import Derived.Test.YtngcpifknomecaaDoorEAf1
import Derived.Test.YtngcpifknomecaaDoorEAf2
import Derived.Test.YtngcpifknomecaaDoorEK9
import Derived.Test.YtngcpifknomecaaDoorEMean6
import Derived.Test.YtngcpifknomecaaDoorEPrim2
import Derived.Test.YtngcpifknomecaaDoorERf
import Derived.Test.YtngcpifknomecaaDoorERu
import Derived.Test.YtngcpifknomecaaDoorESpan2
import Derived.Test.YtngcpifknomecaaDoorESp1
import Derived.KernelRfl
set_option linter.unusedVariables false
set_option linter.unusedSimpArgs false
set_option maxRecDepth 100000
set_option maxHeartbeats 0
namespace Go.EA
open F
theorem eq_end {α : Type} {a b : List α} {i : Nat} (h : ¬ (i : Int) < a.length) (hl : a.length = b.length) (ht : a.take i = b.take i) : a = b := by
  rwa [List.take_of_length_le (by omega), List.take_of_length_le (by omega)] at ht
theorem eq_step {α : Type} {a b : List α} {i : Nat} (d : α) (h : (i : Int) < a.length) (hl : a.length = b.length) (ht : a.take i = b.take i) (he : a.getD i d = b.getD i d) : a.take (i + 1) = b.take (i + 1) := by
  have h1 : i < a.length := by omega
  have h2 : i < b.length := by omega
  rw [List.getD_eq_getElem?_getD, List.getD_eq_getElem?_getD, List.getElem?_eq_getElem h1, List.getElem?_eq_getElem h2] at he
  rw [List.take_add_one, List.take_add_one, ht, List.getElem?_eq_getElem h1, List.getElem?_eq_getElem h2]
  have he : a[i] = b[i] := he
  rw [he]
theorem same_sp (x y : Int × Int × Bool) : sameS (List.take 3 (List.drop 0 ((Ty.pair (.int .i64) (.pair (.int .i64) .bool)).cells x))) (List.take 3 (List.drop 0 ((Ty.pair (.int .i64) (.pair (.int .i64) .bool)).cells y))) = decide (x = y) := by
  obtain ⟨x0, x1, x2⟩ := x
  obtain ⟨y0, y1, y2⟩ := y
  simp [Ty.cells, sameS, SL.i?, SL.b?]
theorem toks_no {s : List UInt8} {l : List (Int × Int × Bool)} {i : Nat} (h : i < l.length) (hb : (l.getD i (0, 0, false)).2.2 = false) : toks s (l.take (i + 1)) = toks s (l.take i) := by
  rw [List.getD_eq_getElem?_getD, List.getElem?_eq_getElem h] at hb
  have hb : l[i].2.2 = false := hb
  unfold toks
  rw [List.take_add_one, List.getElem?_eq_getElem h, List.filter_append]
  simp [hb]
theorem toks_yes {s : List UInt8} {l : List (Int × Int × Bool)} {i : Nat} (h : i < l.length) (hb : (l.getD i (0, 0, false)).2.2 = true) : toks s (l.take (i + 1)) = toks s (l.take i) ++ [(s.drop (l.getD i (0, 0, false)).1.toNat).take ((l.getD i (0, 0, false)).2.1.toNat - (l.getD i (0, 0, false)).1.toNat)] := by
  rw [List.getD_eq_getElem?_getD, List.getElem?_eq_getElem h] at hb ⊢
  have hb : l[i].2.2 = true := hb
  unfold toks
  rw [List.take_add_one, List.getElem?_eq_getElem h, List.filter_append]
  simp [hb]
def P63 : (List (Int × Int × Bool)) × (List (Int × Int × Bool)) → List SV := fun (a, b) => [.one (.row (.pair (.int .i64) (.pair (.int .i64) .bool)) a), .one (.row (.pair (.int .i64) (.pair (.int .i64) .bool)) b)]
def R63 : (List (Int × Int × Bool)) × (List (Int × Int × Bool)) → SV × List Prop := fun (a, b) => (.one (.bool (decide (a = b))), [a.length ≤ 1099511627776])
def K63 : Con := ⟨[some (.pair (.int .i64) (.pair (.int .i64) .bool)), some (.pair (.int .i64) (.pair (.int .i64) .bool))], fun xs => match xs with | [.one (.row (.pair (.int .i64) (.pair (.int .i64) .bool)) a), .one (.row (.pair (.int .i64) (.pair (.int .i64) .bool)) b)] => some (R63 (a, b)) | _ => none⟩
noncomputable def G63 : GP := conG P63 R63
theorem P63_inj : ∀ a b, (P63 a).map den0 = (P63 b).map den0 → a = b := by
  rintro ⟨a0, a1⟩ ⟨b0, b1⟩ h
  simp only [P63, List.map_cons, List.map_nil, den0, den0L, List.cons.injEq, AV.one.injEq, AV.agg.injEq, Lf.int.injEq, Lf.str.injEq, Lf.bool.injEq, Lf.vrow.injEq, and_true, true_and, and_assoc] at h
  obtain ⟨h0, h1⟩ := h
  have h0 := row_inj h0
  have h1 := row_inj h1
  subst h0 h1
  rfl
theorem K63_ok : ConG G63 K63 := conG_of P63_inj fun xs r h => by
  simp only [K63] at h
  split at h
  · cases h; rename_i a b; exact ⟨(a, b), rfl, rfl⟩
  · cases h
theorem pr63 {S : SC} (hB : SB S)  (h63 : S.has 63 f63) : PrOk S 63 (pureP G63) := by
  refine prM hB [] [] trivial trivial h63 (fun ⟨a, b⟩ => ⟨rfl, rfl, rfl⟩) (fun (a, b) => fun f id T L => match f, id with
      | 63, 0 => some (.inv { i : Nat // i ≤ a.length ∧ a.length = b.length ∧ a.take i = b.take i } (fun x => ([(13, .one (.int .i64 x.1))], [])) (fun x => a.length - x.1))
      | _, _ => none) 400 ?_
  rintro ⟨a, b⟩ hc
  have hc1 : a.length ≤ 1099511627776 := hc.1
  refine VC.use (p :=
    (((↑a.length : Int) = (↑b.length : Int) →
      ((∃ x1 : { i : Nat // i ≤ a.length ∧ a.length = b.length ∧ List.take i a = List.take i b },
        ((a = a) ∧
        ((b = b) ∧
        (((↑a.length : Int) = (↑a.length : Int)) ∧
        (0 = (↑x1.val : Int)))))) ∧
      (∀ x1 : { i : Nat // i ≤ a.length ∧ a.length = b.length ∧ List.take i a = List.take i b },
       (((↑x1.val : Int) < (↑a.length : Int) →
         ((0 ≤ (↑x1.val : Int) ∧ (↑x1.val : Int) < (↑a.length : Int)) ∧
         ((0 ≤ (↑x1.val : Int) ∧ (↑x1.val : Int) < (↑b.length : Int)) ∧
         (((!sameS (List.take 3 (List.drop 0 (((Ty.int IntKind.i64).pair ((Ty.int IntKind.i64).pair Ty.bool)).cells (a.getD x1.val (0, 0, false))))) (List.take 3 (List.drop 0 (((Ty.int IntKind.i64).pair ((Ty.int IntKind.i64).pair Ty.bool)).cells (b.getD x1.val (0, 0, false)))))) = true →
           (false = decide (a = b))) ∧
         (¬(!sameS (List.take 3 (List.drop 0 (((Ty.int IntKind.i64).pair ((Ty.int IntKind.i64).pair Ty.bool)).cells (a.getD x1.val (0, 0, false))))) (List.take 3 (List.drop 0 (((Ty.int IntKind.i64).pair ((Ty.int IntKind.i64).pair Ty.bool)).cells (b.getD x1.val (0, 0, false)))))) = true →
          ((i64R ((↑x1.val : Int) + 1)) ∧
          (∃ x2 : { i : Nat // i ≤ a.length ∧ a.length = b.length ∧ List.take i a = List.take i b },
           ((a.length - x2.val < a.length - x1.val) ∧
           ((a = a) ∧
           ((b = b) ∧
           (((↑a.length : Int) = (↑a.length : Int)) ∧
           ((↑x1.val : Int) + 1 = (↑x2.val : Int))))))))))))) ∧
       (¬(↑x1.val : Int) < (↑a.length : Int) →
        (true = decide (a = b))))))) ∧
    (¬(↑a.length : Int) = (↑b.length : Int) →
     (false = decide (a = b))))) (by kernel_rfl) ?_
  refine ⟨fun h => ⟨⟨⟨0, by omega, by omega, by simp⟩, rfl, rfl, rfl, rfl⟩, ?_⟩, fun h => ?_⟩
  · rintro ⟨i, hi, hl, ht⟩
    dsimp only
    exact ⟨fun h1 => ⟨by omega, by omega, fun h2 => by rw [same_sp, Bool.not_eq_true', decide_eq_false_iff_not] at h2; exact (decide_eq_false fun e => h2 (by rw [e])).symm, fun h2 => ⟨by unfold i64R; omega, ⟨i + 1, by omega, hl, eq_step (0, 0, false) h1 hl ht (by rw [same_sp] at h2; simpa using h2)⟩, by show _ - (i + 1) < _ - i; omega, rfl, rfl, rfl, rfl⟩⟩, fun h1 => (decide_eq_true (eq_end h1 hl ht)).symm⟩
  · symm; apply decide_eq_false; rintro rfl; omega
def P31 : (List (Int × Int × Bool)) × (List (Int × Int × Bool)) → List SV := fun (a, b) => [.one (.row (.pair (.int .i64) (.pair (.int .i64) .bool)) a), .one (.row (.pair (.int .i64) (.pair (.int .i64) .bool)) b)]
def R31 : (List (Int × Int × Bool)) × (List (Int × Int × Bool)) → SV × List Prop := fun (a, b) => (.one (.bool (decide (a = b))), [a.length ≤ 1099511627776])
def K31 : Con := ⟨[some (.pair (.int .i64) (.pair (.int .i64) .bool)), some (.pair (.int .i64) (.pair (.int .i64) .bool))], fun xs => match xs with | [.one (.row (.pair (.int .i64) (.pair (.int .i64) .bool)) a), .one (.row (.pair (.int .i64) (.pair (.int .i64) .bool)) b)] => some (R31 (a, b)) | _ => none⟩
noncomputable def G31 : GP := conG P31 R31
theorem P31_inj : ∀ a b, (P31 a).map den0 = (P31 b).map den0 → a = b := by
  rintro ⟨a0, a1⟩ ⟨b0, b1⟩ h
  simp only [P31, List.map_cons, List.map_nil, den0, den0L, List.cons.injEq, AV.one.injEq, AV.agg.injEq, Lf.int.injEq, Lf.str.injEq, Lf.bool.injEq, Lf.vrow.injEq, and_true, true_and, and_assoc] at h
  obtain ⟨h0, h1⟩ := h
  have h0 := row_inj h0
  have h1 := row_inj h1
  subst h0 h1
  rfl
theorem K31_ok : ConG G31 K31 := conG_of P31_inj fun xs r h => by
  simp only [K31] at h
  split at h
  · cases h; rename_i a b; exact ⟨(a, b), rfl, rfl⟩
  · cases h
theorem pr31 {S : SC} (hB : SB S)  (h31 : S.has 31 f31) : PrOk S 31 (pureP G31) := by
  refine prM hB [] [] trivial trivial h31 (fun ⟨a, b⟩ => ⟨rfl, rfl, rfl⟩) (fun (a, b) => fun f id T L => match f, id with
      | 31, 0 => some (.inv { i : Nat // i ≤ a.length ∧ a.length = b.length ∧ a.take i = b.take i } (fun x => ([(13, .one (.int .i64 x.1))], [])) (fun x => a.length - x.1))
      | _, _ => none) 400 ?_
  rintro ⟨a, b⟩ hc
  have hc1 : a.length ≤ 1099511627776 := hc.1
  refine VC.use (p :=
    (((↑a.length : Int) = (↑b.length : Int) →
      ((∃ x1 : { i : Nat // i ≤ a.length ∧ a.length = b.length ∧ List.take i a = List.take i b },
        ((a = a) ∧
        ((b = b) ∧
        (((↑a.length : Int) = (↑a.length : Int)) ∧
        (0 = (↑x1.val : Int)))))) ∧
      (∀ x1 : { i : Nat // i ≤ a.length ∧ a.length = b.length ∧ List.take i a = List.take i b },
       (((↑x1.val : Int) < (↑a.length : Int) →
         ((0 ≤ (↑x1.val : Int) ∧ (↑x1.val : Int) < (↑a.length : Int)) ∧
         ((0 ≤ (↑x1.val : Int) ∧ (↑x1.val : Int) < (↑b.length : Int)) ∧
         (((!sameS (List.take 3 (List.drop 0 (((Ty.int IntKind.i64).pair ((Ty.int IntKind.i64).pair Ty.bool)).cells (a.getD x1.val (0, 0, false))))) (List.take 3 (List.drop 0 (((Ty.int IntKind.i64).pair ((Ty.int IntKind.i64).pair Ty.bool)).cells (b.getD x1.val (0, 0, false)))))) = true →
           (false = decide (a = b))) ∧
         (¬(!sameS (List.take 3 (List.drop 0 (((Ty.int IntKind.i64).pair ((Ty.int IntKind.i64).pair Ty.bool)).cells (a.getD x1.val (0, 0, false))))) (List.take 3 (List.drop 0 (((Ty.int IntKind.i64).pair ((Ty.int IntKind.i64).pair Ty.bool)).cells (b.getD x1.val (0, 0, false)))))) = true →
          ((i64R ((↑x1.val : Int) + 1)) ∧
          (∃ x2 : { i : Nat // i ≤ a.length ∧ a.length = b.length ∧ List.take i a = List.take i b },
           ((a.length - x2.val < a.length - x1.val) ∧
           ((a = a) ∧
           ((b = b) ∧
           (((↑a.length : Int) = (↑a.length : Int)) ∧
           ((↑x1.val : Int) + 1 = (↑x2.val : Int))))))))))))) ∧
       (¬(↑x1.val : Int) < (↑a.length : Int) →
        (true = decide (a = b))))))) ∧
    (¬(↑a.length : Int) = (↑b.length : Int) →
     (false = decide (a = b))))) (by kernel_rfl) ?_
  refine ⟨fun h => ⟨⟨⟨0, by omega, by omega, by simp⟩, rfl, rfl, rfl, rfl⟩, ?_⟩, fun h => ?_⟩
  · rintro ⟨i, hi, hl, ht⟩
    dsimp only
    exact ⟨fun h1 => ⟨by omega, by omega, fun h2 => by rw [same_sp, Bool.not_eq_true', decide_eq_false_iff_not] at h2; exact (decide_eq_false fun e => h2 (by rw [e])).symm, fun h2 => ⟨by unfold i64R; omega, ⟨i + 1, by omega, hl, eq_step (0, 0, false) h1 hl ht (by rw [same_sp] at h2; simpa using h2)⟩, by show _ - (i + 1) < _ - i; omega, rfl, rfl, rfl, rfl⟩⟩, fun h1 => (decide_eq_true (eq_end h1 hl ht)).symm⟩
  · symm; apply decide_eq_false; rintro rfl; omega
def P32 : List (List UInt8) × List (List UInt8) → List SV := fun (a, b) => [.one (.row .str a), .one (.row .str b)]
def Rv32 : List (List UInt8) × List (List UInt8) → SV × List Prop := fun (a, b) => (.one (.bool (decide (a = b))), [a.length ≤ 1099511627776])
def K32 : Con := ⟨[some .str, some .str], fun xs => match xs with | [.one (.row .str a), .one (.row .str b)] => some (Rv32 (a, b)) | _ => none⟩
noncomputable def G32 : GP := conG P32 Rv32
theorem P32_inj : ∀ a b, (P32 a).map den0 = (P32 b).map den0 → a = b := by
  rintro ⟨a0, a1⟩ ⟨b0, b1⟩ h
  simp only [P32, List.map_cons, List.map_nil, den0, den0L, List.cons.injEq, AV.one.injEq, AV.agg.injEq, Lf.int.injEq, Lf.str.injEq, Lf.bool.injEq, Lf.vrow.injEq, and_true, true_and, and_assoc] at h
  obtain ⟨h0, h1⟩ := h
  have h0 := row_inj h0
  have h1 := row_inj h1
  subst h0 h1
  rfl
theorem K32_ok : ConG G32 K32 := conG_of P32_inj fun xs r h => by
  simp only [K32] at h
  split at h
  · cases h; rename_i a b; exact ⟨(a, b), rfl, rfl⟩
  · cases h
theorem pr32 {S : SC} (hB : SB S)  (h32 : S.has 32 f32) : PrOk S 32 (pureP G32) := by
  refine prM hB [] [] trivial trivial h32 (fun ⟨a, b⟩ => ⟨rfl, rfl, rfl⟩) (fun (a, b) => fun f id T L => match f, id with
      | 32, 0 => some (.inv { i : Nat // i ≤ a.length ∧ a.length = b.length ∧ a.take i = b.take i } (fun x => ([(13, .one (.int .i64 x.1))], [])) (fun x => a.length - x.1))
      | _, _ => none) 400 ?_
  rintro ⟨a, b⟩ hc
  have hc1 : a.length ≤ 1099511627776 := hc.1
  refine VC.use (p :=
    (((↑a.length : Int) = (↑b.length : Int) →
      ((∃ x1 : { i : Nat // i ≤ a.length ∧ a.length = b.length ∧ List.take i a = List.take i b },
        ((a = a) ∧
        ((b = b) ∧
        (((↑a.length : Int) = (↑a.length : Int)) ∧
        (0 = (↑x1.val : Int)))))) ∧
      (∀ x1 : { i : Nat // i ≤ a.length ∧ a.length = b.length ∧ List.take i a = List.take i b },
       (((↑x1.val : Int) < (↑a.length : Int) →
         ((0 ≤ (↑x1.val : Int) ∧ (↑x1.val : Int) < (↑a.length : Int)) ∧
         ((0 ≤ (↑x1.val : Int) ∧ (↑x1.val : Int) < (↑b.length : Int)) ∧
         ((a.getD x1.val [] = b.getD x1.val [] →
           ((i64R ((↑x1.val : Int) + 1)) ∧
           (∃ x2 : { i : Nat // i ≤ a.length ∧ a.length = b.length ∧ List.take i a = List.take i b },
            ((a.length - x2.val < a.length - x1.val) ∧
            ((a = a) ∧
            ((b = b) ∧
            (((↑a.length : Int) = (↑a.length : Int)) ∧
            ((↑x1.val : Int) + 1 = (↑x2.val : Int))))))))) ∧
         (¬a.getD x1.val [] = b.getD x1.val [] →
          (false = decide (a = b))))))) ∧
       (¬(↑x1.val : Int) < (↑a.length : Int) →
        (true = decide (a = b))))))) ∧
    (¬(↑a.length : Int) = (↑b.length : Int) →
     (false = decide (a = b))))) (by kernel_rfl) ?_
  refine ⟨fun h => ⟨⟨⟨0, by omega, by omega, by simp⟩, rfl, rfl, rfl, rfl⟩, ?_⟩, fun h => ?_⟩
  · rintro ⟨i, hi, hl, ht⟩
    dsimp only
    exact ⟨fun h1 => ⟨by omega, by omega, fun h2 => ⟨by unfold i64R; omega, ⟨i + 1, by omega, hl, eq_step [] h1 hl ht (by simpa using h2)⟩, by show _ - (i + 1) < _ - i; omega, rfl, rfl, rfl, rfl⟩, fun h2 => by exact (decide_eq_false fun e => h2 (by rw [e])).symm⟩, fun h1 => (decide_eq_true (eq_end h1 hl ht)).symm⟩
  · symm; apply decide_eq_false; rintro rfl; omega
def P29 : List UInt8 → List SV := fun s => [.one (.str s)]
def R29 : List UInt8 → SV × List Prop := fun s => (.tup [.o (.row .str (toks s (spL s))), .o (.int .i64 (spE s))], [])
def K29 : Con := ⟨[none], fun xs => match xs with | [.one (.str s)] => some (R29 s) | _ => none⟩
noncomputable def G29 : GP := conG P29 R29
theorem P29_inj : ∀ a b, (P29 a).map den0 = (P29 b).map den0 → a = b := by
  rintro a0 b0 h
  simp only [P29, List.map_cons, List.map_nil, den0, den0L, List.cons.injEq, AV.one.injEq, AV.agg.injEq, Lf.int.injEq, Lf.str.injEq, Lf.bool.injEq, Lf.vrow.injEq, and_true, true_and] at h
  exact h
theorem K29_ok : ConG G29 K29 := conG_of P29_inj fun xs r h => by
  simp only [K29] at h
  split at h
  · cases h; rename_i s; exact ⟨s, rfl, rfl⟩
  · cases h
theorem pr29 {S : SC} (hB : SB S) (q27 : PrOk S 27 (pureP G27)) (h52 : S.has 52 f52) (h73 : S.has 73 f73) (h29 : S.has 29 f29) : PrOk S 29 (pureP G29) := by
  refine prM hB [(52, f52), (73, f73)] [⟨27, G27, K27⟩] ⟨h52, h73, trivial⟩ ⟨⟨q27, K27_ok⟩, trivial⟩ h29 (fun _ => ⟨rfl, rfl, rfl⟩) (fun s => fun f id T L => match f, id with
      | 73, 0 => some (.inv { p : Nat × Nat × List (List UInt8) // p.1 ≤ (spL s).length ∧ p.2.1 ≤ p.1 ∧ p.2.2.length ≤ p.1 ∧ p.2.2 = toks s ((spL s).take p.1) } (fun x => ([(8, .one (.int .i64 x.1.1)), (3, .one (.int .i64 x.1.2.1))], [(1, .cell [.osl 4]), (4, .row .str x.1.2.2)])) (fun x => (spL s).length - x.1.1))
      | _, _ => none) 600 ?_
  rintro s hc
  refine VC.use (p :=
    ((∃ x1 : { p : Nat × Nat × List (List UInt8) // p.fst ≤ (spL s).length ∧ p.snd.fst ≤ p.fst ∧ p.snd.snd.length ≤ p.fst ∧ p.snd.snd = toks s (List.take p.fst (spL s)) },
      ((0 = (↑x1.val.snd.fst : Int)) ∧
      ((spL s = spL s) ∧
      (((↑(spL s).length : Int) = (↑(spL s).length : Int)) ∧
      ((0 = (↑x1.val.fst : Int)) ∧
      ((s = s) ∧
      ((x1.val.snd.snd = []) ∧
      ((spL s = spL s) ∧
      (x1.val.snd.snd = []))))))))) ∧
    (∀ x1 : { p : Nat × Nat × List (List UInt8) // p.fst ≤ (spL s).length ∧ p.snd.fst ≤ p.fst ∧ p.snd.snd.length ≤ p.fst ∧ p.snd.snd = toks s (List.take p.fst (spL s)) },
     (((↑x1.val.fst : Int) < (↑(spL s).length : Int) →
       ((0 ≤ (↑x1.val.fst : Int) ∧ (↑x1.val.fst : Int) < (↑(spL s).length : Int)) ∧
       (((!((spL s).getD x1.val.fst (0, 0, false)).snd.snd) = true →
         ((i64R ((↑x1.val.fst : Int) + 1)) ∧
         (∃ x2 : { p : Nat × Nat × List (List UInt8) // p.fst ≤ (spL s).length ∧ p.snd.fst ≤ p.fst ∧ p.snd.snd.length ≤ p.fst ∧ p.snd.snd = toks s (List.take p.fst (spL s)) },
          (((spL s).length - x2.val.fst < (spL s).length - x1.val.fst) ∧
          (((↑x1.val.snd.fst : Int) = (↑x2.val.snd.fst : Int)) ∧
          ((spL s = spL s) ∧
          (((↑(spL s).length : Int) = (↑(spL s).length : Int)) ∧
          (((↑x1.val.fst : Int) + 1 = (↑x2.val.fst : Int)) ∧
          ((s = s) ∧
          ((spL s = spL s) ∧
          (x1.val.snd.snd = x2.val.snd.snd))))))))))) ∧
       (¬(!((spL s).getD x1.val.fst (0, 0, false)).snd.snd) = true →
        ((0 ≤ ((spL s).getD x1.val.fst (0, 0, false)).fst ∧ ((spL s).getD x1.val.fst (0, 0, false)).fst ≤ ((spL s).getD x1.val.fst (0, 0, false)).snd.fst ∧ ((spL s).getD x1.val.fst (0, 0, false)).snd.fst ≤ (↑s.length : Int)) ∧
        (((x1.val.snd.snd.length + [cutR s (some ((spL s).getD x1.val.fst (0, 0, false)).fst) (some ((spL s).getD x1.val.fst (0, 0, false)).snd.fst)].length) * 16 ≤ 140737488355328) ∧
        ((i64R ((↑x1.val.snd.fst : Int) + 1)) ∧
        ((i64R ((↑x1.val.fst : Int) + 1)) ∧
        (∃ x2 : { p : Nat × Nat × List (List UInt8) // p.fst ≤ (spL s).length ∧ p.snd.fst ≤ p.fst ∧ p.snd.snd.length ≤ p.fst ∧ p.snd.snd = toks s (List.take p.fst (spL s)) },
         (((spL s).length - x2.val.fst < (spL s).length - x1.val.fst) ∧
         (((↑x1.val.snd.fst : Int) + 1 = (↑x2.val.snd.fst : Int)) ∧
         ((spL s = spL s) ∧
         (((↑(spL s).length : Int) = (↑(spL s).length : Int)) ∧
         (((↑x1.val.fst : Int) + 1 = (↑x2.val.fst : Int)) ∧
         ((s = s) ∧
         ((spL s = spL s) ∧
         (x1.val.snd.snd ++ [cutR s (some ((spL s).getD x1.val.fst (0, 0, false)).fst) (some ((spL s).getD x1.val.fst (0, 0, false)).snd.fst)] = x2.val.snd.snd))))))))))))))))) ∧
     (¬(↑x1.val.fst : Int) < (↑(spL s).length : Int) →
      ((x1.val.snd.snd = toks s (spL s)) ∧
      (spE s = spE s))))))) (by kernel_rfl) ?_
  refine ⟨⟨⟨(0, 0, []), Nat.zero_le _, Nat.le_refl _, Nat.le_refl _, rfl⟩, rfl, rfl, rfl, rfl, rfl, rfl, rfl, rfl⟩, ?_⟩
  rintro ⟨⟨i, k, o⟩, hi, hk, ho, he⟩
  dsimp only at hi hk ho he ⊢
  have hn := spL_len s
  refine ⟨fun h => ?_, fun h => ⟨by rw [he, List.take_of_length_le (by omega)], rfl⟩⟩
  have ha := spL_at (s := s) (i := i) (by omega)
  refine ⟨by omega, fun h1 => ⟨by unfold i64R; omega, ⟨(i + 1, k, o), by dsimp only; omega, by dsimp only; omega, by dsimp only; omega, ?_⟩, by show _ - (i + 1) < _ - i; omega, rfl, rfl, rfl, by push_cast; rfl, rfl, rfl, rfl⟩, fun h1 => ⟨⟨ha.lo, Int.le_of_lt ha.lt, ha.hi⟩, by simp; omega, by unfold i64R; omega, by unfold i64R; omega, ⟨(i + 1, k + 1, o ++ [_]), by dsimp only; omega, by dsimp only; omega, by simp; omega, ?_⟩, by show _ - (i + 1) < _ - i; omega, by push_cast; rfl, rfl, rfl, by push_cast; rfl, rfl, rfl, rfl⟩⟩
  · dsimp only; rw [toks_no (by omega) (by simpa using h1), he]
  · dsimp only; rw [toks_yes (by omega) (by simpa using h1), he]; rfl
def P30 : List UInt8 → List SV := fun s => [.one (.str s)]
def R30 : List UInt8 → SV × List Prop := fun s => (.tup [.o (.row .str (toks s (spL s))), .o (.int .i64 (spE s))], [])
def K30 : Con := ⟨[none], fun xs => match xs with | [.one (.str s)] => some (R30 s) | _ => none⟩
noncomputable def G30 : GP := conG P30 R30
theorem P30_inj : ∀ a b, (P30 a).map den0 = (P30 b).map den0 → a = b := by
  rintro a0 b0 h
  simp only [P30, List.map_cons, List.map_nil, den0, den0L, List.cons.injEq, AV.one.injEq, AV.agg.injEq, Lf.int.injEq, Lf.str.injEq, Lf.bool.injEq, Lf.vrow.injEq, and_true, true_and] at h
  exact h
theorem K30_ok : ConG G30 K30 := conG_of P30_inj fun xs r h => by
  simp only [K30] at h
  split at h
  · cases h; rename_i s; exact ⟨s, rfl, rfl⟩
  · cases h
theorem pr30 {S : SC} (hB : SB S) (q28 : PrOk S 28 (pureP G28)) (h30 : S.has 30 f30) : PrOk S 30 (pureP G30) := by
  refine prM hB [] [⟨28, G28, K28⟩] trivial ⟨⟨q28, K28_ok⟩, trivial⟩ h30 (fun _ => ⟨rfl, rfl, rfl⟩) (fun s => fun f id T L => match f, id with
      | 30, 0 => some (.inv { p : Nat × List (List UInt8) // p.1 ≤ (spL s).length ∧ p.2.length ≤ p.1 ∧ p.2 = toks s ((spL s).take p.1) } (fun x => ([(16, .one (.int .i64 x.1.1)), (6, .one (.osl 0))], [(0, .row .str x.1.2)])) (fun x => (spL s).length - x.1.1))
      | _, _ => none) 400 ?_
  rintro s hc
  refine VC.use (p :=
    ((∃ x1 : { p : Nat × List (List UInt8) // p.fst ≤ (spL s).length ∧ p.snd.length ≤ p.fst ∧ p.snd = toks s (List.take p.fst (spL s)) },
      ((s = s) ∧
      ((spE s = spE s) ∧
      ((x1.val.snd = []) ∧
      ((spL s = spL s) ∧
      (((↑(spL s).length : Int) = (↑(spL s).length : Int)) ∧
      ((0 = (↑x1.val.fst : Int)) ∧
      (x1.val.snd = [])))))))) ∧
    (∀ x1 : { p : Nat × List (List UInt8) // p.fst ≤ (spL s).length ∧ p.snd.length ≤ p.fst ∧ p.snd = toks s (List.take p.fst (spL s)) },
     (((↑x1.val.fst : Int) < (↑(spL s).length : Int) →
       ((0 ≤ (↑x1.val.fst : Int) ∧ (↑x1.val.fst : Int) < (↑(spL s).length : Int)) ∧
       ((((spL s).getD x1.val.fst (0, 0, false)).snd.snd = true →
         ((0 ≤ ((spL s).getD x1.val.fst (0, 0, false)).fst ∧ ((spL s).getD x1.val.fst (0, 0, false)).fst ≤ ((spL s).getD x1.val.fst (0, 0, false)).snd.fst ∧ ((spL s).getD x1.val.fst (0, 0, false)).snd.fst ≤ (↑s.length : Int)) ∧
         (((x1.val.snd.length + [cutR s (some ((spL s).getD x1.val.fst (0, 0, false)).fst) (some ((spL s).getD x1.val.fst (0, 0, false)).snd.fst)].length) * 16 ≤ 140737488355328) ∧
         ((i64R ((↑x1.val.fst : Int) + 1)) ∧
         (∃ x2 : { p : Nat × List (List UInt8) // p.fst ≤ (spL s).length ∧ p.snd.length ≤ p.fst ∧ p.snd = toks s (List.take p.fst (spL s)) },
          (((spL s).length - x2.val.fst < (spL s).length - x1.val.fst) ∧
          ((s = s) ∧
          ((spE s = spE s) ∧
          ((spL s = spL s) ∧
          (((↑(spL s).length : Int) = (↑(spL s).length : Int)) ∧
          (((↑x1.val.fst : Int) + 1 = (↑x2.val.fst : Int)) ∧
          (x1.val.snd ++ [cutR s (some ((spL s).getD x1.val.fst (0, 0, false)).fst) (some ((spL s).getD x1.val.fst (0, 0, false)).snd.fst)] = x2.val.snd)))))))))))) ∧
       (¬((spL s).getD x1.val.fst (0, 0, false)).snd.snd = true →
        ((i64R ((↑x1.val.fst : Int) + 1)) ∧
        (∃ x2 : { p : Nat × List (List UInt8) // p.fst ≤ (spL s).length ∧ p.snd.length ≤ p.fst ∧ p.snd = toks s (List.take p.fst (spL s)) },
         (((spL s).length - x2.val.fst < (spL s).length - x1.val.fst) ∧
         ((s = s) ∧
         ((spE s = spE s) ∧
         ((spL s = spL s) ∧
         (((↑(spL s).length : Int) = (↑(spL s).length : Int)) ∧
         (((↑x1.val.fst : Int) + 1 = (↑x2.val.fst : Int)) ∧
         (x1.val.snd = x2.val.snd))))))))))))) ∧
     (¬(↑x1.val.fst : Int) < (↑(spL s).length : Int) →
      ((x1.val.snd = toks s (spL s)) ∧
      (spE s = spE s))))))) (by kernel_rfl) ?_
  refine ⟨⟨⟨(0, []), Nat.zero_le _, Nat.le_refl _, rfl⟩, rfl, rfl, rfl, rfl, rfl, rfl, rfl⟩, ?_⟩
  rintro ⟨⟨i, o⟩, hi, ho, he⟩
  dsimp only at hi ho he ⊢
  have hn := spL_len s
  refine ⟨fun h => ?_, fun h => ⟨by rw [he, List.take_of_length_le (by omega)], rfl⟩⟩
  have ha := spL_at (s := s) (i := i) (by omega)
  refine ⟨by omega, fun h1 => ⟨⟨ha.lo, Int.le_of_lt ha.lt, ha.hi⟩, by simp; omega, by unfold i64R; omega, ⟨(i + 1, o ++ [_]), by dsimp only; omega, by simp; omega, ?_⟩, by show _ - (i + 1) < _ - i; omega, rfl, rfl, rfl, rfl, by push_cast; rfl, rfl⟩, fun h1 => ⟨by unfold i64R; omega, ⟨(i + 1, o), by dsimp only; omega, by dsimp only; omega, ?_⟩, by show _ - (i + 1) < _ - i; omega, rfl, rfl, rfl, rfl, by push_cast; rfl, rfl⟩⟩
  · dsimp only; rw [toks_yes (by omega) (by simpa using h1), he]; rfl
  · dsimp only; rw [toks_no (by omega) (by simpa using h1), he]
def P41 : List UInt8 × (List (Int × Int × Bool)) → List SV := fun (s, l) => [.one (.str s), .one (.row (.pair (.int .i64) (.pair (.int .i64) .bool)) l)]
def R41 : List UInt8 × (List (Int × Int × Bool)) → SV × List Prop := fun (s, l) => (.one (.bool (decide (spE s = 0) && decide (spL s = l))), [])
def K41 : Con := ⟨[none, some (.pair (.int .i64) (.pair (.int .i64) .bool))], fun xs => match xs with | [.one (.str s), .one (.row (.pair (.int .i64) (.pair (.int .i64) .bool)) l)] => some (R41 (s, l)) | _ => none⟩
noncomputable def G41 : GP := conG P41 R41
theorem P41_inj : ∀ a b, (P41 a).map den0 = (P41 b).map den0 → a = b := by
  rintro ⟨a0, a1⟩ ⟨b0, b1⟩ h
  simp only [P41, List.map_cons, List.map_nil, den0, den0L, List.cons.injEq, AV.one.injEq, AV.agg.injEq, Lf.int.injEq, Lf.str.injEq, Lf.bool.injEq, Lf.vrow.injEq, and_true, true_and, and_assoc] at h
  obtain ⟨h0, h1⟩ := h
  have h1 := row_inj h1
  subst h0 h1
  rfl
theorem K41_ok : ConG G41 K41 := conG_of P41_inj fun xs r h => by
  simp only [K41] at h
  split at h
  · cases h; rename_i s l; exact ⟨(s, l), rfl, rfl⟩
  · cases h
theorem pr41 {S : SC} (hB : SB S) (q27 : PrOk S 27 (pureP G27)) (q63 : PrOk S 63 (pureP G63)) (h41 : S.has 41 f41) : PrOk S 41 (pureP G41) := by
  refine prM hB [] [⟨27, G27, K27⟩, ⟨63, G63, K63⟩] trivial ⟨⟨q27, K27_ok⟩, ⟨q63, K63_ok⟩, trivial⟩ h41 (fun ⟨s, l⟩ => ⟨rfl, rfl, rfl⟩) (fun (s, l) => fun _ _ _ _ => none) 400 ?_
  rintro ⟨s, l⟩ hc
  refine VC.use (p :=
    ((spE s = 0 →
      (((spL s).length ≤ 1099511627776) ∧
      (decide (spL s = l) = (decide (spE s = 0) && decide (spL s = l))))) ∧
    (¬spE s = 0 →
     (false = (decide (spE s = 0) && decide (spL s = l)))))) (by kernel_rfl) ?_
  have hn := spL_len s
  exact ⟨fun h => ⟨by omega, by rw [decide_eq_true h]; rfl⟩, fun h => by rw [decide_eq_false h]; rfl⟩
def P26 : Unit → List SV := fun _ => []
def R26 : Unit → SV × List Prop := fun _ => (.one (.bool true), [])
def K26 : Con := ⟨[], fun xs => match xs with | [] => some (R26 ()) | _ => none⟩
noncomputable def G26 : GP := conG P26 R26
theorem P26_inj : ∀ a b, (P26 a).map den0 = (P26 b).map den0 → a = b := by
  intro a b _; rfl
theorem K26_ok : ConG G26 K26 := conG_of P26_inj fun xs r h => by
  simp only [K26] at h
  split at h
  · cases h; exact ⟨(), rfl, rfl⟩
  · cases h
theorem pr26 {S : SC} (hB : SB S) (q27 : PrOk S 27 (pureP G27)) (h26 : S.has 26 f26) : PrOk S 26 (pureP G26) := by
  refine prM hB [] [⟨27, G27, K27⟩] trivial ⟨⟨q27, K27_ok⟩, trivial⟩ h26 (fun _ => ⟨rfl, rfl, rfl⟩) (fun _ => fun _ _ _ _ => none) 400 ?_
  rintro _ hc
  refine VC.use (p :=
    (((3 : Int) = (3 : Int) →
      (((0 : Int) ≤ (0 : Int) ∧ (0 : Int) < (3 : Int)) ∧
      ((sameS (List.take (3 : Nat) (List.drop (0 : Nat) (((Ty.int IntKind.i64).pair ((Ty.int IntKind.i64).pair Ty.bool)).cells ((spL [(97 : UInt8), (98 : UInt8), (32 : UInt8), (49 : UInt8), (99 : UInt8)]).getD (0 : Nat) ((0 : Int), (0 : Int), false))))) (List.take (2 : Nat) (List.take (1 : Nat) (List.take (0 : Nat) (List.map ofLf [Lf.int IntKind.i64 (0 : Int), Lf.int IntKind.i64 (0 : Int), Lf.bool false]) ++ ([ofLf (Lf.int IntKind.i64 (0 : Int))] ++ List.drop (1 : Nat) (List.map ofLf [Lf.int IntKind.i64 (0 : Int), Lf.int IntKind.i64 (0 : Int), Lf.bool false]))) ++ ([ofLf (Lf.int IntKind.i64 (2 : Int))] ++ List.drop (2 : Nat) (List.take (0 : Nat) (List.map ofLf [Lf.int IntKind.i64 (0 : Int), Lf.int IntKind.i64 (0 : Int), Lf.bool false]) ++ ([ofLf (Lf.int IntKind.i64 (0 : Int))] ++ List.drop (1 : Nat) (List.map ofLf [Lf.int IntKind.i64 (0 : Int), Lf.int IntKind.i64 (0 : Int), Lf.bool false]))))) ++ ([ofLf (Lf.bool true)] ++ List.drop (3 : Nat) (List.take (1 : Nat) (List.take (0 : Nat) (List.map ofLf [Lf.int IntKind.i64 (0 : Int), Lf.int IntKind.i64 (0 : Int), Lf.bool false]) ++ ([ofLf (Lf.int IntKind.i64 (0 : Int))] ++ List.drop (1 : Nat) (List.map ofLf [Lf.int IntKind.i64 (0 : Int), Lf.int IntKind.i64 (0 : Int), Lf.bool false]))) ++ ([ofLf (Lf.int IntKind.i64 (2 : Int))] ++ List.drop (2 : Nat) (List.take (0 : Nat) (List.map ofLf [Lf.int IntKind.i64 (0 : Int), Lf.int IntKind.i64 (0 : Int), Lf.bool false]) ++ ([ofLf (Lf.int IntKind.i64 (0 : Int))] ++ List.drop (1 : Nat) (List.map ofLf [Lf.int IntKind.i64 (0 : Int), Lf.int IntKind.i64 (0 : Int), Lf.bool false]))))))) = true →
        (((0 : Int) ≤ (1 : Int) ∧ (1 : Int) < (3 : Int)) ∧
        (((4 : Int) = (4 : Int) →
          (((0 : Int) ≤ (2 : Int) ∧ (2 : Int) < (3 : Int)) ∧
          ((((spL [(97 : UInt8), (98 : UInt8), (32 : UInt8), (49 : UInt8), (99 : UInt8)]).getD (2 : Nat) ((0 : Int), (0 : Int), false)).snd.snd = true →
            (decide ((0 : Int) = (0 : Int)) = true)) ∧
          (¬((spL [(97 : UInt8), (98 : UInt8), (32 : UInt8), (49 : UInt8), (99 : UInt8)]).getD (2 : Nat) ((0 : Int), (0 : Int), false)).snd.snd = true →
           (false = true))))) ∧
        (¬(4 : Int) = (4 : Int) →
         (false = true))))) ∧
      (¬sameS (List.take (3 : Nat) (List.drop (0 : Nat) (((Ty.int IntKind.i64).pair ((Ty.int IntKind.i64).pair Ty.bool)).cells ((spL [(97 : UInt8), (98 : UInt8), (32 : UInt8), (49 : UInt8), (99 : UInt8)]).getD (0 : Nat) ((0 : Int), (0 : Int), false))))) (List.take (2 : Nat) (List.take (1 : Nat) (List.take (0 : Nat) (List.map ofLf [Lf.int IntKind.i64 (0 : Int), Lf.int IntKind.i64 (0 : Int), Lf.bool false]) ++ ([ofLf (Lf.int IntKind.i64 (0 : Int))] ++ List.drop (1 : Nat) (List.map ofLf [Lf.int IntKind.i64 (0 : Int), Lf.int IntKind.i64 (0 : Int), Lf.bool false]))) ++ ([ofLf (Lf.int IntKind.i64 (2 : Int))] ++ List.drop (2 : Nat) (List.take (0 : Nat) (List.map ofLf [Lf.int IntKind.i64 (0 : Int), Lf.int IntKind.i64 (0 : Int), Lf.bool false]) ++ ([ofLf (Lf.int IntKind.i64 (0 : Int))] ++ List.drop (1 : Nat) (List.map ofLf [Lf.int IntKind.i64 (0 : Int), Lf.int IntKind.i64 (0 : Int), Lf.bool false]))))) ++ ([ofLf (Lf.bool true)] ++ List.drop (3 : Nat) (List.take (1 : Nat) (List.take (0 : Nat) (List.map ofLf [Lf.int IntKind.i64 (0 : Int), Lf.int IntKind.i64 (0 : Int), Lf.bool false]) ++ ([ofLf (Lf.int IntKind.i64 (0 : Int))] ++ List.drop (1 : Nat) (List.map ofLf [Lf.int IntKind.i64 (0 : Int), Lf.int IntKind.i64 (0 : Int), Lf.bool false]))) ++ ([ofLf (Lf.int IntKind.i64 (2 : Int))] ++ List.drop (2 : Nat) (List.take (0 : Nat) (List.map ofLf [Lf.int IntKind.i64 (0 : Int), Lf.int IntKind.i64 (0 : Int), Lf.bool false]) ++ ([ofLf (Lf.int IntKind.i64 (0 : Int))] ++ List.drop (1 : Nat) (List.map ofLf [Lf.int IntKind.i64 (0 : Int), Lf.int IntKind.i64 (0 : Int), Lf.bool false]))))))) = true →
       (false = true))))) ∧
    (¬(3 : Int) = (3 : Int) →
     (false = true)))) (by kernel_rfl) ?_
  decide +kernel
end Go.EA
