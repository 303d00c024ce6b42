/- Layer 1: compare. Conditions: none. (Printed by a program of this project's own.) -/
import Derived.Test.YtmfjbaepgfdfpaaDoorEAf1
import Derived.Test.YtmfjbaepgfdfpaaDoorEK9
import Derived.Test.YtmfjbaepgfdfpaaDoorEMean1
import Derived.KernelRfl
set_option linter.unusedVariables false
set_option linter.unusedSimpArgs false
set_option maxRecDepth 100000
set_option maxHeartbeats 0
namespace Go.EA
open F
def cmpI' (x y : Int) : Int := if x < y then -1 else if y < x then 1 else 0
def P70 : Int → List SV := fun r => [.one (.int .i32 r)]
def R70 : Int → SV × List Prop := fun r => (.one .ff, [])
def K70 : Con := ⟨true, [none], fun xs => match xs with | [.one (.int .i32 r)] => some (R70 r) | _ => none⟩
noncomputable def G70 : GP := conG P70 R70
theorem P70_inj : ∀ a b, (P70 a).map den0 = (P70 b).map den0 → a = b := by
  rintro a0 b0 h
  simp only [P70, List.map_cons, List.map_nil, den0, den0L, List.cons.injEq, AV.one.injEq, AV.agg.injEq, Lf.int.injEq, Lf.str.injEq, Lf.bool.injEq, Lf.vrow.injEq, and_true, true_and] at h
  exact h
theorem K70_ok : ConG G70 K70 := conG_of P70_inj (fun _ _ => rfl) (fun _ => rfl) fun xs r h => by
  simp only [K70] at h
  split at h
  · cases h; rename_i r; exact ⟨r, rfl, rfl⟩
  · cases h
theorem pr70 {S : SC} (hB : SB S)  (h70 : S.has 70 f70) : PrOk S 70 (pureP G70) := by
  refine prM hB [] [] trivial trivial h70 (fun _ => ⟨rfl, rfl, rfl⟩) (fun r => fun _ _ _ _ => none) 400 ?_
  rintro r hc
  refine VC.use (p :=
    ((!decide (r = r)) = false)) (by kernel_rfl) ?_
  simp
def P48 : Int × Int → List SV := fun (x, y) => [.one (.int .i32 x), .one (.int .i32 y)]
def R48 : Int × Int → SV × List Prop := fun (x, y) => (.one (.int .i64 (cmpI' x y)), [])
def K48 : Con := ⟨true, [none, none], fun xs => match xs with | [.one (.int .i32 x), .one (.int .i32 y)] => some (R48 (x, y)) | _ => none⟩
noncomputable def G48 : GP := conG P48 R48
theorem P48_inj : ∀ a b, (P48 a).map den0 = (P48 b).map den0 → a = b := by
  rintro ⟨a0, a1⟩ ⟨b0, b1⟩ h
  simp only [P48, List.map_cons, List.map_nil, den0, den0L, List.cons.injEq, AV.one.injEq, AV.agg.injEq, Lf.int.injEq, Lf.str.injEq, Lf.bool.injEq, Lf.vrow.injEq, and_true, true_and, and_assoc] at h
  obtain ⟨h0, h1⟩ := h
  subst h0 h1
  rfl
theorem K48_ok : ConG G48 K48 := conG_of P48_inj (fun ⟨_, _⟩ ⟨_, _⟩ => rfl) (fun ⟨_, _⟩ => rfl) fun xs r h => by
  simp only [K48] at h
  split at h
  · cases h; rename_i x y; exact ⟨(x, y), rfl, rfl⟩
  · cases h
theorem pr48 {S : SC} (hB : SB S) (q70 : PrOk S 70 (pureP G70)) (h48 : S.has 48 f48) : PrOk S 48 (pureP G48) := by
  refine prM hB [] [⟨70, G70, K70⟩] trivial ⟨⟨q70, K70_ok⟩, trivial⟩ h48 (fun ⟨x, y⟩ => ⟨rfl, rfl, rfl⟩) (fun (x, y) => fun _ _ _ _ => none) 400 ?_
  rintro ⟨x, y⟩ hc
  refine VC.use (p :=
    ((x < y →
      (-1 = cmpI' x y)) ∧
    (¬x < y →
     ((y < x →
       (1 = cmpI' x y)) ∧
     (¬y < x →
      (0 = cmpI' x y)))))) (by kernel_rfl) ?_
  unfold cmpI'
  refine ⟨fun h => ?_, fun h => ⟨fun h => ?_, fun h => ?_⟩⟩ <;> repeat' split
  all_goals omega
def P47 : List Int × List Int → List SV := fun (a, b) => [.one (.row (.int .i32) a), .one (.row (.int .i32) b), .one (.fn 48 [])]
def R47 : List Int × List Int → SV × List Prop := fun (a, b) => (.one (.int .i64 (cmpL a b)), [a.length ≤ 1099511627776])
def K47 : Con := ⟨true, [some (.int .i32), some (.int .i32), none], fun xs => match xs with | [.one (.row (.int .i32) a), .one (.row (.int .i32) b), .one (.fn 48 [])] => some (R47 (a, b)) | _ => none⟩
noncomputable def G47 : GP := conG P47 R47
theorem P47_inj : ∀ a b, (P47 a).map den0 = (P47 b).map den0 → a = b := by
  rintro ⟨a0, a1⟩ ⟨b0, b1⟩ h
  simp only [P47, List.map_cons, List.map_nil, den0, den0L, List.cons.injEq, AV.one.injEq, AV.agg.injEq, Lf.int.injEq, Lf.str.injEq, Lf.bool.injEq, Lf.vrow.injEq, and_true, true_and, and_assoc] at h
  obtain ⟨h0, h1⟩ := h
  have h0 := row_inj h0
  have h1 := row_inj h1
  subst h0 h1
  rfl
theorem K47_ok : ConG G47 K47 := conG_of P47_inj (fun ⟨_, _⟩ ⟨_, _⟩ => rfl) (fun ⟨_, _⟩ => rfl) fun xs r h => by
  simp only [K47] at h
  split at h
  · cases h; rename_i a b; exact ⟨(a, b), rfl, rfl⟩
  · cases h
theorem pr47 {S : SC} (hB : SB S) (q48 : PrOk S 48 (pureP G48)) (h47 : S.has 47 f47) : PrOk S 47 (pureP G47) := by
  refine prM hB [] [⟨48, G48, K48⟩] trivial ⟨⟨q48, K48_ok⟩, trivial⟩ h47 (fun ⟨a, b⟩ => ⟨rfl, rfl, rfl⟩) (fun (a, b) => fun f id T L => match f, id with
      | 47, 0 => some (.inv { i : Nat // i ≤ a.length ∧ i ≤ b.length ∧ cmpL a b = cmpL (a.drop i) (b.drop i) } (fun x => ([(13, .one (.int .i64 x.1))], [])) (fun x => a.length - x.1))
      | _, _ => none) 400 ?_
  rintro ⟨a, b⟩ hc
  have hc1 : a.length ≤ 1099511627776 := hc.1
  refine VC.use (p :=
    ((∃ x1 : { i : Nat // i ≤ a.length ∧ i ≤ b.length ∧ cmpL a b = cmpL (List.drop i a) (List.drop i b) },
      ((a = a) ∧
      ((b = b) ∧
      ((a = a) ∧
      (((↑a.length : Int) = (↑a.length : Int)) ∧
      (0 = (↑x1.val : Int))))))) ∧
    (∀ x1 : { i : Nat // i ≤ a.length ∧ i ≤ b.length ∧ cmpL a b = cmpL (List.drop i a) (List.drop i b) },
     (((↑x1.val : Int) < (↑a.length : Int) →
       ((0 ≤ (↑x1.val : Int) ∧ (↑x1.val : Int) < (↑a.length : Int)) ∧
       (((↑b.length : Int) ≤ (↑x1.val : Int) →
         (1 = cmpL a b)) ∧
       (¬(↑b.length : Int) ≤ (↑x1.val : Int) →
        ((0 ≤ (↑x1.val : Int) ∧ (↑x1.val : Int) < (↑b.length : Int)) ∧
        ((cmpI' (a.getD x1.val 0) (b.getD x1.val 0) = 0 →
          ((i64R ((↑x1.val : Int) + 1)) ∧
          (∃ x2 : { i : Nat // i ≤ a.length ∧ i ≤ b.length ∧ cmpL a b = cmpL (List.drop i a) (List.drop i b) },
           ((a.length - x2.val < a.length - x1.val) ∧
           ((a = a) ∧
           ((b = b) ∧
           ((a = a) ∧
           (((↑a.length : Int) = (↑a.length : Int)) ∧
           ((↑x1.val : Int) + 1 = (↑x2.val : Int)))))))))) ∧
        (¬cmpI' (a.getD x1.val 0) (b.getD x1.val 0) = 0 →
         (cmpI' (a.getD x1.val 0) (b.getD x1.val 0) = cmpL a b)))))))) ∧
     (¬(↑x1.val : Int) < (↑a.length : Int) →
      (((↑a.length : Int) < (↑b.length : Int) →
        (-1 = cmpL a b)) ∧
      (¬(↑a.length : Int) < (↑b.length : Int) →
       (0 = cmpL a b)))))))) (by kernel_rfl) ?_
  refine ⟨⟨⟨0, by omega, by omega, rfl⟩, rfl, rfl, rfl, rfl, rfl⟩, ?_⟩
  rintro ⟨i, hi, hj, he⟩
  have hs := cmpL_step a b i
  rw [← he] at hs
  unfold cmpI'
  dsimp only
  refine ⟨fun h => ⟨by omega, fun h1 => ?_, fun h1 => ⟨by omega, fun h2 => ⟨by unfold i64R; omega, ⟨i + 1, by omega, by omega, ?_⟩, by show a.length - (i + 1) < a.length - i; omega, rfl, rfl, rfl, rfl, rfl⟩, fun h2 => ?_⟩⟩, fun h => ⟨fun h1 => ?_, fun h1 => ?_⟩⟩
  all_goals
    repeat' split at hs
    all_goals first | omega | (repeat' split at h2) | (repeat' split)
    all_goals first | omega | rfl
def P24 : List Int × List Int → List SV := fun (a, b) => [.one (.row (.int .i32) a), .one (.row (.int .i32) b)]
def R24 : List Int × List Int → SV × List Prop := fun (a, b) => (.one (.int .i64 (cmpL a b)), [a.length ≤ 1099511627776])
def K24 : Con := ⟨true, [some (.int .i32), some (.int .i32)], fun xs => match xs with | [.one (.row (.int .i32) a), .one (.row (.int .i32) b)] => some (R24 (a, b)) | _ => none⟩
noncomputable def G24 : GP := conG P24 R24
theorem P24_inj : ∀ a b, (P24 a).map den0 = (P24 b).map den0 → a = b := by
  rintro ⟨a0, a1⟩ ⟨b0, b1⟩ h
  simp only [P24, List.map_cons, List.map_nil, den0, den0L, List.cons.injEq, AV.one.injEq, AV.agg.injEq, Lf.int.injEq, Lf.str.injEq, Lf.bool.injEq, Lf.vrow.injEq, and_true, true_and, and_assoc] at h
  obtain ⟨h0, h1⟩ := h
  have h0 := row_inj h0
  have h1 := row_inj h1
  subst h0 h1
  rfl
theorem K24_ok : ConG G24 K24 := conG_of P24_inj (fun ⟨_, _⟩ ⟨_, _⟩ => rfl) (fun ⟨_, _⟩ => rfl) fun xs r h => by
  simp only [K24] at h
  split at h
  · cases h; rename_i a b; exact ⟨(a, b), rfl, rfl⟩
  · cases h
theorem pr24 {S : SC} (hB : SB S) (q47 : PrOk S 47 (pureP G47)) (h24 : S.has 24 f24) : PrOk S 24 (pureP G24) := by
  refine prM hB [] [⟨47, G47, K47⟩] trivial ⟨⟨q47, K47_ok⟩, trivial⟩ h24 (fun ⟨a, b⟩ => ⟨rfl, rfl, rfl⟩) (fun (a, b) => fun _ _ _ _ => none) 400 ?_
  rintro ⟨a, b⟩ hc
  have hc1 : a.length ≤ 1099511627776 := hc.1
  refine VC.use (p :=
    ((a.length ≤ 1099511627776) ∧
    (cmpL a b = cmpL a b))) (by kernel_rfl) ?_
  exact ⟨hc1, rfl⟩
end Go.EA
