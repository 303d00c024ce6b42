/- Layer 1: what functions mean. Conditions: none (definitions). -/
import Derived.Test.YtmfjbaepgfdfpaaDoorEK6
set_option linter.unusedVariables false
set_option linter.unusedSimpArgs false
namespace Go.EA
/-- Rows of numbers. -/
abbrev R32 (l : List Int) : List (List Lf) := List.map (fun r => [Lf.int IntKind.i32 r]) l
theorem R32_inj {a b : List Int} (h : R32 a = R32 b) : a = b := by
  induction a generalizing b with
  | nil => cases b with | nil => rfl | cons y b => simp [R32] at h
  | cons x a ih => cases b with
    | nil => simp [R32] at h
    | cons y b =>
      simp only [R32, List.map_cons, List.cons.injEq, Lf.int.injEq, and_true, true_and] at h
      rw [h.1, ih h.2]
def pI (r : Int) : List AV := [.one (.int .i32 r)]
theorem pI_inj (a b : Int) (h : pI a = pI b) : a = b := by simpa [pI] using h
def pS (s : List UInt8) : List AV := [.one (.str s)]
theorem pS_inj (a b : List UInt8) (h : pS a = pS b) : a = b := by simpa [pS] using h
def pRR (p : List Int × List Int) : List AV := [.one (.vrow 1 (R32 p.1)), .one (.vrow 1 (R32 p.2))]
theorem pRR_inj (a b : List Int × List Int) (h : pRR a = pRR b) : a = b := by
  simp only [pRR, List.cons.injEq, AV.one.injEq, Lf.vrow.injEq, true_and, and_true] at h
  exact Prod.ext (R32_inj h.1) (R32_inj h.2)

noncomputable def g55 : GP := relG pI fun r => (.one (.bool (Utf8.valid r)), [])
theorem c55 (r : Int) : g55 [.one (.int .i32 r)] = some (.one (.bool (Utf8.valid r)), []) := relG_eq pI_inj r
def p3I (p : Int × Int × Int) : List AV := [.one (.int .i32 p.1), .one (.int .i32 p.2.1), .one (.int .i32 p.2.2)]
theorem p3I_inj (a b : Int × Int × Int) (h : p3I a = p3I b) : a = b := by
  obtain ⟨a1, a2, a3⟩ := a; obtain ⟨b1, b2, b3⟩ := b; simpa [p3I] using h
noncomputable def g59 : GP := relG p3I fun p => (.one (.bool (decide (p.2.1 ≤ p.1) && decide (p.1 ≤ p.2.2))), [])
theorem c59 (r lo hi : Int) : g59 [.one (.int .i32 r), .one (.int .i32 lo), .one (.int .i32 hi)] = some (.one (.bool (decide (lo ≤ r) && decide (r ≤ hi))), []) := relG_eq p3I_inj (r, lo, hi)
def letterB (r : Int) : Bool := Utf8.valid r && !decide (r = 215) && !decide (r = 247) && !(decide (8192 ≤ r) && decide (r ≤ 8303)) && (decide (192 ≤ r) || (decide (65 ≤ r) && decide (r ≤ 90)) || (decide (97 ≤ r) && decide (r ≤ 122)))
noncomputable def g35 : GP := relG pI fun r => (.one (.bool (letterB r)), [])
theorem c35 (r : Int) : g35 [.one (.int .i32 r)] = some (.one (.bool (letterB r)), []) := relG_eq pI_inj r
noncomputable def g17 : GP := relG pS fun s => (.tup [.one (.vrow 1 (R32 (decR s))), .one (.int .i64 (decE s))], [s.length ≤ 1099511627776])
theorem c17 (s : List UInt8) : g17 [.one (.str s)] = some (.tup [.one (.vrow 1 (R32 (decR s))), .one (.int .i64 (decE s))], [s.length ≤ 1099511627776]) := relG_eq pS_inj s
/-- Which of two rows comes first. -/
def cmpL : List Int → List Int → Int
  | [], [] => 0
  | [], _ :: _ => -1
  | _ :: _, [] => 1
  | x :: a, y :: b => if x < y then -1 else if y < x then 1 else cmpL a b
theorem cmpL_zero : ∀ {a b : List Int}, cmpL a b = 0 ↔ a = b
  | [], [] => by simp [cmpL]
  | [], _ :: _ => by simp [cmpL]
  | _ :: _, [] => by simp [cmpL]
  | x :: a, y :: b => by
    simp only [cmpL]
    split
    · simp; omega
    · split
      · simp; omega
      · rw [cmpL_zero (a := a)]
        have : x = y := by omega
        simp [this]
theorem drop_cons {α : Type} {a : List α} {i : Nat} (d : α) (h : i < a.length) : a.drop i = a.getD i d :: a.drop (i + 1) := by
  rw [List.drop_eq_getElem_cons h, List.getD_eq_getElem?_getD, List.getElem?_eq_getElem h]; rfl
theorem cmpL_step (a b : List Int) (i : Nat) : cmpL (a.drop i) (b.drop i) = if i < a.length then (if i < b.length then (if a.getD i 0 < b.getD i 0 then -1 else if b.getD i 0 < a.getD i 0 then 1 else cmpL (a.drop (i + 1)) (b.drop (i + 1))) else 1) else if i < b.length then -1 else 0 := by
  by_cases h1 : i < a.length <;> by_cases h2 : i < b.length
  · rw [if_pos h1, if_pos h2, drop_cons 0 h1, drop_cons 0 h2]; rfl
  · rw [if_pos h1, if_neg h2, drop_cons 0 h1, List.drop_eq_nil_of_le (by omega : b.length ≤ i)]; rfl
  · rw [if_neg h1, if_pos h2, drop_cons 0 h2, List.drop_eq_nil_of_le (by omega : a.length ≤ i)]; rfl
  · rw [if_neg h1, if_neg h2, List.drop_eq_nil_of_le (by omega : b.length ≤ i), List.drop_eq_nil_of_le (by omega : a.length ≤ i)]; rfl
noncomputable def g37 : GP := relG pRR fun p => (.one (.int .i64 (cmpL p.1 p.2)), [p.1.length ≤ 1099511627776])
theorem c37 (a b : List Int) : g37 [.one (.vrow 1 (R32 a)), .one (.vrow 1 (R32 b))] = some (.one (.int .i64 (cmpL a b)), [a.length ≤ 1099511627776]) := relG_eq pRR_inj (a, b)
noncomputable def g18 : GP := relG pRR fun p => (.one (.bool (decide (p.1 = p.2))), [p.1.length ≤ 1099511627776])
theorem c18 (a b : List Int) : g18 [.one (.vrow 1 (R32 a)), .one (.vrow 1 (R32 b))] = some (.one (.bool (decide (a = b))), [a.length ≤ 1099511627776]) := relG_eq pRR_inj (a, b)
def pU (_ : Unit) : List AV := []
theorem pU_inj (a b : Unit) (_ : pU a = pU b) : a = b := rfl
noncomputable def g16 : GP := relG pU fun _ => (.one (.bool true), [])
theorem c16 : g16 [] = some (.one (.bool true), []) := relG_eq pU_inj ()
end Go.EA
