/- The distance of two rows as the fewest steps: symmetry, the third row, bounds. Conditions: none. -/
import Derived.Test.YtmfjbaepgfdfpaaDoorELev
set_option linter.unusedVariables false
set_option linter.unusedSimpArgs false
namespace Go.EA
/-- Steps from a row to another one, of which n aren't matches. -/
inductive Ed : List Int → List Int → Nat → Prop
  | nil : Ed [] [] 0
  | keep (x : Int) {a b n} : Ed a b n → Ed (x :: a) (x :: b) n
  | sub (x y : Int) {a b n} : Ed a b n → Ed (x :: a) (y :: b) (n + 1)
  | del (x : Int) {a b n} : Ed a b n → Ed (x :: a) b (n + 1)
  | ins (y : Int) {a b n} : Ed a b n → Ed a (y :: b) (n + 1)
theorem Ed.lev_le {a b : List Int} {n : Nat} (h : Ed a b n) : lev a b ≤ n := by
  induction h with
  | nil => exact Nat.le_refl _
  | keep x h ih => rw [lev_cons, if_pos rfl]; omega
  | sub x y h ih => rw [lev_cons]; split <;> omega
  | @del x a b n h ih =>
    cases b with
    | nil => rw [lev_nil_right] at *; simp only [List.length_cons]; omega
    | cons y b => rw [lev_cons]; omega
  | @ins y a b n h ih =>
    cases a with
    | nil => rw [lev_nil_left] at *; simp only [List.length_cons]; omega
    | cons x a => rw [lev_cons]; omega
theorem Ed.symm {a b : List Int} {n : Nat} (h : Ed a b n) : Ed b a n := by
  induction h with
  | nil => exact .nil
  | keep x h ih => exact .keep x ih
  | sub x y h ih => exact .sub y x ih
  | del x h ih => exact .ins x ih
  | ins y h ih => exact .del y ih
theorem Ed.len {a b : List Int} {n : Nat} (h : Ed a b n) : a.length ≤ b.length + n ∧ b.length ≤ a.length + n := by
  induction h with
  | nil => simp
  | keep x h ih => simp only [List.length_cons]; omega
  | sub x y h ih => simp only [List.length_cons]; omega
  | del x h ih => simp only [List.length_cons]; omega
  | ins y h ih => simp only [List.length_cons]; omega
theorem Ed.same {a b : List Int} {n : Nat} (h : Ed a b n) (h0 : n = 0) : a = b := by
  induction h with
  | nil => rfl
  | keep x h ih => rw [ih h0]
  | sub x y h ih => omega
  | del x h ih => omega
  | ins y h ih => omega
theorem Ed.refl : ∀ (a : List Int), Ed a a 0
  | [] => .nil
  | x :: a => .keep x (Ed.refl a)
theorem Ed.trans : ∀ (N : Nat) {a b c : List Int} {n m : Nat}, a.length + b.length + c.length ≤ N → Ed a b n → Ed b c m → ∃ k, k ≤ n + m ∧ Ed a c k
  | 0, a, b, c, n, m, hN, h, h' => by
    obtain rfl : a = [] := List.eq_nil_of_length_eq_zero (by omega)
    obtain rfl : c = [] := List.eq_nil_of_length_eq_zero (by omega)
    exact ⟨0, by omega, .nil⟩
  | N + 1, a, b, c, n, m, hN, h, h' => by
    cases h' with
    | nil => exact ⟨n, by omega, h⟩
    | @ins z _ c m h' =>
      obtain ⟨k, hk, he⟩ := Ed.trans N (by simp only [List.length_cons] at hN; omega) h h'
      exact ⟨k + 1, by omega, .ins z he⟩
    | @keep y b c m h' =>
      cases h with
      | @keep _ a _ n h =>
        obtain ⟨k, hk, he⟩ := Ed.trans N (by simp only [List.length_cons] at hN; omega) h h'
        exact ⟨k, hk, .keep y he⟩
      | @sub x _ a _ n h =>
        obtain ⟨k, hk, he⟩ := Ed.trans N (by simp only [List.length_cons] at hN; omega) h h'
        exact ⟨k + 1, by omega, .sub x y he⟩
      | @del x a _ n h =>
        obtain ⟨k, hk, he⟩ := Ed.trans N (by simp only [List.length_cons] at hN ⊢; omega) h (.keep y h')
        exact ⟨k + 1, by omega, .del x he⟩
      | @ins _ _ _ n h =>
        obtain ⟨k, hk, he⟩ := Ed.trans N (by simp only [List.length_cons] at hN; omega) h h'
        exact ⟨k + 1, by omega, .ins y he⟩
    | @sub y z b c m h' =>
      cases h with
      | @keep _ a _ n h =>
        obtain ⟨k, hk, he⟩ := Ed.trans N (by simp only [List.length_cons] at hN; omega) h h'
        exact ⟨k + 1, by omega, .sub y z he⟩
      | @sub x _ a _ n h =>
        obtain ⟨k, hk, he⟩ := Ed.trans N (by simp only [List.length_cons] at hN; omega) h h'
        exact ⟨k + 1, by omega, .sub x z he⟩
      | @del x a _ n h =>
        obtain ⟨k, hk, he⟩ := Ed.trans N (by simp only [List.length_cons] at hN ⊢; omega) h (.sub y z h')
        exact ⟨k + 1, by omega, .del x he⟩
      | @ins _ _ _ n h =>
        obtain ⟨k, hk, he⟩ := Ed.trans N (by simp only [List.length_cons] at hN; omega) h h'
        exact ⟨k + 1, by omega, .ins z he⟩
    | @del y b _ m h' =>
      cases h with
      | @keep _ a _ n h =>
        obtain ⟨k, hk, he⟩ := Ed.trans N (by simp only [List.length_cons] at hN; omega) h h'
        exact ⟨k + 1, by omega, .del y he⟩
      | @sub x _ a _ n h =>
        obtain ⟨k, hk, he⟩ := Ed.trans N (by simp only [List.length_cons] at hN; omega) h h'
        exact ⟨k + 1, by omega, .del x he⟩
      | @del x a _ n h =>
        obtain ⟨k, hk, he⟩ := Ed.trans N (by simp only [List.length_cons] at hN ⊢; omega) h (.del y h')
        exact ⟨k + 1, by omega, .del x he⟩
      | @ins _ _ _ n h =>
        obtain ⟨k, hk, he⟩ := Ed.trans N (by simp only [List.length_cons] at hN; omega) h h'
        exact ⟨k, by omega, he⟩
end Go.EA

