/- The first rune of some bytes: what is known of it without a program. Conditions: none. -/
import Derived.Test.YtngcpifknomecaaDoorEPrim
set_option linter.unusedVariables false
set_option linter.unusedSimpArgs false
namespace Go.EA
theorem dec_width {s : List UInt8} (h : s ≠ []) : 1 ≤ (dec s).2 ∧ (dec s).2 ≤ s.length := by
  have hl : 0 < s.length := List.length_pos_iff.2 h
  have hne : ¬ s.length = 0 := by omega
  unfold dec
  rw [if_neg hne]
  unfold Utf8.decode
  simp only [Bool.and_eq_true, decide_eq_true_eq, size_mk]
  repeat' split
  all_goals simp_all
  all_goals omega
/-- Whether a text begins with a rune. -/
def isR (s : List UInt8) : Bool := decide (((dec s).1 : Int) ≠ 65533) || decide (1 < (dec s).2)
/-- A text's runes, and whether each is one. -/
def runesN : Nat → List UInt8 → List (Int × Bool)
  | 0, _ => []
  | n + 1, s => if s = [] then [] else (((dec s).1 : Int), isR s) :: runesN n (s.drop (dec s).2)
def runes (s : List UInt8) : List (Int × Bool) := runesN s.length s
theorem runesN_more : ∀ (n m : Nat) (s : List UInt8), s.length ≤ n → s.length ≤ m → runesN n s = runesN m s
  | 0, m, s, h, _ => by
    have : s = [] := List.eq_nil_of_length_eq_zero (by omega)
    subst this
    cases m <;> simp [runesN]
  | n + 1, 0, s, _, h => by
    have : s = [] := List.eq_nil_of_length_eq_zero (by omega)
    subst this
    simp [runesN]
  | n + 1, m + 1, s, h1, h2 => by
    simp only [runesN]
    by_cases hs : s = []
    · simp [hs]
    · rw [if_neg hs, if_neg hs]
      have hw := dec_width hs
      rw [runesN_more n m (s.drop (dec s).2) (by simp; omega) (by simp; omega)]
theorem runes_nil : runes [] = [] := rfl
theorem runes_cons {s : List UInt8} (h : s ≠ []) : runes s = (((dec s).1 : Int), isR s) :: runes (s.drop (dec s).2) := by
  have hw := dec_width h
  have hl : 0 < s.length := List.length_pos_iff.2 h
  unfold runes
  cases hn : s.length with
  | zero => omega
  | succ n =>
    simp only [runesN]
    rw [if_neg h]
    rw [runesN_more n (s.drop (dec s).2).length _ (by simp; omega) (Nat.le_refl _)]
end Go.EA
namespace Go.EA
theorem runesN_len : ∀ (n : Nat) (s : List UInt8), (runesN n s).length ≤ s.length
  | 0, s => Nat.zero_le _
  | n + 1, s => by
    simp only [runesN]
    by_cases hs : s = []
    · simp [hs]
    · rw [if_neg hs]
      have hw := dec_width hs
      have := runesN_len n (s.drop (dec s).2)
      simp only [List.length_cons, List.length_drop] at this ⊢
      omega
theorem runes_len (s : List UInt8) : (runes s).length ≤ s.length := runesN_len _ _
/-- Is a text one? Its runes; the error. -/
def decOk (s : List UInt8) : Bool := (runes s).all (·.2)
def decR (s : List UInt8) : List Int := if decOk s then (runes s).map (·.1) else []
def decE (s : List UInt8) : Int := if decOk s then 0 else 3
theorem decR_len (s : List UInt8) : (decR s).length ≤ s.length := by
  unfold decR
  split
  · rw [List.length_map]; exact runes_len s
  · exact Nat.zero_le _
end Go.EA
