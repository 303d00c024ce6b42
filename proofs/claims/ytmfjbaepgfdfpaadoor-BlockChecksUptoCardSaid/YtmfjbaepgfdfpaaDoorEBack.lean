/- What is encoded is decoded, and the other way round. Conditions: none. -/
import Derived.Test.YtmfjbaepgfdfpaaDoorEBits
set_option linter.unusedVariables false
set_option linter.unusedSimpArgs false
namespace Go.EA
theorem encL_cons (r : Int) (l : List Int) : encL (r :: l) = encB r ++ encL l := rfl
theorem enc_runes : ∀ (n : Nat) (s : List UInt8), s.length ≤ n → decOk s = true → encL ((runes s).map (·.1)) = s ∧ ((runes s).map (·.1)).all Utf8.valid = true
  | n, [], _, _ => ⟨rfl, rfl⟩
  | 0, x :: s, h, _ => by simp at h
  | n + 1, x :: s, h, hk => by
    have hne := List.cons_ne_nil x s
    generalize x :: s = t at *
    rw [decOk_cons hne, Bool.and_eq_true] at hk
    have hw := dec_width hne
    obtain ⟨e1, e2⟩ := enc_runes n (t.drop (dec t).2) (by rw [List.length_drop]; omega) hk.2
    obtain ⟨f1, f2⟩ := enc_dec hne hk.1
    rw [runes_cons hne, List.map_cons]
    refine ⟨?_, ?_⟩
    · rw [encL_cons, e1]
      show encB ((dec t).1 : Int) ++ _ = t
      rw [f2, List.take_append_drop]
    · rw [List.all_cons, e2]
      show (Utf8.valid ((dec t).1 : Int) && true) = true
      rw [f1]; rfl
end Go.EA

