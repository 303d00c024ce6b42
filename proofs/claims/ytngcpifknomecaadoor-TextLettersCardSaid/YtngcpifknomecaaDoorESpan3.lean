/- A text's tokens: what the laws of layer 2 need. Conditions: none. -/
import Derived.Test.YtngcpifknomecaaDoorESpan2
set_option linter.unusedVariables false
set_option linter.unusedSimpArgs false
namespace Go.EA

theorem decOk_cut : ∀ (n : Nat) {a b : List UInt8}, a.length ≤ n → isR b = true → decOk (a ++ b) = true → decOk a = true
  | n, [], b, _, _, _ => by unfold decOk; rw [runes_nil]; rfl
  | 0, x :: a, b, h, _, _ => by simp at h
  | n + 1, x :: a, b, h, hb, hab => by
    have ha : x :: a ≠ [] := by simp
    rw [decOk_cons (s := (x :: a) ++ b) (by simp), Bool.and_eq_true] at hab
    rcases Nat.lt_or_ge (x :: a).length (dec ((x :: a) ++ b)).2 with h1 | h1
    · obtain ⟨h2, h3⟩ := dec_over ha hab.1 h1
      rw [h3] at hb; cases hb
    · have hd := dec_pre ha hab.1 h1
      have hr : isR (x :: a) = true := by have := hab.1; unfold isR at this ⊢; rw [hd]; exact this
      have hw := dec_width ha
      rw [decOk_cons ha, hr, Bool.true_and]
      rw [← hd, List.drop_append_of_le_length hw.2] at hab
      exact decOk_cut n (by rw [List.length_drop]; simp at h ⊢; omega) hb hab.2
theorem rn_app {a : List UInt8} (b : List UInt8) (h : decOk a = true) : rn (a ++ b) = rn a ++ rn b := by
  unfold rn; rw [runes_app a.length (Nat.le_refl _) h, List.map_append]
theorem decOk_app {a : List UInt8} (b : List UInt8) (h : decOk a = true) : decOk (a ++ b) = decOk b := by
  unfold decOk at h ⊢
  rw [runes_app a.length (Nat.le_refl _) h, List.all_append, h, Bool.true_and]
theorem decOk_mid (a : List UInt8) {b : List UInt8} (h : isR b = true) : decOk (a ++ b) = (decOk a && decOk b) := by
  cases ha : decOk a
  · cases hab : decOk (a ++ b)
    · rfl
    · rw [decOk_cut a.length (Nat.le_refl _) h hab] at ha; cases ha
  · rw [decOk_app b ha]; rfl
theorem sign {c : UInt8} {r : Int} (hv : Utf8.valid r = true) (he : encB r = [c]) (b : List UInt8) : isR (c :: b) = true ∧ decOk (c :: b) = decOk b ∧ rn (c :: b) = r :: rn b := by
  have h := runes_enc hv b
  rw [he] at h
  have h : runes (c :: b) = (r, true) :: runes b := h
  have h2 := runes_cons (s := c :: b) (by simp)
  rw [h] at h2
  refine ⟨?_, ?_, ?_⟩
  · simp only [List.cons.injEq, Prod.mk.injEq] at h2; exact h2.1.2.symm
  · unfold decOk; rw [h]; simp
  · unfold rn; rw [h]; rfl
theorem mid_ok {c : UInt8} {r : Int} (hv : Utf8.valid r = true) (he : encB r = [c]) (a b : List UInt8) : decOk (a ++ [c] ++ b) = (decOk a && decOk b) := by
  rw [List.append_assoc]
  have h := sign hv he b
  rw [show [c] ++ b = c :: b from rfl, decOk_mid a h.1, h.2.1]
theorem spE_ok {s : List UInt8} (h : s.length ≤ 1048576) : spE s = 0 ↔ decOk s = true := by
  unfold spE
  rw [if_neg (by omega)]
  cases decOk s <;> simp
theorem spE_3 {s : List UInt8} (h : s.length ≤ 1048576) (hk : decOk s = false) : spE s = 3 := by
  unfold spE; rw [if_neg (by omega), hk]; rfl
theorem mid_toks {c : UInt8} {r : Int} (hv : Utf8.valid r = true) (he : encB r = [c]) (hl : letterB r = false) {a b : List UInt8} (ha : decOk a = true) (hb : decOk b = true) (h : (a ++ [c] ++ b).length ≤ 1048576) :
    toks (a ++ [c] ++ b) (spL (a ++ [c] ++ b)) = toks a (spL a) ++ toks b (spL b) := by
  have hk : decOk (a ++ [c] ++ b) = true := by rw [mid_ok hv he, ha, hb]; rfl
  simp only [List.length_append] at h
  rw [toks_spL (by simp only [List.length_append]; omega) hk, toks_spL (by omega) ha, toks_spL (by omega) hb]
  have h := sign hv he b
  rw [List.append_assoc, show [c] ++ b = c :: b from rfl, rn_app _ ha, h.2.2, tokT_app hl]
theorem toks_len (s : List UInt8) : (toks s (spL s)).length ≤ 1048576 := by
  unfold toks
  rw [List.length_map]
  exact Nat.le_trans (List.length_filter_le _ _) (spL_len s)
theorem lettersB_ok {w : List UInt8} (h : lettersB w = true) : decOk w = true ∧ (rn w).all letterB = true ∧ rn w ≠ [] ∧ w ≠ [] := by
  unfold lettersB at h
  simp only [Bool.and_eq_true, decide_eq_true_eq] at h
  have hk := decE_zero.1 h.1.1
  have hr : decR w = rn w := by unfold decR rn; rw [if_pos hk]
  rw [hr] at h
  refine ⟨hk, h.2, fun e => by rw [e] at h; simp at h, ?_⟩
  rintro rfl
  have : rn [] = [] := rfl
  rw [this] at h; simp at h
theorem toks_let {w : List UInt8} (h : lettersB w = true) (hl : w.length ≤ 1048576) : toks w (spL w) = [w] := by
  obtain ⟨hk, ha, hn, _⟩ := lettersB_ok h
  rw [toks_spL hl hk, tokT_let ha hn, encL_rn hk]
theorem toks_none {o : List UInt8} (hk : decOk o = true) (hl : o.length ≤ 1048576) (hn : ∀ r ∈ rn o, letterB r = false) : toks o (spL o) = [] := by
  rw [toks_spL hl hk, tokT_eq]
  have := tokG_none [] hn
  rw [List.append_nil] at this
  rw [this]; rfl
theorem around {o w : List UInt8} (hk : decOk o = true) (h : lettersB w = true) (hl : (o ++ w ++ o).length ≤ 1048576) (hn : ∀ r ∈ rn o, letterB r = false) : decOk (o ++ w ++ o) = true ∧ toks (o ++ w ++ o) (spL (o ++ w ++ o)) = [w] := by
  obtain ⟨hw, ha, hne, _⟩ := lettersB_ok h
  have hok : decOk (o ++ w ++ o) = true := by rw [List.append_assoc, decOk_app _ hk, decOk_app _ hw, hk]
  refine ⟨hok, ?_⟩
  rw [toks_spL hl hok, List.append_assoc, rn_app _ hk, rn_app _ hw, tokT_eq, tokG_none _ hn]
  cases ho : rn o with
  | nil =>
    rw [List.append_nil, ← tokT_eq, tokT_let ha hne, encL_rn hw]
  | cons r q =>
    rw [ho] at hn
    rw [tokG_app (hn r (by simp))]
    have e1 : tokG q = [] := by
      have := tokG_none (p := q) [] fun x hx => hn x (by simp [hx])
      rw [List.append_nil] at this
      rw [this]; rfl
    rw [e1, List.append_nil, ← tokT_eq, tokT_let ha hne, encL_rn hw]
theorem isR_of_ok {w : List UInt8} (h : decOk w = true) (hn : w ≠ []) : isR w = true := by
  rw [decOk_cons hn, Bool.and_eq_true] at h; exact h.1
theorem around_bad {o w : List UInt8} (hk : decOk o = false) (h : lettersB w = true) : decOk (o ++ w ++ o) = false := by
  obtain ⟨hw, _, _, hne⟩ := lettersB_ok h
  rw [List.append_assoc, decOk_mid o (isR_app hne (isR_of_ok hw hne)), hk]; rfl
theorem e32 : encB 32 = [32] ∧ letterB 32 = false ∧ Utf8.valid 32 = true := by decide +kernel
theorem e55 : encB 55 = [55] ∧ letterB 55 = false ∧ Utf8.valid 55 = true := by decide +kernel
end Go.EA
