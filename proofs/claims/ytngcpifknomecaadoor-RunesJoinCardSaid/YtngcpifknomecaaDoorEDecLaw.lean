/- The runes of two texts one behind the other. Conditions: none. -/
import Derived.Test.YtngcpifknomecaaDoorEDec
set_option linter.unusedVariables false
set_option linter.unusedSimpArgs false
namespace Go.EA
def byt (s : List UInt8) (k : Nat) : Nat := (s.getD k 0).toNat
def ct (s : List UInt8) (k : Nat) : Bool := decide (k < s.length) && byt s k / 64 == 2
def decB (s : List UInt8) : Nat × Nat :=
  if byt s 0 < 0x80 then (byt s 0, 1)
  else if byt s 0 / 32 == 6 && ct s 1 then
    if (byt s 0 % 32) * 64 + byt s 1 % 64 ≥ 0x80 then ((byt s 0 % 32) * 64 + byt s 1 % 64, 2) else (65533, 1)
  else if byt s 0 / 16 == 14 && ct s 1 && ct s 2 then
    if (byt s 0 % 16) * 4096 + (byt s 1 % 64) * 64 + byt s 2 % 64 ≥ 0x800 && Utf8.valid ((byt s 0 % 16) * 4096 + (byt s 1 % 64) * 64 + byt s 2 % 64 : Nat) then ((byt s 0 % 16) * 4096 + (byt s 1 % 64) * 64 + byt s 2 % 64, 3) else (65533, 1)
  else if byt s 0 / 8 == 30 && ct s 1 && ct s 2 && ct s 3 then
    if (byt s 0 % 8) * 262144 + (byt s 1 % 64) * 4096 + (byt s 2 % 64) * 64 + byt s 3 % 64 ≥ 0x10000 && Utf8.valid ((byt s 0 % 8) * 262144 + (byt s 1 % 64) * 4096 + (byt s 2 % 64) * 64 + byt s 3 % 64 : Nat) then ((byt s 0 % 8) * 262144 + (byt s 1 % 64) * 4096 + (byt s 2 % 64) * 64 + byt s 3 % 64, 4) else (65533, 1)
  else (65533, 1)
theorem dec_eq {s : List UInt8} (h : s ≠ []) : dec s = decB s := by
  have hl : ¬ s.length = 0 := fun e => h (List.eq_nil_of_length_eq_zero e)
  have hg : ∀ k, ((⟨s.toArray⟩ : ByteArray).get! k).toNat = byt s k := by
    intro k
    unfold byt
    congr 1
    show (s.toArray)[k]! = _
    simp [List.getD_eq_getElem?_getD]
    rfl
  unfold dec
  rw [if_neg hl]
  unfold Utf8.decode decB ct
  simp only [Nat.zero_add, hg, size_mk]
  rfl
theorem byt_app {a b : List UInt8} {k : Nat} (h : k < a.length) : byt (a ++ b) k = byt a k := by
  unfold byt
  rw [List.getD_eq_getElem?_getD, List.getD_eq_getElem?_getD, List.getElem?_append_left h]
theorem byt_app2 {a b : List UInt8} : byt (a ++ b) a.length = byt b 0 := by
  unfold byt
  rw [List.getD_eq_getElem?_getD, List.getD_eq_getElem?_getD, List.getElem?_append_right (Nat.le_refl _), Nat.sub_self]
theorem ct_iff {s : List UInt8} {k : Nat} : ct s k = true ↔ k < s.length ∧ byt s k / 64 = 2 := by simp [ct]
theorem ct_app {a b : List UInt8} {k : Nat} (h : k < a.length) : ct (a ++ b) k = ct a k := by
  rw [Bool.eq_iff_iff, ct_iff, ct_iff, byt_app h, List.length_append]
  constructor
  · rintro ⟨_, h2⟩; exact ⟨h, h2⟩
  · rintro ⟨_, h2⟩; exact ⟨by omega, h2⟩
/-- What a rune's first bytes are. -/
theorem isR_cases {s : List UInt8} (h : s ≠ []) (hr : isR s = true) :
    (byt s 0 < 0x80 ∧ (dec s).2 = 1) ∨ (0x80 ≤ byt s 0 ∧ byt s 0 / 32 = 6 ∧ ct s 1 = true ∧ (dec s).2 = 2) ∨ (byt s 0 / 16 = 14 ∧ ct s 1 = true ∧ ct s 2 = true ∧ (dec s).2 = 3) ∨ (byt s 0 / 8 = 30 ∧ ct s 1 = true ∧ ct s 2 = true ∧ ct s 3 = true ∧ (dec s).2 = 4) := by
  unfold isR at hr
  rw [dec_eq h] at hr ⊢
  unfold decB at hr ⊢
  split at hr
  · rename_i h1; rw [if_pos h1]; exact .inl ⟨h1, rfl⟩
  · rename_i h1
    rw [if_neg h1]
    split at hr
    · rename_i h2
      rw [if_pos h2]
      simp only [Bool.and_eq_true, beq_iff_eq] at h2
      split at hr
      · rename_i h3; rw [if_pos h3]; exact .inr (.inl ⟨by omega, h2.1, h2.2, rfl⟩)
      · simp at hr
    · rename_i h2
      rw [if_neg h2]
      split at hr
      · rename_i h3
        rw [if_pos h3]
        simp only [Bool.and_eq_true, beq_iff_eq] at h3
        split at hr
        · rename_i h4; rw [if_pos h4]; exact .inr (.inr (.inl ⟨h3.1.1, h3.1.2, h3.2, rfl⟩))
        · simp at hr
      · rename_i h3
        rw [if_neg h3]
        split at hr
        · rename_i h4
          rw [if_pos h4]
          simp only [Bool.and_eq_true, beq_iff_eq] at h4
          split at hr
          · rename_i h5; rw [if_pos h5]; exact .inr (.inr (.inr ⟨h4.1.1.1, h4.1.1.2, h4.1.2, h4.2, rfl⟩))
          · simp at hr
        · simp at hr
/-- The same first bytes, the same rune. -/
theorem dec_same {s t : List UInt8} (hs : s ≠ []) (ht : t ≠ []) {n : Nat} (hn : n ≤ s.length) (hn2 : n ≤ t.length) (hb : ∀ k, k < n → byt s k = byt t k)
    (h : (byt s 0 < 0x80 ∧ n = 1) ∨ (0x80 ≤ byt s 0 ∧ byt s 0 / 32 = 6 ∧ ct s 1 = true ∧ n = 2) ∨ (byt s 0 / 16 = 14 ∧ ct s 1 = true ∧ ct s 2 = true ∧ n = 3) ∨ (byt s 0 / 8 = 30 ∧ ct s 1 = true ∧ ct s 2 = true ∧ ct s 3 = true ∧ n = 4)) : dec t = dec s := by
  have hc : ∀ k, k < n → ct s k = true → ct t k = true := fun k hk h => by
    rw [ct_iff] at h ⊢
    rw [← hb k hk]; exact ⟨by omega, h.2⟩
  rw [dec_eq hs, dec_eq ht]
  unfold decB
  rcases h with ⟨h1, rfl⟩ | ⟨h0, h1, h2, rfl⟩ | ⟨h1, h2, h3, rfl⟩ | ⟨h1, h2, h3, h4, rfl⟩
  · rw [← hb 0 (by omega), if_pos h1, if_pos h1]
  · have c1 := hc 1 (by omega) h2
    have n1 : ¬ byt s 0 < 0x80 := by omega
    simp only [← hb 0 (by omega), ← hb 1 (by omega), n1, if_false, h1, h2, c1, Bool.and_true, beq_self_eq_true, if_true]
  · have c1 := hc 1 (by omega) h2
    have c2 := hc 2 (by omega) h3
    have n1 : ¬ byt s 0 < 0x80 := by omega
    have n2 : (byt s 0 / 32 == 6) = false := by rw [beq_eq_false_iff_ne]; omega
    simp only [← hb 0 (by omega), ← hb 1 (by omega), ← hb 2 (by omega), n1, n2, if_false, h1, h2, h3, c1, c2, Bool.and_true, Bool.false_and, beq_self_eq_true, if_true, Bool.false_eq_true]
  · have c1 := hc 1 (by omega) h2
    have c2 := hc 2 (by omega) h3
    have c3 := hc 3 (by omega) h4
    have n1 : ¬ byt s 0 < 0x80 := by omega
    have n2 : (byt s 0 / 32 == 6) = false := by rw [beq_eq_false_iff_ne]; omega
    have n3 : (byt s 0 / 16 == 14) = false := by rw [beq_eq_false_iff_ne]; omega
    simp only [← hb 0 (by omega), ← hb 1 (by omega), ← hb 2 (by omega), ← hb 3 (by omega), n1, n2, n3, if_false, h1, h2, h3, h4, c1, c2, c3, Bool.and_true, Bool.false_and, beq_self_eq_true, if_true, Bool.false_eq_true]
theorem isR_width {s : List UInt8} (h : s ≠ []) : (dec s).2 ≤ s.length := (dec_width h).2
theorem dec_app {a b : List UInt8} (ha : a ≠ []) (hr : isR a = true) : dec (a ++ b) = dec a := by
  have hw := dec_width ha
  exact dec_same ha (by simp [ha]) hw.2 (by rw [List.length_append]; omega) (fun k hk => (byt_app (by omega)).symm) (isR_cases ha hr)
theorem isR_app {a b : List UInt8} (ha : a ≠ []) (hr : isR a = true) : isR (a ++ b) = true := by
  have := dec_app (b := b) ha hr
  unfold isR at hr ⊢; rw [this]; exact hr
theorem dec_pre {a b : List UInt8} (ha : a ≠ []) (hr : isR (a ++ b) = true) (hn : (dec (a ++ b)).2 ≤ a.length) : dec a = dec (a ++ b) :=
  dec_same (by simp [ha]) ha (by rw [List.length_append]; omega) hn (fun k hk => byt_app (by omega)) (isR_cases (by simp [ha]) hr)
theorem not_isR {b : List UInt8} (hb : b ≠ []) (h : byt b 0 / 64 = 2) : isR b = false := by
  cases hr : isR b with
  | false => rfl
  | true => rcases isR_cases hb hr with h1 | h1 | h1 | h1 <;> omega
theorem dec_over {a b : List UInt8} (ha : a ≠ []) (hr : isR (a ++ b) = true) (hn : a.length < (dec (a ++ b)).2) : b ≠ [] ∧ isR b = false := by
  have hl : 0 < a.length := List.length_pos_iff.2 ha
  have hw := isR_width (s := a ++ b) (by simp [ha])
  have hb : b ≠ [] := by rintro rfl; simp at hw hn; omega
  refine ⟨hb, not_isR hb ?_⟩
  have hk : ∀ k, ct (a ++ b) k = true → k = a.length → byt b 0 / 64 = 2 := fun k hk e => by
    subst e
    have := (ct_iff.1 hk).2
    rwa [byt_app2] at this
  rcases isR_cases (by simp [ha]) hr with ⟨_, h⟩ | ⟨_, _, c1, h⟩ | ⟨_, c1, c2, h⟩ | ⟨_, c1, c2, c3, h⟩
  · omega
  · exact hk 1 c1 (by omega)
  · rcases (by omega : a.length = 1 ∨ a.length = 2) with e | e
    · exact hk 1 c1 e.symm
    · exact hk 2 c2 e.symm
  · rcases (by omega : a.length = 1 ∨ a.length = 2 ∨ a.length = 3) with e | e | e
    · exact hk 1 c1 e.symm
    · exact hk 2 c2 e.symm
    · exact hk 3 c3 e.symm
theorem decOk_cons {s : List UInt8} (h : s ≠ []) : decOk s = (isR s && decOk (s.drop (dec s).2)) := by
  unfold decOk; rw [runes_cons h]; rfl
theorem runes_app : ∀ (n : Nat) {a b : List UInt8}, a.length ≤ n → decOk a = true → runes (a ++ b) = runes a ++ runes b
  | n, [], b, _, _ => by simp [runes_nil]
  | 0, x :: a, b, h, _ => by simp at h
  | n + 1, x :: a, b, h, hok => by
    have ha : x :: a ≠ [] := by simp
    rw [decOk_cons ha, Bool.and_eq_true] at hok
    have hw := dec_width ha
    rw [runes_cons (s := (x :: a) ++ b) (by simp), runes_cons ha, dec_app ha hok.1, isR_app ha hok.1, hok.1, List.drop_append_of_le_length hw.2]
    rw [runes_app n (by rw [List.length_drop]; simp at h ⊢; omega) hok.2]
    rfl
theorem decOk_left : ∀ (n : Nat) {a b : List UInt8}, a.length ≤ n → decOk (a ++ b) = true → decOk b = true → decOk a = true
  | n, [], b, _, _, _ => by unfold decOk; rw [runes_nil]; rfl
  | 0, x :: a, b, h, _, _ => by simp at h
  | n + 1, x :: a, b, h, hab, hb => by
    have ha : x :: a ≠ [] := by simp
    rw [decOk_cons (s := (x :: a) ++ b) (by simp), Bool.and_eq_true] at hab
    rcases Nat.lt_or_ge (x :: a).length (dec ((x :: a) ++ b)).2 with h1 | h1
    · obtain ⟨h2, h3⟩ := dec_over ha hab.1 h1
      rw [decOk_cons h2, h3] at hb; cases hb
    · have hd := dec_pre ha hab.1 h1
      have hr : isR (x :: a) = true := by have := hab.1; unfold isR at this ⊢; rw [hd]; exact this
      have hw := dec_width ha
      rw [decOk_cons ha, hr, Bool.true_and]
      rw [← hd, List.drop_append_of_le_length hw.2] at hab
      exact decOk_left n (by rw [List.length_drop]; simp at h ⊢; omega) hab.2 hb
theorem decE_zero {s : List UInt8} : decE s = 0 ↔ decOk s = true := by unfold decE; split <;> simp_all
theorem decE_nz {s : List UInt8} : decE s ≠ 0 ↔ decOk s = false := by unfold decE; split <;> simp_all
theorem dec_join (a b : List UInt8) (ha : decE a = 0) (hb : decE b = 0) : decE (a ++ b) = 0 ∧ decR (a ++ b) = decR a ++ decR b := by
  rw [decE_zero] at ha hb
  have h := runes_app a.length (b := b) (Nat.le_refl _) ha
  have hok : decOk (a ++ b) = true := by
    unfold decOk at ha hb ⊢
    rw [h, List.all_append, ha, hb]; rfl
  refine ⟨decE_zero.2 hok, ?_⟩
  unfold decR
  rw [hok, ha, hb, h]
  simp
theorem dec_split (a b : List UInt8) (h : decE (a ++ b) = 0) : decE a = 0 ↔ decE b = 0 := by
  rw [decE_zero] at h
  rw [decE_zero, decE_zero]
  constructor
  · intro ha
    have := runes_app a.length (b := b) (Nat.le_refl _) ha
    unfold decOk at h ha ⊢
    rw [this, List.all_append, ha] at h
    simpa using h
  · exact decOk_left a.length (Nat.le_refl _) h
end Go.EA
