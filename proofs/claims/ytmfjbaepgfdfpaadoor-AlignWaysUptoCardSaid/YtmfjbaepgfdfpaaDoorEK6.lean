/- Texts of the core, one behind the other. Conditions: none. -/
import Derived.Test.YtmfjbaepgfdfpaaDoorEK4
import Derived.Below
import Derived.Shelf.Unicode.DecodeAny
import Derived.Test.YtmfjbaepgfdfpaaDoorEK5
section
/- Functions of Go's library by the shelf's contracts, as functions with a given meaning. Conditions: none. -/
set_option linter.unusedVariables false
set_option linter.unusedSimpArgs false
namespace Go.EA
open Go.RowKit
/-- Every block that was there is as it was. -/
structure Old (w w' : World) : Prop where
  sz : w.heap.size ≤ w'.heap.size
  os : w'.os = w.os
  tape : w'.tape = w.tape
  output : w'.output = w.output
  keep : ∀ k, k < w.heap.size → w'.heap[k]? = w.heap[k]?

section
variable {S : SC} {H : Heap} {ρ : Rho} {w w' : World}
theorem HRel.old (h : HRel S H ρ w) (o : Old w w') : HRel S H ρ w' ∧ Frm H ρ w H ρ w' := by
  refine HRel.mk2 h (fun i hi => ?_) h.ap ⟨o.sz, o.os, o.tape, o.output, Nat.le_refl _, fun _ _ => rfl, fun k hk hn => ⟨o.keep k hk, hn⟩, fun _ _ h => h, fun _ _ _ => rfl⟩
  cases hd : live (H.o i) with
  | false =>
    have : H.o i = .dead := by revert hd; cases H.o i <;> simp [live]
    rw [this]; trivial
  | true => rw [o.keep _ (h.lt' hi hd)]; exact h.obj i hi

theorem below_old {w w' : World} (h : Below w.heap.size w w') : Old w w' := ⟨h.size, h.os, h.tape, h.output, h.block⟩

/-- A contract that leaves every old block as it was, as a meaning. -/
theorem prOk_below {i : Nat} (hent : ∀ args w, (callFunc (S.re i) args).run S.C.P w = .ok (.enter (S.re i) args) w) (g : GP)
    (hc : ∀ xs v c, g xs = some (v, c) → AllT c → ∀ H ρ w vs, All2 (VRel S ρ H.n) xs vs → HRel S H ρ w → Calls S.C.P (S.re i) vs.toArray w fun e w' => ∃ u, e = .returned u ∧ VRel S ρ H.n v u ∧ Below w.heap.size w w') :
    PrOk S i (pureP g) := by
  intro xs H v H' hp ρ w vs hvs hH
  obtain ⟨hHH, c, hg, hcc⟩ := pureP_inv hp
  subst H'
  refine .inr (.inl ⟨_, _, w, ρ, hent _ _, rfl, rfl, ?_⟩)
  refine (callsIn_wide.2 (hc xs v c hg hcc H ρ w vs hvs hH)).mono fun e w' hr => ?_
  obtain ⟨u, rfl, hu, hb⟩ := hr
  obtain ⟨k1, k2⟩ := hH.old (below_old hb)
  exact ⟨u, ρ, rfl, k1, k2, hu⟩
end

/-- The first rune of some bytes, and how many it takes. -/
def dec (s : List UInt8) : Nat × Nat := if s.length = 0 then (65533, 0) else Utf8.decode ⟨s.toArray⟩ 0
def gDec : GP
  | [.one (.str s)] => some (.tup [.one (.int .i32 (dec s).1), .one (.int .i64 (dec s).2)], [])
  | _ => none

section
variable {S : SC}
theorem pDec_ok {i : Nat} (hent : ∀ args w, (callFunc (S.re i) args).run S.C.P w = .ok (.enter (S.re i) args) w) {ρl : Shelf.Ren} (hf : ρl.f 197 = S.re i) (L : Proofs.Lays.n197 S.C.P ρl) (hT : ∀ H ρ w, HRel S H ρ w → Lib.Utf8Tabs (ρl.g 3) (ρl.g 4) w) : PrOk S i (pureP gDec) := by
  refine prOk_below hent gDec fun xs v c hg _ H ρ w vs hvs hH => ?_
  unfold gDec at hg
  split at hg
  · rename_i s
    cases hg
    obtain ⟨u, us, rfl, hu, ht⟩ := hvs.cons_inv
    obtain rfl := ht.nil_inv
    have hu : u = .string ⟨s.toArray⟩ := hu
    subst hu
    have := Proofs.Any.utf8_DecodeRuneInString L ⟨s.toArray⟩ w (hT H ρ w hH)
    rw [hf] at this
    refine Calls.mono this fun e w' h => ⟨_, h.1, ?_, h.2⟩
    have hd : Lib.decodeGo ⟨s.toArray⟩ = dec s := by
      unfold Lib.decodeGo dec
      rw [size_mk]
    rw [hd]
    exact .inr ⟨_, rfl, All2.cons rfl (All2.cons rfl All2.nil)⟩
  · cases hg
end
end Go.EA
end
section
/- The first rune of some bytes: what is known of it without a program. Conditions: none. -/
set_option linter.unusedVariables false
set_option linter.unusedSimpArgs false
namespace Go.EA
theorem dec_width {s : List UInt8} (h : s ≠ []) : 1 ≤ (dec s).2 ∧ (dec s).2 ≤ s.length := by
  have hl : 0 < s.length := List.length_pos_iff.2 h
  have hne : ¬ s.length = 0 := by omega
  unfold dec
  rw [if_neg hne]
  unfold Utf8.decode
  simp only [Bool.and_eq_true, decide_eq_true_eq, size_mk]
  repeat' split
  all_goals simp_all
  all_goals omega
/-- Whether a text begins with a rune. -/
def isR (s : List UInt8) : Bool := decide (((dec s).1 : Int) ≠ 65533) || decide (1 < (dec s).2)
/-- A text's runes, and whether each is one. -/
def runesN : Nat → List UInt8 → List (Int × Bool)
  | 0, _ => []
  | n + 1, s => if s = [] then [] else (((dec s).1 : Int), isR s) :: runesN n (s.drop (dec s).2)
def runes (s : List UInt8) : List (Int × Bool) := runesN s.length s
theorem runesN_more : ∀ (n m : Nat) (s : List UInt8), s.length ≤ n → s.length ≤ m → runesN n s = runesN m s
  | 0, m, s, h, _ => by
    have : s = [] := List.eq_nil_of_length_eq_zero (by omega)
    subst this
    cases m <;> simp [runesN]
  | n + 1, 0, s, _, h => by
    have : s = [] := List.eq_nil_of_length_eq_zero (by omega)
    subst this
    simp [runesN]
  | n + 1, m + 1, s, h1, h2 => by
    simp only [runesN]
    by_cases hs : s = []
    · simp [hs]
    · rw [if_neg hs, if_neg hs]
      have hw := dec_width hs
      rw [runesN_more n m (s.drop (dec s).2) (by simp; omega) (by simp; omega)]
theorem runes_nil : runes [] = [] := rfl
theorem runes_cons {s : List UInt8} (h : s ≠ []) : runes s = (((dec s).1 : Int), isR s) :: runes (s.drop (dec s).2) := by
  have hw := dec_width h
  have hl : 0 < s.length := List.length_pos_iff.2 h
  unfold runes
  cases hn : s.length with
  | zero => omega
  | succ n =>
    simp only [runesN]
    rw [if_neg h]
    rw [runesN_more n (s.drop (dec s).2).length _ (by simp; omega) (Nat.le_refl _)]
end Go.EA
namespace Go.EA
theorem runesN_len : ∀ (n : Nat) (s : List UInt8), (runesN n s).length ≤ s.length
  | 0, s => Nat.zero_le _
  | n + 1, s => by
    simp only [runesN]
    by_cases hs : s = []
    · simp [hs]
    · rw [if_neg hs]
      have hw := dec_width hs
      have := runesN_len n (s.drop (dec s).2)
      simp only [List.length_cons, List.length_drop] at this ⊢
      omega
theorem runes_len (s : List UInt8) : (runes s).length ≤ s.length := runesN_len _ _
/-- Is a text one? Its runes; the error. -/
def decOk (s : List UInt8) : Bool := (runes s).all (·.2)
def decR (s : List UInt8) : List Int := if decOk s then (runes s).map (·.1) else []
def decE (s : List UInt8) : Int := if decOk s then 0 else 3
theorem decR_len (s : List UInt8) : (decR s).length ≤ s.length := by
  unfold decR
  split
  · rw [List.length_map]; exact runes_len s
  · exact Nat.zero_le _
end Go.EA
end
section
/- The runes of two texts one behind the other. Conditions: none. -/
set_option linter.unusedVariables false
set_option linter.unusedSimpArgs false
namespace Go.EA
def byt (s : List UInt8) (k : Nat) : Nat := (s.getD k 0).toNat
def ct (s : List UInt8) (k : Nat) : Bool := decide (k < s.length) && byt s k / 64 == 2
def decB (s : List UInt8) : Nat × Nat :=
  if byt s 0 < 0x80 then (byt s 0, 1)
  else if byt s 0 / 32 == 6 && ct s 1 then
    if (byt s 0 % 32) * 64 + byt s 1 % 64 ≥ 0x80 then ((byt s 0 % 32) * 64 + byt s 1 % 64, 2) else (65533, 1)
  else if byt s 0 / 16 == 14 && ct s 1 && ct s 2 then
    if (byt s 0 % 16) * 4096 + (byt s 1 % 64) * 64 + byt s 2 % 64 ≥ 0x800 && Utf8.valid ((byt s 0 % 16) * 4096 + (byt s 1 % 64) * 64 + byt s 2 % 64 : Nat) then ((byt s 0 % 16) * 4096 + (byt s 1 % 64) * 64 + byt s 2 % 64, 3) else (65533, 1)
  else if byt s 0 / 8 == 30 && ct s 1 && ct s 2 && ct s 3 then
    if (byt s 0 % 8) * 262144 + (byt s 1 % 64) * 4096 + (byt s 2 % 64) * 64 + byt s 3 % 64 ≥ 0x10000 && Utf8.valid ((byt s 0 % 8) * 262144 + (byt s 1 % 64) * 4096 + (byt s 2 % 64) * 64 + byt s 3 % 64 : Nat) then ((byt s 0 % 8) * 262144 + (byt s 1 % 64) * 4096 + (byt s 2 % 64) * 64 + byt s 3 % 64, 4) else (65533, 1)
  else (65533, 1)
theorem dec_eq {s : List UInt8} (h : s ≠ []) : dec s = decB s := by
  have hl : ¬ s.length = 0 := fun e => h (List.eq_nil_of_length_eq_zero e)
  have hg : ∀ k, ((⟨s.toArray⟩ : ByteArray).get! k).toNat = byt s k := by
    intro k
    unfold byt
    congr 1
    show (s.toArray)[k]! = _
    simp [List.getD_eq_getElem?_getD]
    rfl
  unfold dec
  rw [if_neg hl]
  unfold Utf8.decode decB ct
  simp only [Nat.zero_add, hg, size_mk]
  rfl
theorem byt_app {a b : List UInt8} {k : Nat} (h : k < a.length) : byt (a ++ b) k = byt a k := by
  unfold byt
  rw [List.getD_eq_getElem?_getD, List.getD_eq_getElem?_getD, List.getElem?_append_left h]
theorem byt_app2 {a b : List UInt8} : byt (a ++ b) a.length = byt b 0 := by
  unfold byt
  rw [List.getD_eq_getElem?_getD, List.getD_eq_getElem?_getD, List.getElem?_append_right (Nat.le_refl _), Nat.sub_self]
theorem ct_iff {s : List UInt8} {k : Nat} : ct s k = true ↔ k < s.length ∧ byt s k / 64 = 2 := by simp [ct]
theorem ct_app {a b : List UInt8} {k : Nat} (h : k < a.length) : ct (a ++ b) k = ct a k := by
  rw [Bool.eq_iff_iff, ct_iff, ct_iff, byt_app h, List.length_append]
  constructor
  · rintro ⟨_, h2⟩; exact ⟨h, h2⟩
  · rintro ⟨_, h2⟩; exact ⟨by omega, h2⟩
/-- What a rune's first bytes are. -/
theorem isR_cases {s : List UInt8} (h : s ≠ []) (hr : isR s = true) :
    (byt s 0 < 0x80 ∧ (dec s).2 = 1) ∨ (0x80 ≤ byt s 0 ∧ byt s 0 / 32 = 6 ∧ ct s 1 = true ∧ (dec s).2 = 2) ∨ (byt s 0 / 16 = 14 ∧ ct s 1 = true ∧ ct s 2 = true ∧ (dec s).2 = 3) ∨ (byt s 0 / 8 = 30 ∧ ct s 1 = true ∧ ct s 2 = true ∧ ct s 3 = true ∧ (dec s).2 = 4) := by
  unfold isR at hr
  rw [dec_eq h] at hr ⊢
  unfold decB at hr ⊢
  split at hr
  · rename_i h1; rw [if_pos h1]; exact .inl ⟨h1, rfl⟩
  · rename_i h1
    rw [if_neg h1]
    split at hr
    · rename_i h2
      rw [if_pos h2]
      simp only [Bool.and_eq_true, beq_iff_eq] at h2
      split at hr
      · rename_i h3; rw [if_pos h3]; exact .inr (.inl ⟨by omega, h2.1, h2.2, rfl⟩)
      · simp at hr
    · rename_i h2
      rw [if_neg h2]
      split at hr
      · rename_i h3
        rw [if_pos h3]
        simp only [Bool.and_eq_true, beq_iff_eq] at h3
        split at hr
        · rename_i h4; rw [if_pos h4]; exact .inr (.inr (.inl ⟨h3.1.1, h3.1.2, h3.2, rfl⟩))
        · simp at hr
      · rename_i h3
        rw [if_neg h3]
        split at hr
        · rename_i h4
          rw [if_pos h4]
          simp only [Bool.and_eq_true, beq_iff_eq] at h4
          split at hr
          · rename_i h5; rw [if_pos h5]; exact .inr (.inr (.inr ⟨h4.1.1.1, h4.1.1.2, h4.1.2, h4.2, rfl⟩))
          · simp at hr
        · simp at hr
/-- The same first bytes, the same rune. -/
theorem dec_same {s t : List UInt8} (hs : s ≠ []) (ht : t ≠ []) {n : Nat} (hn : n ≤ s.length) (hn2 : n ≤ t.length) (hb : ∀ k, k < n → byt s k = byt t k)
    (h : (byt s 0 < 0x80 ∧ n = 1) ∨ (0x80 ≤ byt s 0 ∧ byt s 0 / 32 = 6 ∧ ct s 1 = true ∧ n = 2) ∨ (byt s 0 / 16 = 14 ∧ ct s 1 = true ∧ ct s 2 = true ∧ n = 3) ∨ (byt s 0 / 8 = 30 ∧ ct s 1 = true ∧ ct s 2 = true ∧ ct s 3 = true ∧ n = 4)) : dec t = dec s := by
  have hc : ∀ k, k < n → ct s k = true → ct t k = true := fun k hk h => by
    rw [ct_iff] at h ⊢
    rw [← hb k hk]; exact ⟨by omega, h.2⟩
  rw [dec_eq hs, dec_eq ht]
  unfold decB
  rcases h with ⟨h1, rfl⟩ | ⟨h0, h1, h2, rfl⟩ | ⟨h1, h2, h3, rfl⟩ | ⟨h1, h2, h3, h4, rfl⟩
  · rw [← hb 0 (by omega), if_pos h1, if_pos h1]
  · have c1 := hc 1 (by omega) h2
    have n1 : ¬ byt s 0 < 0x80 := by omega
    simp only [← hb 0 (by omega), ← hb 1 (by omega), n1, if_false, h1, h2, c1, Bool.and_true, beq_self_eq_true, if_true]
  · have c1 := hc 1 (by omega) h2
    have c2 := hc 2 (by omega) h3
    have n1 : ¬ byt s 0 < 0x80 := by omega
    have n2 : (byt s 0 / 32 == 6) = false := by rw [beq_eq_false_iff_ne]; omega
    simp only [← hb 0 (by omega), ← hb 1 (by omega), ← hb 2 (by omega), n1, n2, if_false, h1, h2, h3, c1, c2, Bool.and_true, Bool.false_and, beq_self_eq_true, if_true, Bool.false_eq_true]
  · have c1 := hc 1 (by omega) h2
    have c2 := hc 2 (by omega) h3
    have c3 := hc 3 (by omega) h4
    have n1 : ¬ byt s 0 < 0x80 := by omega
    have n2 : (byt s 0 / 32 == 6) = false := by rw [beq_eq_false_iff_ne]; omega
    have n3 : (byt s 0 / 16 == 14) = false := by rw [beq_eq_false_iff_ne]; omega
    simp only [← hb 0 (by omega), ← hb 1 (by omega), ← hb 2 (by omega), ← hb 3 (by omega), n1, n2, n3, if_false, h1, h2, h3, h4, c1, c2, c3, Bool.and_true, Bool.false_and, beq_self_eq_true, if_true, Bool.false_eq_true]
theorem isR_width {s : List UInt8} (h : s ≠ []) : (dec s).2 ≤ s.length := (dec_width h).2
theorem dec_app {a b : List UInt8} (ha : a ≠ []) (hr : isR a = true) : dec (a ++ b) = dec a := by
  have hw := dec_width ha
  exact dec_same ha (by simp [ha]) hw.2 (by rw [List.length_append]; omega) (fun k hk => (byt_app (by omega)).symm) (isR_cases ha hr)
theorem isR_app {a b : List UInt8} (ha : a ≠ []) (hr : isR a = true) : isR (a ++ b) = true := by
  have := dec_app (b := b) ha hr
  unfold isR at hr ⊢; rw [this]; exact hr
theorem dec_pre {a b : List UInt8} (ha : a ≠ []) (hr : isR (a ++ b) = true) (hn : (dec (a ++ b)).2 ≤ a.length) : dec a = dec (a ++ b) :=
  dec_same (by simp [ha]) ha (by rw [List.length_append]; omega) hn (fun k hk => byt_app (by omega)) (isR_cases (by simp [ha]) hr)
theorem not_isR {b : List UInt8} (hb : b ≠ []) (h : byt b 0 / 64 = 2) : isR b = false := by
  cases hr : isR b with
  | false => rfl
  | true => rcases isR_cases hb hr with h1 | h1 | h1 | h1 <;> omega
theorem dec_over {a b : List UInt8} (ha : a ≠ []) (hr : isR (a ++ b) = true) (hn : a.length < (dec (a ++ b)).2) : b ≠ [] ∧ isR b = false := by
  have hl : 0 < a.length := List.length_pos_iff.2 ha
  have hw := isR_width (s := a ++ b) (by simp [ha])
  have hb : b ≠ [] := by rintro rfl; simp at hw hn; omega
  refine ⟨hb, not_isR hb ?_⟩
  have hk : ∀ k, ct (a ++ b) k = true → k = a.length → byt b 0 / 64 = 2 := fun k hk e => by
    subst e
    have := (ct_iff.1 hk).2
    rwa [byt_app2] at this
  rcases isR_cases (by simp [ha]) hr with ⟨_, h⟩ | ⟨_, _, c1, h⟩ | ⟨_, c1, c2, h⟩ | ⟨_, c1, c2, c3, h⟩
  · omega
  · exact hk 1 c1 (by omega)
  · rcases (by omega : a.length = 1 ∨ a.length = 2) with e | e
    · exact hk 1 c1 e.symm
    · exact hk 2 c2 e.symm
  · rcases (by omega : a.length = 1 ∨ a.length = 2 ∨ a.length = 3) with e | e | e
    · exact hk 1 c1 e.symm
    · exact hk 2 c2 e.symm
    · exact hk 3 c3 e.symm
theorem decOk_cons {s : List UInt8} (h : s ≠ []) : decOk s = (isR s && decOk (s.drop (dec s).2)) := by
  unfold decOk; rw [runes_cons h]; rfl
theorem runes_app : ∀ (n : Nat) {a b : List UInt8}, a.length ≤ n → decOk a = true → runes (a ++ b) = runes a ++ runes b
  | n, [], b, _, _ => by simp [runes_nil]
  | 0, x :: a, b, h, _ => by simp at h
  | n + 1, x :: a, b, h, hok => by
    have ha : x :: a ≠ [] := by simp
    rw [decOk_cons ha, Bool.and_eq_true] at hok
    have hw := dec_width ha
    rw [runes_cons (s := (x :: a) ++ b) (by simp), runes_cons ha, dec_app ha hok.1, isR_app ha hok.1, hok.1, List.drop_append_of_le_length hw.2]
    rw [runes_app n (by rw [List.length_drop]; simp at h ⊢; omega) hok.2]
    rfl
theorem decOk_left : ∀ (n : Nat) {a b : List UInt8}, a.length ≤ n → decOk (a ++ b) = true → decOk b = true → decOk a = true
  | n, [], b, _, _, _ => by unfold decOk; rw [runes_nil]; rfl
  | 0, x :: a, b, h, _, _ => by simp at h
  | n + 1, x :: a, b, h, hab, hb => by
    have ha : x :: a ≠ [] := by simp
    rw [decOk_cons (s := (x :: a) ++ b) (by simp), Bool.and_eq_true] at hab
    rcases Nat.lt_or_ge (x :: a).length (dec ((x :: a) ++ b)).2 with h1 | h1
    · obtain ⟨h2, h3⟩ := dec_over ha hab.1 h1
      rw [decOk_cons h2, h3] at hb; cases hb
    · have hd := dec_pre ha hab.1 h1
      have hr : isR (x :: a) = true := by have := hab.1; unfold isR at this ⊢; rw [hd]; exact this
      have hw := dec_width ha
      rw [decOk_cons ha, hr, Bool.true_and]
      rw [← hd, List.drop_append_of_le_length hw.2] at hab
      exact decOk_left n (by rw [List.length_drop]; simp at h ⊢; omega) hab.2 hb
theorem decE_zero {s : List UInt8} : decE s = 0 ↔ decOk s = true := by unfold decE; split <;> simp_all
theorem decE_nz {s : List UInt8} : decE s ≠ 0 ↔ decOk s = false := by unfold decE; split <;> simp_all
theorem dec_join (a b : List UInt8) (ha : decE a = 0) (hb : decE b = 0) : decE (a ++ b) = 0 ∧ decR (a ++ b) = decR a ++ decR b := by
  rw [decE_zero] at ha hb
  have h := runes_app a.length (b := b) (Nat.le_refl _) ha
  have hok : decOk (a ++ b) = true := by
    unfold decOk at ha hb ⊢
    rw [h, List.all_append, ha, hb]; rfl
  refine ⟨decE_zero.2 hok, ?_⟩
  unfold decR
  rw [hok, ha, hb, h]
  simp
theorem dec_split (a b : List UInt8) (h : decE (a ++ b) = 0) : decE a = 0 ↔ decE b = 0 := by
  rw [decE_zero] at h
  rw [decE_zero, decE_zero]
  constructor
  · intro ha
    have := runes_app a.length (b := b) (Nat.le_refl _) ha
    unfold decOk at h ha ⊢
    rw [this, List.all_append, ha] at h
    simpa using h
  · exact decOk_left a.length (Nat.le_refl _) h
end Go.EA
end
section
/- From a function's walk to its call; the abstract program out of a list of meanings. Conditions: none. -/
set_option linter.unusedVariables false
set_option linter.unusedSimpArgs false
namespace Go.EA
open Go.RowKit
/-- Functions with these meanings. -/
noncomputable def Xof (l : List (Nat × GP)) : Cx := ⟨fun _ => none, fun i => match l.find? (fun p => Nat.beq p.1 i) with | some p => some (pureP p.2) | none => none⟩
theorem callV_keep {X : Cx} (hap : ∀ i, X.ap i = none) (hpr : ∀ i p xs H v H', X.pr i = some p → p xs H = some (v, H') → H' = H) {f : AV} {xs : List AV} {H H' : Heap} {v : AV} (h : callV X (fun _ _ _ => none) f xs H = some (v, H')) : H' = H := by
  unfold callV at h
  split at h
  · split at h
    · rename_i p hp
      split at h
      · exact hpr _ _ _ _ _ _ hp h
      · cases h
    · rw [hap] at h; cases h
  · split at h
    · split at h
      · cases h
      · cases h
    · cases h
  · cases h
theorem callV_push {X : Cx} (hpr : ∀ i p xs H v H', X.pr i = some p → p xs H = some (v, H') → H.Hd → ∀ o, p xs (H.push o) = some (v, H.push o)) (hap : ∀ i, X.ap i = none) {f : Nat} {xs : List AV} {H H' : Heap} {v : AV} (h : callV X (fun _ _ _ => none) (.one (.fn f [])) xs H = some (v, H')) (hd : H.Hd) (o : AO) :
    callV X (fun _ _ _ => none) (.one (.fn f [])) xs (H.push o) = some (v, H.push o) := by
  simp only [callV] at h ⊢
  split at h
  · rename_i p hp
    simp only [List.isEmpty_nil, if_true] at h ⊢
    exact hpr _ _ _ _ _ _ hp h hd o
  · rw [hap] at h; cases h
theorem good_of (S : SC) (l : List (Nat × GP)) (hok : S.Ok) (hdr : S.dr = drawAlts (fun _ => true)) (hmix : S.C.P.follows .mixedOrders = true) (h : ∀ p ∈ l, PrOk S p.1 (pureP p.2)) : S.Good (Xof l) := by
  refine ⟨hok, fun i af hi => by simp [Xof] at hi, fun i p hp => ?_, fun nt ops ais ls t hd hc => ?_⟩
  · simp only [Xof] at hp
    split at hp
    · rename_i q hq
      have h1 := List.find?_some hq
      have h2 := List.mem_of_find?_eq_some hq
      cases hp
      have := Nat.eq_of_beq_eq_true h1
      rw [← this]; exact h q h2
    · cases hp
  · rw [hmix]
    have key : ∀ f xs H v H', callV (Xof l) (fun _ _ _ => none) f xs H = some (v, H') → H' = H := fun f xs H v H' h => callV_keep (fun _ => rfl) (fun i p xs H v H' hp hc => by
      simp only [Xof] at hp
      split at hp
      · cases hp; exact (pureP_inv hc).1
      · cases hp) h
    obtain ⟨l, hl, h⟩ := drawAlts_ok (pp := fun _ => true) (fun f xs H v H' _ h => key _ xs H v H' h) (fun f xs H v H' _ h hd o => callV_push (fun i p xs H v H' hp hc _ o => by
      simp only [Xof] at hp
      split at hp
      · cases hp
        obtain ⟨_, c, h1, h2⟩ := pureP_inv hc
        exact pureP_eq h1 h2 _
      · cases hp) (fun _ => rfl) h hd o) (fun f xs H v H' h hh => by rw [key f xs H v H' h]; exact hh) (by rw [hdr] at hd; exact hd) t
    obtain ⟨σ, τ, h1, h2, h⟩ := h
    exact ⟨l, hl, σ, τ, h1, h2, fun T H r hHd he => h hHd he⟩
theorem good_add {S : SC} {l : List (Nat × GP)} (hS : S.Good (Xof l)) (hdr : S.dr = drawAlts (fun _ => true)) (hmix : S.C.P.follows .mixedOrders = true) (hl : ∀ p ∈ l, PrOk S p.1 (pureP p.2)) {i : Nat} {g : GP} (h : PrOk S i (pureP g)) : S.Good (Xof ((i, g) :: l)) :=
  good_of S _ hS.ok hdr hmix fun p hp => by
    rcases List.mem_cons.1 hp with rfl | hp
    · exact h
    · exact hl p hp

/-- The blocks of two tables. -/
def fxOf (W : World) (a b : Nat) : Nat → Option Obj := fun k => if k = a then W.heap[k]? else if k = b then W.heap[k]? else none
theorem tabs_of {S : SC} {W : World} {a b : Nat} (hfx : S.fx = fxOf W a b) (hU : Lib.Utf8Tabs a b W) : ∀ H ρ w, HRel S H ρ w → Lib.Utf8Tabs a b w := by
  intro H ρ w hH
  have key : ∀ k, k = a ∨ k = b → ∀ c v, W.cell? ⟨k, c, none⟩ = some v → w.cell? ⟨k, c, none⟩ = some v := by
    intro k hk c v hv
    cases ho : W.heap[k]? with
    | none => simp [World.cell?, ho] at hv
    | some ob =>
      have : S.fx k = some ob := by
        rw [hfx]; unfold fxOf
        rcases hk with rfl | rfl
        · rw [if_pos rfl]; exact ho
        · split
          · exact ho
          · rw [if_pos rfl]; exact ho
      have h2 := (hH.fx k ob this).1
      simp only [World.cell?, ho] at hv
      simp only [World.cell?, h2]
      exact hv
  exact ⟨fun c hc => key a (.inl rfl) _ _ (hU.1 c hc), fun i hi => ⟨key b (.inr rfl) _ _ (hU.2 i hi).1, key b (.inr rfl) _ _ (hU.2 i hi).2⟩⟩

/-- All that lies there when the call begins stays as it is. -/
def rho0 (W : World) : Rho := ⟨fun _ => ⟨0, 0, 0, 0⟩, fun k => match W.heap[k]? with | some (.cells C t f) => some (.cells C t f) | _ => none⟩
theorem hrel0 {S : SC} {W : World} (hfx : ∀ k ob, S.fx k = some ob → W.heap[k]? = some ob) : HRel S (hl []) (rho0 W) W :=
  ⟨fun i hi => absurd hi (Nat.not_lt_zero _), fun i j hi => absurd hi (Nat.not_lt_zero _), fun k ob hk => ⟨hfx k ob hk, fun i hi => absurd hi (Nat.not_lt_zero _)⟩, fun k ob hk => by
    have hk' : (match W.heap[k]? with | some (.cells C t f) => some (.cells C t f) | _ => none) = some ob := hk
    split at hk'
    · rename_i C t f ho
      cases hk'
      exact ⟨⟨C, t, f, rfl⟩, ho, fun i hi => absurd hi (Nat.not_lt_zero _)⟩
    · cases hk'⟩
theorem fxOf_heap {W : World} {a b : Nat} : ∀ k ob, fxOf W a b k = some ob → W.heap[k]? = some ob := by
  intro k ob h
  unfold fxOf at h
  split at h
  · exact h
  · split at h
    · exact h
    · cases h

/-- THE CALL: what it hands back, and that all that was there is as it was. -/
theorem calls_of {S : SC} {f : Nat} {xs : List AV} {v : AV} (h : MF S f [] xs (hl []) fun v' _ => v' = v) {W : World} (hfx : ∀ k ob, S.fx k = some ob → W.heap[k]? = some ob) {vs : List Value} (hvs : All2 (VRel S (rho0 W) 0) xs vs) :
    Calls S.C.P (S.re f) vs.toArray W fun e w' => ∃ u ρ' n', e = .returned u ∧ VRel S ρ' n' v u ∧ Below W.heap.size W w' := by
  have := (h (rho0 W) W vs (by simp) hvs (hrel0 hfx)).2
  rw [show vs.toArray ++ (List.map (capAddr (rho0 W)) ([] : List (Nat × Nat × Nat))).toArray = vs.toArray by simp] at this
  refine (callsIn_wide.1 this).mono fun e w' hr => ?_
  obtain ⟨_, H1, rfl, u, ρ', rfl, k1, k2, k3⟩ := hr
  exact ⟨u, ρ', _, rfl, k3, ⟨k2.os, k2.tape, k2.output, k2.sz, fun k hk => (k2.keep k hk fun i hi => absurd hi (Nat.not_lt_zero _)).1⟩⟩
end Go.EA
end
