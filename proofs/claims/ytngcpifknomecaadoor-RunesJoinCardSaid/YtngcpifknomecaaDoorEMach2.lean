/- The machine's operations are the evaluator's. Conditions: none. -/
import Derived.Test.YtngcpifknomecaaDoorEMach
set_option linter.unusedVariables false
set_option linter.unusedSimpArgs false
namespace Go.EA

theorem hl_push (L : List AO) (x : AO) : (hl L).push x = hl (L ++ [x]) := by
  unfold hl Heap.push
  simp only [List.length_append, List.length_cons, List.length_nil, Nat.zero_add]
  congr
  funext i
  simp only [EA.put, List.getD_eq_getElem?_getD]
  by_cases h : i = L.length
  · subst h; rw [if_pos rfl, List.getElem?_concat_length]; rfl
  · rw [if_neg h]
    by_cases h2 : i < L.length
    · rw [List.getElem?_append_left h2]
    · rw [List.getElem?_eq_none (by omega), List.getElem?_eq_none (by simp; omega)]
theorem hl_set (L : List AO) {b : Nat} (hb : b < L.length) (x : AO) : (hl L).set b x = hl (L.set b x) := by
  unfold hl Heap.set
  simp only [List.length_set]
  congr
  funext i
  simp only [EA.put, List.getD_eq_getElem?_getD]
  by_cases h : i = b
  · subst h; rw [if_pos rfl, List.getElem?_set_self hb]; rfl
  · rw [if_neg h, List.getElem?_set_ne (Ne.symm h)]
theorem hl_lt {L : List AO} {b : Nat} (h : L.getD b .dead ≠ .dead) : b < L.length := by
  apply Decidable.byContradiction
  intro hn
  apply h
  rw [List.getD_eq_getElem?_getD, List.getElem?_eq_none (by omega)]; rfl

theorem idx_of {v : AV} {k : IntKind} {n : Int} (h : v = .one (.int k n)) (h0 : 0 ≤ n) : idx? v = some n.toNat := by
  subst h; simp [idx?, h0]
theorem bound_of {T : List AV} {d : Nat} {x : Option Opd} {l : Int} (h : boundS T d x = some l) (h0 : 0 ≤ l) : bound (tmL T) d x = some l.toNat := by
  cases x with
  | none => simp only [boundS, Option.some.injEq] at h; subst h; simp [bound]
  | some x =>
    simp only [boundS] at h
    split at h
    · rename_i hx
      cases h
      exact idx_of hx h0
    · cases h

theorem opS_ok {T : List AV} {L L' : List AO} {op : AOp} {v : AV} {c : List Prop} (h : opS T L op = some (v, L', c)) (hc : AllT c) : evOp (tmL T) (hl L) op = some (v, hl L') := by
  unfold opS at h
  split at h
  · -- bin
    rename_i o x y
    split at h
    · rename_i k a k' b hx hy
      split at h
      · rename_i v' c' hb
        cases h
        simp only [evOp, hx, hy, binS_ok hb hc, Option.map_some]
      · cases h
    · rename_i a b hx hy
      split at h
      · cases h
        simp only [evOp, hx, hy, evBin, evStr, if_pos hc.1, Option.map_some]
      · split at h
        · rename_i hs
          cases h
          simp only [evOp, hx, hy, evBin, hs, Option.map_some]
        · cases h
    · cases h
  · -- wrapI
    rename_i k x
    split at h
    · rename_i k' n hx
      split at h
      · cases h; simp only [evOp, hx, wrap64 hc.1]
      · cases h; simp only [evOp, hx]
    · cases h
  · -- iaddr
    rename_i s x i
    split at h
    · rename_i b f n k' k hx hi
      split at h
      · rename_i hb
        cases h
        have hk := idx_of hi hc.1.1
        simp only [evOp, hx, hk]
        have hc1 := hc.1
        rw [if_pos ⟨hb, by omega⟩]
      · cases h
    · rename_i s' els k' k hx hi
      split at h
      · rename_i hb
        cases h
        have hk := idx_of hi hc.1.1
        simp only [evOp, hx, hk]
        rw [if_pos (Nat.eq_of_beq_eq_true hb)]
        have hc1 := hc.1
        have hlt : k.toNat < els.length := by omega
        rw [List.getD_eq_getElem?_getD, List.getElem?_eq_getElem hlt]
        rfl
      · cases h
    · cases h
  · -- sidx
    rename_i x i
    split at h
    · rename_i s k' k hx hi
      cases h
      have hk := idx_of hi hc.1.1
      have hc1 := hc.1
      have hlt : k.toNat < s.length := by omega
      simp only [evOp, hx, hk]
      rw [List.getD_eq_getElem?_getD, List.getElem?_eq_getElem hlt]
      rfl
    · cases h
  · -- slice
    rename_i k s x lo hi
    split at h
    · rename_i s' hx
      split at h
      · rename_i l hh hl hhi
        cases h
        simp only [evOp, hx, evSlice, bound_of hl hc.1.1, bound_of hhi (Int.le_trans hc.1.1 hc.1.2.1)]
        have hc1 := hc.1
        rw [if_pos ⟨by omega, by omega⟩]
        rfl
      · cases h
    · rename_i b i n hx
      split at h
      · rename_i l hh hb hl hhi
        cases h
        simp only [evOp, hx, evSlice, bound_of hl hc.1.1, bound_of hhi (Int.le_trans hc.1.1 hc.1.2.1), if_pos hb]
        have hc1 := hc.1
        rw [if_pos ⟨by omega, by omega⟩]
        rfl
      · cases h
    · rename_i s' els hx
      split at h
      · rename_i l hh hb hl hhi
        cases h
        simp only [evOp, hx, evSlice, bound_of hl hc.1.1, bound_of hhi (Int.le_trans hc.1.1 hc.1.2.1), if_pos (Nat.eq_of_beq_eq_true hb)]
        have hc1 := hc.1
        rw [if_pos ⟨by omega, by omega⟩]
        rfl
      · cases h
    · rename_i kk vv hx1 hx2 hx3
      split at h
      · rename_i hv
        cases h
        simp only [evOp, hv, Option.map_some]
      · cases h
  · -- mksl
    rename_i s z bytes len cap
    split at h
    · rename_i k l k' c' hl hcp
      cases h
      obtain ⟨⟨h1, h2, h3, h4⟩, _⟩ := hc
      simp only [evOp, idx_of hl h1, idx_of hcp (Int.le_trans h1 h2)]
      have hr : roomB = 140737488355328 := rfl
      have e3 : c'.toNat * bytes ≤ roomB := by
        rw [hr]
        have : ((c'.toNat * bytes : Nat) : Int) = c' * bytes := by
          rw [Int.natCast_mul, Int.toNat_of_nonneg (Int.le_trans h1 h2)]
        omega
      rw [if_pos ⟨by omega, e3, by rw [hr]; omega⟩, hl_push]
      rfl
    · cases h
  · -- app
    rename_i s bytes x y
    have hr : roomB = 140737488355328 := rfl
    split at h
    · rename_i e es hy hx
      cases h
      simp only [evOp, evApp, hy, hx]
      rw [if_pos (by rw [hr]; exact hc.1), hl_push]
      rfl
    · rename_i e es hy hx
      cases h
      simp only [evOp, evApp, hy, hx]
      rw [if_pos (by rw [hr]; exact hc.1), hl_push]
      rfl
    · rename_i e es b i n hy hx
      split at h
      · rename_i s' els hb
        split at h
        · rename_i hs
          cases h
          have hob : (hl L).o b = .blk s' els true := hb
          simp only [evOp, evApp, hy, hx, hob]
          rw [if_pos ⟨Nat.eq_of_beq_eq_true hs, hc.1.1, by rw [hr]; exact hc.1.2⟩, hl_set L (hl_lt (by rw [hb]; simp)), hl_push]
          simp [hl]
        · cases h
      · cases h
    · rename_i hy
      split at h
      · rename_i v' H' hv
        cases h
        simp only [evOp, hv]
        simp only [evApp, hy] at hv
        split at hv <;> first | (simp only [Option.some.injEq, Prod.mk.injEq] at hv; rw [← hv.2]) | cases hv
      · cases h
    · cases h
  · -- the others
    split at h
    · rename_i v' H' hv
      cases h
      cases hpu : pureOp op with
      | true => simp only; rw [hv, evOp_pure hpu hv]
      | false => simp only; rw [hv, hl_tab (evOp_hd (hl_hd L) hv)]
    · cases h
end Go.EA
