/- Loads and stores. Conditions: none. -/
import Derived.Test.YtngcpifknomecaaDoorEOps3
set_option linter.unusedVariables false
set_option linter.unusedSimpArgs false
namespace Go.EA
section
variable {S : SC} {H : Heap} {ρ : Rho} {w : World}

/-- What a heap's cells are at an address. -/
theorem cells_at (h : HRel S H ρ w) {b i j n : Nat} {cs : List Lf} (hb : b < H.n) (hc : H.cells b i j n = some cs) :
    cs.length = n ∧ ∃ vs : List Value, All2 (LRel S ρ H.n) cs vs ∧ ∀ q v, vs[q]? = some v → w.cell? (((ρ b).addr i j).add q) = some v := by
  unfold Heap.cells at hc
  split at hc
  · rename_i s els o hx
    have ho := h.obj b hb
    rw [hx] at ho
    obtain ⟨hs, C, ty, fr, h1, h2, h3⟩ := ho
    split at hc
    · rename_i e he
      split at hc
      · rename_i hl
        simp at hc; subst hc
        have hlen : ((e.drop j).take n).length = n := by simp; omega
        refine ⟨hlen, ?_⟩
        obtain ⟨hel, hcell⟩ := h2 i e he
        refine ⟨(C.toList.drop ((ρ b).o + i * (ρ b).s + j)).take n, ⟨?_, fun q x v hq hv => ?_⟩, fun q v hv => ?_⟩
        · rw [hlen, List.length_take, List.length_drop]
          rcases Nat.eq_zero_or_pos n with h0 | h0
          · omega
          · obtain ⟨v, hv, _⟩ := hcell (j + (n - 1)) (e[j + (n - 1)]'(by omega)) (List.getElem?_eq_getElem (by omega))
            have := (Array.getElem?_eq_some_iff.1 hv).1
            simp
            omega
        · rw [List.getElem?_take] at hq hv
          split at hq
          · rename_i hqn
            rw [if_pos hqn, List.getElem?_drop] at hv
            rw [List.getElem?_drop] at hq
            obtain ⟨u, hu, hr⟩ := hcell (j + q) x hq
            rw [Array.getElem?_toList] at hv
            rw [show (ρ b).o + i * (ρ b).s + j + q = (ρ b).o + i * (ρ b).s + (j + q) by omega] at hv
            rw [hu] at hv; cases hv; exact hr
          · cases hq
        · rw [List.getElem?_take] at hv
          split at hv
          · rename_i hqn
            rw [List.getElem?_drop, Array.getElem?_toList] at hv
            unfold Loc.addr
            rw [addr_add]
            simp [World.cell?, h1, hv]
          · cases hv
      · cases hc
    · cases hc
  · cases hc

theorem loadCells_run {P : Program} {a : Addr} {vs : List Value} (h : ∀ q v, vs[q]? = some v → w.cell? (a.add q) = some v) : (loadCells a vs.length).run P w = .ok vs.toArray w := by
  have := run_loadCells_list (P := P) (w := w) a vs h
  exact this

theorem asOne_rel {n : Nat} {ag : Bool} {cs : List Lf} {v : AV} (h : asOne ag cs = some v) {vs : List Value} (hv : All2 (LRel S ρ n) cs vs) :
    (ag = true ∧ VRel S ρ n v (.agg vs.toArray)) ∨ (ag = false ∧ ∃ u, vs = [u] ∧ VRel S ρ n v u) := by
  unfold asOne at h
  split at h
  · rename_i hag
    simp at h; subst h
    exact .inl ⟨by simpa using hag, ⟨_, rfl, by simpa using hv⟩⟩
  · rename_i hag
    refine .inr ⟨by simpa using hag, ?_⟩
    split at h
    · rename_i x
      simp at h; subst h
      obtain ⟨u, us, rfl, hu, ht⟩ := hv.cons_inv
      obtain rfl := ht.nil_inv
      exact ⟨u, rfl, hu⟩
    · cases h

theorem load_ok {P : Program} {t : TypeId} {g : Bool} {n : Nat} (hg : isAggT P t = some g) (hn : sizeT P t = some n) (h : HRel S H ρ w) {b i j : Nat} {v : AV} (hb : b < H.n)
    (hv : ((H.cells b i j (if g then n else 1)).bind (asOne g)) = some v) : ∃ u, (loadVar t ((ρ b).addr i j)).run P w = .ok u w ∧ VRel S ρ H.n v u := by
  obtain ⟨cs, hc, ha⟩ := Option.bind_eq_some_iff.1 hv
  obtain ⟨hl, vs, hvs, hcell⟩ := cells_at h hb hc
  unfold loadVar
  rcases asOne_rel ha hvs with ⟨rfl, hr⟩ | ⟨rfl, u, rfl, hr⟩
  · refine ⟨.agg vs.toArray, ?_, hr⟩
    simp only [if_true] at hl
    have hlv : vs.length = n := by rw [← hvs.1, hl]
    simp [agg_run hg, size_run hn]
    rw [← hlv, loadCells_run hcell]
    rfl
  · refine ⟨u, ?_, hr⟩
    have h0 := hcell 0 u rfl
    have h1 : ((ρ b).addr i j).add 0 = (ρ b).addr i j := by unfold Addr.add; simp
    rw [h1] at h0
    simp [agg_run hg, run_load, h0]

/-- Cells are stored one behind the other. -/
theorem storeCells_run {P : Program} {g o : Nat} {ty : TypeId} {fr : Nat × Nat} : ∀ (vs : List Value) (k : Nat) (w : World) (C : Array Value), w.heap[g]? = some (.cells C ty fr) → (∀ v ∈ vs, v.oneCell' = true) → o + k + vs.length ≤ C.size →
    (fr.2 ≤ fr.1 ∨ C.size ≤ fr.1) →
    ∃ w' C', (storeCells ⟨g, o, none⟩ vs k).run P w = .ok () w' ∧ w'.heap[g]? = some (.cells C' ty fr) ∧ C'.size = C.size ∧ (∀ q, C'[q]? = if o + k ≤ q ∧ q < o + k + vs.length then vs[q - (o + k)]? else C[q]?) ∧
      (∀ b, b ≠ g → w'.heap[b]? = w.heap[b]?) ∧ w'.heap.size = w.heap.size ∧ w'.os = w.os ∧ w'.tape = w.tape ∧ w'.output = w.output := by
  intro vs
  induction vs with
  | nil =>
    intro k w C hC _ _ _
    refine ⟨w, C, by simp [storeCells], hC, rfl, fun q => ?_, fun _ _ => rfl, rfl, rfl, rfl, rfl⟩
    rw [if_neg (by simp only [List.length_nil]; omega)]
  | cons v vs ih =>
    intro k w C hC hv hl hf
    have hlen : o + k < C.size := by simp at hl; omega
    have ha : (⟨g, o, none⟩ : Addr).add k = ⟨g, o + k, none⟩ := addr_add g o k
    have hcell : w.cell? ⟨g, o + k, none⟩ = some (C[o + k]) := by simp [World.cell?, hC, hlen]
    have hfz : w.frozen? ⟨g, o + k, none⟩ = false := by simp [World.frozen?, hC]; omega
    have hw1 : (w.setCell ⟨g, o + k, none⟩ v).heap[g]? = some (.cells (C.setIfInBounds (o + k) v) ty fr) := by
      simp [World.setCell, Array.getElem?_modify, hC]
    have hw2 : ∀ b, b ≠ g → (w.setCell ⟨g, o + k, none⟩ v).heap[b]? = w.heap[b]? := fun b hb => by
      simp [World.setCell, Array.getElem?_modify, Ne.symm hb]
    obtain ⟨w', C', h1, h2, h3, h4, h5, h6, h7, h8, h9⟩ := ih (k + 1) (w.setCell ⟨g, o + k, none⟩ v) _ hw1 (fun u hu => hv u (by simp [hu])) (by simp at hl ⊢; omega) (by simpa using hf)
    refine ⟨w', C', ?_, h2, by simpa using h3, fun q => ?_, fun b hb => (h5 b hb).trans (hw2 b hb), by simpa using h6, h7, h8, h9⟩
    · simp only [storeCells, Sem.run_bind]
      rw [ha, run_store P w _ v _ (hv v (by simp)), hcell]
      simp only [hfz, Bool.false_eq_true, if_false, Result.andThen_ok]
      exact h1
    · rw [h4 q]
      by_cases e : q = o + k
      · subst e
        rw [if_neg (by omega), if_pos (by simp)]
        simp [hlen]
      · by_cases e2 : o + (k + 1) ≤ q ∧ q < o + (k + 1) + vs.length
        · rw [if_pos e2, if_pos (by simp; omega)]
          rw [show q - (o + k) = (q - (o + (k + 1))) + 1 by omega]
          simp
        · rw [if_neg e2, if_neg (by simp; omega)]
          rw [Array.getElem?_setIfInBounds_ne (by omega)]

/-- An own block's cells are turned. -/
theorem store_ok {P : Program} (h : HRel S H ρ w) {b i j : Nat} {p : List Lf} {vs : List Value} (hb : b < H.n) {H' : Heap} (hst : H.storeC b i j p = some H') (hp : All2 (LRel S ρ H.n) p vs) :
    ∃ w', (storeCells ((ρ b).addr i j) vs).run P w = .ok () w' ∧ HRel S H' ρ w' ∧ Frm H ρ w H' ρ w' := by
  unfold Heap.storeC at hst
  split at hst
  · rename_i s els hx
    split at hst
    · rename_i e he
      split at hst
      · rename_i hl
        simp only [Option.some.injEq] at hst; subst hst
        have ho := h.obj b hb
        rw [hx] at ho
        obtain ⟨hs, C, ty, fr, h1, h2, h3⟩ := ho
        obtain ⟨hz, hroom, hfr⟩ := h3 rfl
        obtain ⟨hel, hcell⟩ := h2 i e he
        have hi : i < els.length := (List.getElem?_eq_some_iff.1 he).1
        have hin : i * (ρ b).s + (ρ b).s ≤ els.length * (ρ b).s := by
          have := Nat.mul_le_mul_right (ρ b).s (show i + 1 ≤ els.length by omega)
          rwa [Nat.succ_mul] at this
        have hvl : vs.length = p.length := hp.1.symm
        obtain ⟨w', C', r1, r2, r3, r4, r5, r6, r7, r8, r9⟩ := storeCells_run (P := P) (o := (ρ b).o + i * (ρ b).s + j) vs 0 w C h1 (fun v hv => by
          obtain ⟨q, hq, rfl⟩ := List.getElem_of_mem hv
          exact (LRel.cells (hp.2 q (p[q]'(by omega)) _ (List.getElem?_eq_getElem _) (List.getElem?_eq_getElem _))).2) (by omega) hfr
        have hown : own (H.o b) = true := by rw [hx]; rfl
        have hx' : ORel S ρ H.n (ρ b) (.blk s (els.set i (e.take j ++ p ++ e.drop (j + p.length))) true) (w'.heap[(ρ b).g]?) := by
          refine ⟨hs, C', ty, fr, r2, ?_, fun _ => ⟨by rw [r3, hz], by rw [List.length_set, r3]; exact hroom, by rw [r3]; exact hfr⟩⟩
          intro k e' hk
          have hskip : ∀ q, (¬ ((ρ b).o + i * (ρ b).s + j + 0 ≤ q ∧ q < (ρ b).o + i * (ρ b).s + j + 0 + vs.length)) → C'[q]? = C[q]? := fun q hq => by rw [r4 q, if_neg hq]
          by_cases hki : k = i
          · subst hki
            rw [List.getElem?_set_self hi] at hk
            cases hk
            refine ⟨by simp [hel]; omega, fun q x hq => ?_⟩
            rcases Nat.lt_or_ge q j with hq1 | hq1
            · rw [List.append_assoc, List.getElem?_append_left (by simp; omega), List.getElem?_take, if_pos hq1] at hq
              obtain ⟨v, hv, hr⟩ := hcell q x hq
              exact ⟨v, by rw [hskip _ (by omega)]; exact hv, hr⟩
            · rcases Nat.lt_or_ge q (j + p.length) with hq2 | hq2
              · rw [List.append_assoc, List.getElem?_append_right (by simp; omega), List.getElem?_append_left (by simp; omega)] at hq
                simp only [List.length_take] at hq
                rw [show q - min j e.length = q - j by omega] at hq
                obtain ⟨v, hv, hr⟩ := hp.get hq
                refine ⟨v, ?_, hr⟩
                rw [r4, if_pos (by omega)]
                rw [show (ρ b).o + k * (ρ b).s + q - ((ρ b).o + k * (ρ b).s + j + 0) = q - j by omega]
                exact hv
              · rw [List.getElem?_append_right (by simp; omega)] at hq
                simp only [List.length_append, List.length_take, List.getElem?_drop] at hq
                rw [show j + p.length + (q - (min j e.length + p.length)) = q by omega] at hq
                obtain ⟨v, hv, hr⟩ := hcell q x hq
                exact ⟨v, by rw [hskip _ (by omega)]; exact hv, hr⟩
          · rw [List.getElem?_set_ne (by omega)] at hk
            obtain ⟨hel', hcell'⟩ := h2 k e' hk
            refine ⟨hel', fun q x hq => ?_⟩
            obtain ⟨v, hv, hr⟩ := hcell' q x hq
            refine ⟨v, ?_, hr⟩
            rw [hskip _ ?_]
            · exact hv
            · have hqs : q < (ρ b).s := by have := (List.getElem?_eq_some_iff.1 hq).1; omega
              rcases Nat.lt_or_ge k i with hlt | hge
              · have := Nat.mul_le_mul_right (ρ b).s (show k + 1 ≤ i by omega)
                rw [Nat.succ_mul] at this
                omega
              · have := Nat.mul_le_mul_right (ρ b).s (show i + 1 ≤ k by omega)
                rw [Nat.succ_mul] at this
                omega
        obtain ⟨k1, k2⟩ := h.turn hb hown (x := .blk s (els.set i (e.take j ++ p ++ e.drop (j + p.length))) true) (w' := w') hx' rfl r6 r7 r8 r9 r5
        exact ⟨w', r1, k1, k2⟩
      · cases hst
    · cases hst
  · cases hst
end
end Go.EA
