/- A heap's numbers beyond its objects are dead; operations keep it so. Conditions: none. -/
import Derived.Test.YtmfjbaepgfdfpaaDoorEK1
set_option linter.unusedVariables false
set_option linter.unusedSimpArgs false
namespace Go.EA
def Heap.Hd (H : Heap) : Prop := ∀ i, H.n ≤ i → H.o i = .dead
theorem Hd.push {H : Heap} (h : H.Hd) (x : AO) : (H.push x).Hd := fun i hi => by
  have hi' : H.n + 1 ≤ i := hi
  show EA.put H.o H.n x i = .dead
  unfold EA.put
  rw [if_neg (by omega)]; exact h i (by omega)
theorem Hd.set {H : Heap} (h : H.Hd) {b : Nat} (hb : b < H.n) (x : AO) : (H.set b x).Hd := fun i hi => by
  have hi' : H.n ≤ i := hi
  show EA.put H.o b x i = .dead
  unfold EA.put
  rw [if_neg (by omega)]; exact h i (by omega)
theorem Hd.lt {H : Heap} (h : H.Hd) {b : Nat} (hb : H.o b ≠ .dead) : b < H.n := by
  apply Decidable.byContradiction
  intro hn
  exact hb (h b (by omega))

theorem storeC_hd {H H' : Heap} {b i j : Nat} {p : List Lf} (h : H.Hd) (hs : H.storeC b i j p = some H') : H'.Hd := by
  unfold Heap.storeC at hs
  split at hs
  · rename_i hb
    split at hs
    · split at hs
      · simp only [Option.some.injEq] at hs
        rw [← hs]
        exact Hd.set h (Hd.lt h (by rw [hb]; simp)) _
      · cases hs
    · cases hs
  · cases hs
theorem clrC_hd {b : Nat} {z : List Lf} : ∀ (n i : Nat) {H H' : Heap}, H.Hd → H.clrC b i z n = some H' → H'.Hd
  | 0, i, H, H', h, hs => by simp only [Heap.clrC, Option.some.injEq] at hs; rw [← hs]; exact h
  | n + 1, i, H, H', h, hs => by
    simp only [Heap.clrC] at hs
    split at hs
    · rename_i H1 h1
      exact clrC_hd n (i + 1) (storeC_hd h h1) hs
    · cases hs
theorem evOp_hd {T : Tm} {H H' : Heap} {op : AOp} {v : AV} (h : H.Hd) (he : evOp T H op = some (v, H')) : H'.Hd := by
  have same : ∀ {x : Option AV}, x.map (·, H) = some (v, H') → H'.Hd := fun hx => by
    obtain ⟨_, _, e⟩ := Option.map_eq_some_iff.1 hx
    simp only [Prod.mk.injEq] at e
    rw [← e.2]; exact h
  cases op with
  | store n a x =>
    simp only [evOp] at he
    split at he
    · split at he
      · obtain ⟨H2, h2, e⟩ := Option.map_eq_some_iff.1 he
        simp only [Prod.mk.injEq] at e
        rw [← e.2]
        unfold Heap.storeC at h2
        split at h2
        · rename_i hb
          split at h2
          · split at h2
            · simp only [Option.some.injEq] at h2
              rw [← h2]
              exact Hd.set h (Hd.lt h (by rw [hb]; simp)) _
            · cases h2
          · cases h2
        · cases h2
      · cases he
    · cases he
  | app s b x y =>
    simp only [evOp, evApp] at he
    split at he
    · cases he
    · split at he <;> first | (simp only [Option.some.injEq, Prod.mk.injEq] at he; rw [← he.2]; exact h) | cases he
    · split at he
      · split at he
        · simp only [Option.some.injEq, Prod.mk.injEq] at he; rw [← he.2]; exact Hd.push h _
        · cases he
      · split at he
        · simp only [Option.some.injEq, Prod.mk.injEq] at he; rw [← he.2]; exact Hd.push h _
        · cases he
      · split at he
        · rename_i hb
          split at he
          · simp only [Option.some.injEq, Prod.mk.injEq] at he; rw [← he.2]; exact Hd.push (Hd.set h (Hd.lt h (by rw [hb]; simp)) _) _
          · cases he
        · cases he
      · cases he
  | mapset m k w =>
    simp only [evOp] at he
    split at he
    · split at he
      · rename_i hb
        split at he
        · simp only [Option.some.injEq, Prod.mk.injEq] at he; rw [← he.2]; exact Hd.set h (Hd.lt h (by rw [hb]; simp)) _
        · cases he
      · cases he
    · cases he
  | nxt x =>
    simp only [evOp] at he
    split at he
    · split at he
      · rename_i hb
        split at he
        · simp only [Option.some.injEq, Prod.mk.injEq] at he; rw [← he.2]; exact Hd.set h (Hd.lt h (by rw [hb]; simp)) _
        · simp only [Option.some.injEq, Prod.mk.injEq] at he; rw [← he.2]; exact h
      · cases he
    · cases he
  | rowLit s z n parts =>
    simp only [evOp] at he
    obtain ⟨_, _, e⟩ := Option.map_eq_some_iff.1 he
    simp only [Prod.mk.injEq] at e
    rw [← e.2]; exact Hd.push h _
  | new z => simp only [evOp, Option.some.injEq, Prod.mk.injEq] at he; rw [← he.2]; exact Hd.push h _
  | mkmap => simp only [evOp, Option.some.injEq, Prod.mk.injEq] at he; rw [← he.2]; exact Hd.push h _
  | mov x => simp only [evOp, Option.some.injEq, Prod.mk.injEq] at he; rw [← he.2]; exact h
  | bin op x y => simp only [evOp] at he; exact same he
  | eqv k n x y => simp only [evOp] at he; exact same he
  | un op x => simp only [evOp] at he; exact same he
  | build z ps =>
    simp only [evOp] at he
    obtain ⟨_, _, e⟩ := Option.map_eq_some_iff.1 he
    simp only [Prod.mk.injEq] at e
    rw [← e.2]; exact h
  | slice k s x lo hi mx => simp only [evOp] at he; exact same he
  | mkfn f caps =>
    simp only [evOp] at he
    obtain ⟨_, _, e⟩ := Option.map_eq_some_iff.1 he
    simp only [Prod.mk.injEq] at e
    rw [← e.2]; exact h
  | b2s x =>
    simp only [evOp] at he
    split at he
    · obtain ⟨_, _, e⟩ := Option.map_eq_some_iff.1 he
      simp only [Prod.mk.injEq] at e
      rw [← e.2]; exact h
    · cases he
  | clr s z x =>
    simp only [evOp] at he
    unfold evClr at he
    split at he
    · split at he
      · split at he
        · obtain ⟨_, h1, e⟩ := Option.map_eq_some_iff.1 he
          simp only [Prod.mk.injEq] at e
          rw [← e.2]; exact clrC_hd _ _ h h1
        · cases he
      · cases he
    · simp only [Option.some.injEq, Prod.mk.injEq] at he; rw [← he.2]; exact h
    · simp only [Option.some.injEq, Prod.mk.injEq] at he; rw [← he.2]; exact h
    · cases he
  | call f xs => simp [evOp] at he
  | _ =>
    simp only [evOp] at he
    repeat' split at he
    all_goals first
      | (cases he; done)
      | (simp only [Option.some.injEq, Prod.mk.injEq] at he; rw [← he.2]; first | exact h | exact Hd.push h _)
      | (obtain ⟨_, _, e⟩ := Option.map_eq_some_iff.1 he
         simp only [Prod.mk.injEq] at e
         rw [← e.2]; exact h)

end Go.EA

