/- What stays as it is: rows and cells that hold no address. Conditions: none. -/
import Derived.Test.YtngcpifknomecaaDoorEOps4
set_option linter.unusedVariables false
set_option linter.unusedSimpArgs false
namespace Go.EA
section
variable {S : SC} {H : Heap} {ρ : Rho} {w : World} {fz : Nat → Option Obj}

theorem CRel.lrel {n : Nat} {x : Lf} {v : Value} (h : CRel S ρ.fz x v) : LRel S ρ n x v := by
  cases x <;> simp only [LRel] <;> (try simp only [CRel] at h) <;> (try simp only [CRel]) <;> (first | exact h | (obtain ⟨rfl, h⟩ := h; exact ⟨by simp, by simpa using h⟩) | exact h.elim)

theorem CellC.get {C : Array Value} : ∀ {cs : List Lf} {o : Nat}, CellC S fz C o cs → ∀ {k : Nat} {x : Lf}, cs[k]? = some x → ∃ u, C[o + k]? = some u ∧ CRel S fz x u
  | [], o, h, k, x, hk => by simp at hk
  | y :: r, o, h, k, x, hk => by
    simp only [CellC] at h
    cases k with
    | zero => simp at hk; subst hk; exact h.1
    | succ k =>
      obtain ⟨u, h1, h2⟩ := CellC.get h.2 (k := k) (by simpa using hk)
      exact ⟨u, by rw [← h1]; congr 1; omega, h2⟩
theorem CellC.of {C : Array Value} : ∀ {cs : List Lf} {o : Nat}, (∀ (k : Nat) (x : Lf), cs[k]? = some x → ∃ u, C[o + k]? = some u ∧ CRel S fz x u) → CellC S fz C o cs
  | [], o, h => by simp only [CellC]
  | y :: r, o, h => by
    simp only [CellC]
    refine ⟨by simpa using h 0 y rfl, CellC.of fun k x hk => ?_⟩
    obtain ⟨u, h1, h2⟩ := h (k + 1) x (by simpa using hk)
    exact ⟨u, by rw [← h1]; congr 1; omega, h2⟩
theorem CellC.drop {C : Array Value} {cs : List Lf} {o : Nat} (h : CellC S fz C o cs) (k : Nat) : CellC S fz C (o + k) (cs.drop k) :=
  CellC.of fun j x hj => by
    rw [List.getElem?_drop] at hj
    obtain ⟨u, h1, h2⟩ := h.get hj
    exact ⟨u, by rw [← h1]; congr 1; omega, h2⟩
theorem CellC.take {C : Array Value} {cs : List Lf} {o : Nat} (h : CellC S fz C o cs) (k : Nat) : CellC S fz C o (cs.take k) :=
  CellC.of fun j x hj => by
    rw [List.getElem?_take] at hj
    split at hj
    · exact h.get hj
    · cases hj
theorem RowC.get {C : Array Value} {s : Nat} : ∀ {els : List (List Lf)} {o : Nat}, RowC S fz C o s els → ∀ {k : Nat} {e : List Lf}, els[k]? = some e → e.length = s ∧ CellC S fz C (o + k * s) e
  | [], o, h, k, x, hk => by simp at hk
  | y :: r, o, h, k, x, hk => by
    simp only [RowC] at h
    cases k with
    | zero => simp at hk; subst hk; exact ⟨h.1, by simpa using h.2.1⟩
    | succ k =>
      have := RowC.get h.2.2 (k := k) (by simpa using hk)
      refine ⟨this.1, ?_⟩
      rw [show o + (k + 1) * s = o + s + k * s by rw [Nat.succ_mul]; omega]
      exact this.2
theorem RowC.of {C : Array Value} {s : Nat} : ∀ {els : List (List Lf)} {o : Nat}, (∀ (k : Nat) (e : List Lf), els[k]? = some e → e.length = s ∧ CellC S fz C (o + k * s) e) → RowC S fz C o s els
  | [], o, h => by simp only [RowC]
  | y :: r, o, h => by
    simp only [RowC]
    have h0 := h 0 y rfl
    refine ⟨h0.1, by simpa using h0.2, RowC.of fun k e hk => ?_⟩
    have := h (k + 1) e (by simpa using hk)
    refine ⟨this.1, ?_⟩
    rw [show o + s + k * s = o + (k + 1) * s by rw [Nat.succ_mul]; omega]
    exact this.2
theorem RowC.cut {C : Array Value} {s o : Nat} {els : List (List Lf)} (h : RowC S fz C o s els) (l m : Nat) : RowC S fz C (o + l * s) s ((els.drop l).take m) :=
  RowC.of fun k e hk => by
    rw [List.getElem?_take] at hk
    split at hk
    · rw [List.getElem?_drop] at hk
      have := h.get hk
      refine ⟨this.1, ?_⟩
      rw [show o + l * s + k * s = o + (l + k) * s by rw [Nat.add_mul]; omega]
      exact this.2
    · cases hk

/-- The cells that stay, in the world. -/
theorem cells_fz (h : HRel S H ρ w) {g o : Nat} {C : Array Value} {ty : TypeId} {fr : Nat × Nat} {cs : List Lf} {n : Nat} (hg : ρ.fz g = some (.cells C ty fr)) (hc : CellC S ρ.fz C o cs) :
    ∃ vs : List Value, All2 (LRel S ρ n) cs vs ∧ ∀ q v, vs[q]? = some v → w.cell? ((⟨g, o, none⟩ : Addr).add q) = some v := by
  have hw := (h.fz _ _ hg).2.1
  refine ⟨(C.toList.drop o).take cs.length, ⟨?_, fun q x v hq hv => ?_⟩, fun q v hv => ?_⟩
  · rw [List.length_take, List.length_drop]
    rcases Nat.eq_zero_or_pos cs.length with h0 | h0
    · omega
    · obtain ⟨v, hv, _⟩ := hc.get (k := cs.length - 1) (List.getElem?_eq_getElem (by omega))
      have := (Array.getElem?_eq_some_iff.1 hv).1
      simp
      omega
  · rw [List.getElem?_take] at hv
    split at hv
    · rw [List.getElem?_drop, Array.getElem?_toList] at hv
      obtain ⟨u, hu, hr⟩ := hc.get hq
      rw [hu] at hv; cases hv; exact hr.lrel
    · cases hv
  · rw [List.getElem?_take] at hv
    split at hv
    · rw [List.getElem?_drop, Array.getElem?_toList] at hv
      rw [addr_add]
      simp [World.cell?, hw, hv]
    · cases hv

/-- What stays is loaded. -/
theorem loadF_ok {P : Program} {t : TypeId} {g : Bool} {n : Nat} (hg : isAggT P t = some g) (hn : sizeT P t = some n) (h : HRel S H ρ w) {cs : List Lf} {u : Value} {v : AV} (hp : LRel S ρ H.n (.vptr cs) u)
    (hl : (if g then n else 1) ≤ cs.length) (hv : asOne g (cs.take (if g then n else 1)) = some v) : ∃ ad r, u = .pointer (some ad) ∧ (loadVar t ad).run P w = .ok r w ∧ VRel S ρ H.n v r := by
  simp only [LRel, CRel] at hp
  obtain ⟨gb, o, C, ty, fr, rfl, hfz, hcc⟩ := hp
  have hc2 : CellC S ρ.fz C o (cs.take (if g then n else 1)) := hcc.take _
  obtain ⟨vs, hvs, hcell⟩ := cells_fz (n := H.n) h hfz hc2
  have hlen : (cs.take (if g then n else 1)).length = (if g then n else 1) := by rw [List.length_take, Nat.min_eq_left hl]
  refine ⟨⟨gb, o, none⟩, ?_⟩
  unfold loadVar
  rcases asOne_rel hv hvs with ⟨rfl, hr⟩ | ⟨rfl, u, rfl, hr⟩
  · refine ⟨.agg vs.toArray, rfl, ?_, hr⟩
    have hlv : vs.length = n := by rw [← hvs.1, hlen]; rfl
    simp [agg_run hg, size_run hn]
    rw [← hlv, loadCells_run hcell]
    rfl
  · refine ⟨u, rfl, ?_, hr⟩
    have h0 := hcell 0 u rfl
    have h1 : (⟨gb, o, none⟩ : Addr).add 0 = ⟨gb, o, none⟩ := by unfold Addr.add; simp
    rw [h1] at h0
    simp [agg_run hg, run_load, h0]

/-- A part of a row that stays. -/
theorem cutF_rel {s l hh m cap : Nat} {els : List (List Lf)} {base : Option Addr} {n : Nat} (hx : LRel S ρ n (.vrow s els) (.slice base els.length cap)) (h1 : l ≤ hh) (h2 : hh ≤ m) (h3 : m ≤ cap) (h4 : hh ≤ els.length) :
    LRel S ρ n (.vrow s ((els.drop l).take (hh - l))) (.slice (if m = l then base else base.map (·.add (l * s))) (hh - l) (m - l)) := by
  have hlen : ((els.drop l).take (hh - l)).length = hh - l := by simp; omega
  simp only [LRel, CRel] at hx ⊢
  obtain ⟨a, cap', he, hc, hx⟩ := hx
  injection he with e1 e2 e3
  subst e1 e3
  refine ⟨_, _, by rw [hlen], by omega, ?_⟩
  rcases hx with rfl | ⟨g, o, C, ty, fr, rfl, hg, hr⟩
  · left; simp
  · by_cases hml : m = l
    · left
      have : hh - l = 0 := by omega
      rw [this]; simp
    · right
      rw [if_neg hml]
      exact ⟨g, o + l * s, C, ty, fr, by simp [addr_add], hg, hr.cut _ _⟩
end
end Go.EA
