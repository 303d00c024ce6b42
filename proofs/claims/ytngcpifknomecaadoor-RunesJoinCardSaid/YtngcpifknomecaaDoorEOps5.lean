/- Struct values and rows that are written out; slices; append. Conditions: none. -/
import Derived.Test.YtngcpifknomecaaDoorEFz
import Derived.Laws.AppendOwn
set_option linter.unusedVariables false
set_option linter.unusedSimpArgs false
namespace Go.EA
section
variable {S : SC} {H : Heap} {ρ : Rho} {w : World}

theorem HRel.row' (h : HRel S H ρ w) {s : Nat} {els : List (List Lf)} {C : Array Value} {ty : TypeId} (fr : Nat × Nat := (0, 0)) (hC : CellsR S ρ H.n ⟨w.heap.size, 0, s, C.size⟩ els C) (hl : els.length * s ≤ C.size) (hfr : fr.2 ≤ fr.1 ∨ C.size ≤ fr.1) :
    HRel S (H.push (.blk s els true)) (ρ.put H.n ⟨w.heap.size, 0, s, C.size⟩) (w.alloc (.cells C ty fr)) ∧
    Frm H ρ w (H.push (.blk s els true)) (ρ.put H.n ⟨w.heap.size, 0, s, C.size⟩) (w.alloc (.cells C ty fr)) := by
  refine h.push rfl ⟨rfl, C, ty, fr, rfl, fun k e hk => ⟨(hC k e hk).1, fun j x hj => ?_⟩, fun _ => ⟨rfl, by show 0 + els.length * s ≤ C.size; omega, hfr⟩⟩
  obtain ⟨v, hv, hr⟩ := (hC k e hk).2 j x hj
  exact ⟨v, hv, hr.mono (Ext.put ρ H.n _)⟩

/-- Cells laid into a row of cells. -/
theorem foldl_set (vs : List Value) : ∀ (k off : Nat) (C : Array Value), off + k + vs.length ≤ C.size →
    ((vs.zipIdx k).foldl (fun cs (c : Value × Nat) => cs.setIfInBounds (off + c.2) c.1) C).size = C.size ∧
    ∀ q, ((vs.zipIdx k).foldl (fun cs (c : Value × Nat) => cs.setIfInBounds (off + c.2) c.1) C)[q]? = if off + k ≤ q ∧ q < off + k + vs.length then vs[q - (off + k)]? else C[q]? := by
  induction vs with
  | nil => intro k off C _; exact ⟨rfl, fun q => by rw [if_neg (by simp only [List.length_nil]; omega)]; rfl⟩
  | cons v vs ih =>
    intro k off C hl
    simp only [List.length_cons] at hl
    simp only [List.zipIdx_cons, List.foldl_cons]
    obtain ⟨h1, h2⟩ := ih (k + 1) off (C.setIfInBounds (off + k) v) (by simp; omega)
    refine ⟨by rw [h1]; simp, fun q => ?_⟩
    rw [h2 q]
    by_cases e : q = off + k
    · subst e
      rw [if_neg (by omega), if_pos (by simp)]
      have : off + k < C.size := by omega
      simp [this]
    · by_cases e2 : off + (k + 1) ≤ q ∧ q < off + (k + 1) + vs.length
      · rw [if_pos e2, if_pos (by simp; omega), show q - (off + k) = (q - (off + (k + 1))) + 1 by omega]
        simp
      · rw [if_neg e2, if_neg (by simp; omega), Array.getElem?_setIfInBounds_ne (by omega)]

theorem fold_cells (vs : Array Value) (off : Nat) (C : Array Value) (h : off + vs.size ≤ C.size) :
    (vs.zipIdx.foldl (fun cs (x : Value × Nat) => match x with | (c, j) => cs.setIfInBounds (off + j) c) C).size = C.size ∧
    ∀ q, (vs.zipIdx.foldl (fun cs (x : Value × Nat) => match x with | (c, j) => cs.setIfInBounds (off + j) c) C)[q]? = if off ≤ q ∧ q < off + vs.size then vs[q - off]? else C[q]? := by
  have h0 := foldl_set vs.toList 0 off C (by simpa using h)
  have e : vs.zipIdx.foldl (fun cs (x : Value × Nat) => match x with | (c, j) => cs.setIfInBounds (off + j) c) C = (vs.toList.zipIdx 0).foldl (fun cs (c : Value × Nat) => cs.setIfInBounds (off + c.2) c.1) C := by
    rw [← Array.foldl_toList, Array.toList_zipIdx]
  rw [e]
  refine ⟨h0.1, fun q => ?_⟩
  rw [h0.2 q]
  simp

theorem all2_lay {n : Nat} {cs p : List Lf} {C : Array Value} {vs : Array Value} {off m : Nat} (hc : All2 (LRel S ρ n) cs C.toList) (hp : All2 (LRel S ρ n) p vs.toList) (hl : off + p.length ≤ cs.length) {C' : Array Value} (hs : C'.size = C.size)
    (hq : ∀ q, C'[q]? = if off ≤ q ∧ q < off + vs.size then vs[q - off]? else C[q]?) : All2 (LRel S ρ n) (cs.take off ++ p ++ cs.drop (off + p.length)) C'.toList := by
  have hpl : p.length = vs.size := by have := hp.1; simpa using this
  have hcl : cs.length = C.size := by have := hc.1; simpa using this
  refine ⟨by simp; omega, fun i x v hx hv => ?_⟩
  rw [Array.getElem?_toList, hq i] at hv
  rcases Nat.lt_or_ge i off with h1 | h1
  · rw [if_neg (by omega)] at hv
    rw [List.append_assoc, List.getElem?_append_left (by simp; omega), List.getElem?_take, if_pos h1] at hx
    exact hc.2 i x v hx (by rw [Array.getElem?_toList]; exact hv)
  · rcases Nat.lt_or_ge i (off + p.length) with h2 | h2
    · rw [if_pos (by omega)] at hv
      rw [List.append_assoc, List.getElem?_append_right (by simp; omega), List.getElem?_append_left (by simp; omega)] at hx
      simp only [List.length_take] at hx
      rw [show i - min off cs.length = i - off by omega] at hx
      exact hp.2 (i - off) x v hx (by rw [Array.getElem?_toList]; exact hv)
    · rw [if_neg (by omega)] at hv
      rw [List.getElem?_append_right (by simp; omega)] at hx
      simp only [List.length_append, List.length_take, List.getElem?_drop] at hx
      rw [show off + p.length + (i - (min off cs.length + p.length)) = i by omega] at hx
      exact hc.2 i x v hx (by rw [Array.getElem?_toList]; exact hv)

variable {nt : Nat} {T : Tm} {a : Act}

/-- The parts of a struct's or an array's literal. -/
theorem fill_ok (hS : S.Ok) (hT : TRel S ρ H.n T a.tmps) (hn : a.tmps.size = nt) (place : Nat → Option (Nat × Nat)) :
    ∀ (ps : List (Nat × Operand)) (qs : List (Nat × Nat × Opd)), All2 (fun (p : Nat × Operand) (q : Nat × Nat × Opd) => place p.1 = some (q.1, q.2.1) ∧ compOpd S.C nt p.2 = some q.2.2) ps qs →
    ∀ (cs : List Lf) (C : Array Value) (r : List Lf), All2 (LRel S ρ H.n) cs C.toList → fillC T cs qs = some r → ∃ C', Instr.fill place C (ps.map fun p => (p.1, a.eval p.2)) = some C' ∧ All2 (LRel S ρ H.n) r C'.toList := by
  intro ps
  induction ps with
  | nil =>
    intro qs hl cs C r hC hf
    obtain rfl := hl.nil_inv
    simp [fillC] at hf; subst hf; exact ⟨C, rfl, hC⟩
  | cons p ps ih =>
    intro qs hl cs C r hC hf
    obtain ⟨q, qs, rfl, ⟨hpl, hxy⟩, ht⟩ := hl.cons_inv
    obtain ⟨i, x⟩ := p
    obtain ⟨off, n, y⟩ := q
    have hv := opd_rel hS hT hn hxy
    simp only [fillC] at hf
    split at hf
    · rename_i p hp
      split at hf
      · rename_i hc
        have hcel := hv.cells hp
        have hsz : (a.eval x).cells.size = n := by have := hcel.1; simp at this; omega
        have hcl : cs.length = C.size := by have := hC.1; simpa using this
        obtain ⟨f1, f2⟩ := fold_cells (a.eval x).cells off C (by omega)
        have := ih qs ht _ _ r (all2_lay (m := 0) hC hcel (by omega) f1 f2) hf
        obtain ⟨C', h1, h2⟩ := this
        refine ⟨C', ?_, h2⟩
        simp only [List.map_cons, Instr.fill, hpl]
        rw [if_neg (by simp; omega)]
        exact h1
      · cases hf
    · cases hf
end
end Go.EA
