/- Operands, constants, zero cells: what is read off the model's code stands for what the model reckons with. Conditions: none. -/
import Derived.Test.YtngcpifknomecaaDoorERel
import Derived.Calls
set_option linter.unusedVariables false
namespace Go.EA
section
variable {S : SC} {ρ : Rho} {n : Nat}

theorem compLf_rel {v : Value} {x : Lf} (h : compLf v = some x) : LRel S ρ n x v := by
  unfold compLf at h
  split at h <;> simp at h
  all_goals (subst h; simp [LRel])

theorem compCells_rel : ∀ {vs : List Value} {cs : List Lf}, compCells vs = some cs → All2 (LRel S ρ n) cs vs
  | [], cs, h => by simp [compCells] at h; subst h; exact All2.nil
  | v :: r, cs, h => by
    simp only [compCells] at h
    split at h
    · rename_i x l hx hl
      simp at h; subst h
      exact All2.cons (compLf_rel hx) (compCells_rel hl)
    · cases h

theorem compVal_rel {v : Value} {x : AV} (h : compVal v = some x) : VRel S ρ n x v := by
  unfold compVal at h
  split at h
  · rename_i cs
    cases hc : compCells cs.toList with
    | none => rw [hc] at h; cases h
    | some l => rw [hc] at h; simp at h; subst h; exact ⟨cs, rfl, compCells_rel hc⟩
  · rename_i vs
    split at h
    · rename_i he
      simp at h; subst h
      refine .inr ⟨vs, rfl, ?_⟩
      have : vs = #[] := by simpa using he
      subst this
      exact All2.nil
    · cases h
  · rename_i h1 h2
    cases hc : compLf v with
    | none => rw [hc] at h; cases h
    | some l => rw [hc] at h; simp at h; subst h; exact compLf_rel hc

/-- The abstract program's numbers are the program's. -/
structure SC.Ok (S : SC) : Prop where
  ren : ∀ f i, S.C.ren f = some i → S.re i = f

variable {nt : Nat} {T : Tm} {a : Act}

theorem opd_rel (hS : S.Ok) (hT : TRel S ρ n T a.tmps) (hn : a.tmps.size = nt) {x : Operand} {y : Opd} (h : compOpd S.C nt x = some y) : VRel S ρ n (y.ev T) (a.eval x) := by
  cases x with
  | tmp t =>
    simp only [compOpd] at h
    split at h
    · rename_i ht
      simp at h; subst h
      refine hT t _ ?_
      show a.tmps[t]? = some (a.tmps.getD t undef)
      rw [Array.getD_eq_getD_getElem?, Array.getElem?_eq_getElem (show t < a.tmps.size by rw [hn]; exact ht)]
      rfl
    · cases h
  | const v =>
    simp only [compOpd] at h
    cases hc : compVal v with
    | none => rw [hc] at h; cases h
    | some z => rw [hc] at h; simp at h; subst h; exact compVal_rel hc
  | global g => cases h
  | func f =>
    simp only [compOpd] at h
    cases hc : S.C.ren f with
    | none => rw [hc] at h; cases h
    | some i =>
      rw [hc] at h; simp at h; subst h
      refine ⟨by simp, ?_⟩
      show Value.func (.func f) #[] #[] = _
      rw [hS.ren f i hc]
      rfl

theorem opds_rel (hS : S.Ok) (hT : TRel S ρ n T a.tmps) (hn : a.tmps.size = nt) : ∀ {xs : List Operand} {ys : List Opd}, compOpds S.C nt xs = some ys → All2 (VRel S ρ n) (ys.map (·.ev T)) (xs.map a.eval)
  | [], ys, h => by simp [compOpds] at h; subst h; exact All2.nil
  | x :: r, ys, h => by
    simp only [compOpds] at h
    split at h
    · rename_i y l hy hl
      simp at h; subst h
      exact All2.cons (opd_rel hS hT hn hy) (opds_rel hS hT hn hl)
    · cases h

/-! ### What is known of a value from what it stands for -/
theorem VRel.one {x : Lf} {v : Value} (h : VRel S ρ n (.one x) v) : LRel S ρ n x v := h
theorem VRel.agg {cs : List Lf} {v : Value} (h : VRel S ρ n (.agg cs) v) : ∃ arr, v = .agg arr ∧ All2 (LRel S ρ n) cs arr.toList := h
theorem VRel.tup {vs : List AV} {v : Value} (hj : (AV.tup vs).isJ = false) (h : VRel S ρ n (.tup vs) v) : ∃ arr, v = .tuple arr ∧ All2 (VRel1 S ρ n) vs arr.toList := by
  rcases h with h | h
  · rw [hj] at h; cases h
  · exact h

theorem LRel.cells {x : Lf} {v : Value} (h : LRel S ρ n x v) : v.cells = #[v] ∧ v.oneCell' = true := by
  cases x <;> simp only [LRel] at h
  case sl => obtain ⟨_, a, c, rfl, _⟩ := h; exact ⟨rfl, rfl⟩
  case slz => obtain ⟨a, rfl⟩ := h; exact ⟨rfl, rfl⟩
  case vrow => simp only [CRel] at h; obtain ⟨a, c, rfl, _⟩ := h; exact ⟨rfl, rfl⟩
  case vptr => simp only [CRel] at h; obtain ⟨g, o, C, ty, fr, rfl, _⟩ := h; exact ⟨rfl, rfl⟩
  all_goals (first | subst h | (obtain ⟨_, rfl⟩ := h)); exact ⟨rfl, rfl⟩

/-- A value's cells stand for its cells. -/
theorem VRel.cells {x : AV} {v : Value} (h : VRel S ρ n x v) {p : List Lf} (hx : x.cells? = some p) : All2 (LRel S ρ n) p v.cells.toList := by
  cases x with
  | one x => simp [AV.cells?] at hx; subst hx; rw [(LRel.cells h).1]; exact All2.cons h All2.nil
  | agg cs => simp [AV.cells?] at hx; subst hx; obtain ⟨arr, rfl, h⟩ := h; exact h
  | tup vs => cases hx

theorem idx_rel {x : AV} {v : Value} (h : VRel S ρ n x v) {k : Nat} (hk : idx? x = some k) : ∃ kd, v = .int kd k := by
  cases x with
  | one x =>
    cases x <;> simp only [idx?] at hk
    case int kd m =>
      split at hk
      · rename_i h0
        simp at hk
        refine ⟨kd, ?_⟩
        have h' : v = .int kd m := h
        rw [h', ← hk, Int.toNat_of_nonneg h0]
      · cases hk
    all_goals cases hk
  | agg cs => cases hk
  | tup vs => cases hk
end

/-- What an operation that is no call must bring. -/
def OpOk (S : SC) (H : Heap) (ρ : Rho) (w : World) (v : AV) (H' : Heap) (r : Result Next) : Prop :=
  ∃ ρ' w', HRel S H' ρ' w' ∧ Frm H ρ w H' ρ' w' ∧ ((∃ u, r = .ok (.value u) w' ∧ VRel S ρ' H'.n v u) ∨ (r = .ok .skip w' ∧ v = und))

section
variable {S : SC} {H : Heap} {ρ : Rho} {w : World} {v : AV} {r : Result Next}
/-- The world stays. -/
theorem OpOk.same (h : HRel S H ρ w) {u : Value} (hr : r = .ok (.value u) w) (hv : VRel S ρ H.n v u) : OpOk S H ρ w v H r := ⟨ρ, w, h, Frm.refl _ _ _, .inl ⟨u, hr, hv⟩⟩
theorem run_v (P : Program) (s : Sem Value) {u : Value} {w' : World} (h : s.run P w = .ok u w') : (do pure (.value (← s)) : Sem Next).run P w = .ok (.value u) w' := by
  rw [Sem.run_bind, h]; rfl
theorem run_u (P : Program) (s : Sem Unit) {w' : World} (h : s.run P w = .ok () w') : (do s; pure .skip : Sem Next).run P w = .ok .skip w' := by
  rw [Sem.run_bind, h]; rfl
end
end Go.EA
