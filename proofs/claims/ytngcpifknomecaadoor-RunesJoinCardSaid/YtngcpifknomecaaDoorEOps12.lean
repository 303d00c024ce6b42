/- One theorem over every operation that is no call. Conditions: none. -/
import Derived.Test.YtngcpifknomecaaDoorEOps11
set_option linter.unusedVariables false
set_option linter.unusedSimpArgs false
namespace Go.EA

section
variable {S : SC} {H H' : Heap} {ρ : Rho} {w : World} {nt : Nat} {T : Tm} {a : Act} {o : Oper} {ao : AOp} {v : AV}

theorem bin_op (p : Pre S H ρ w nt T a) {op : BinOp} {t : TypeId} {x y : Operand} {u : Bool} (ho : ∃ z, o.op = .binOp op t x y z) (hc : compOp S.C nt o = some ao) (he : evOp T H ao = some (v, H')) : Goal S H ρ w a o v H' := by
  obtain ⟨z, ho⟩ := ho
  simp only [compOp, ho] at hc
  have fin : H' = H → Ans S w S.C.P (do eqGuard op t x y (a.eval x) (a.eval y); binOp op t (a.eval x) (a.eval y)) v → Goal S H ρ w a o v H' := by
    intro h1 h2
    subst h1
    refine ans_ok p.H h2 ?_
    simp only [execOp, ho]
  have plain : ∀ {x' y' : Opd}, compOpd S.C nt x = some x' → compOpd S.C nt y = some y' → ao = .bin op x' y' → Goal S H ρ w a o v H' := by
    intro x' y' hx hy hao
    subst hao
    simp only [evOp] at he
    obtain ⟨r, hr, hv⟩ := Option.map_eq_some_iff.1 he
    simp only [Prod.mk.injEq] at hv
    obtain ⟨rfl, rfl⟩ := hv
    exact fin rfl (bin_run x y (p.opd hx) (p.opd hy) hr)
  have eqs : ∀ {x' y' : Opd} {k : EqK}, (op = .eql ∨ op = .neq) → compOpd S.C nt x = some x' → compOpd S.C nt y = some y' → eqKind S.C.P t = some k → ao = .eqv k (decide (op = .neq)) x' y' → Goal S H ρ w a o v H' := by
    intro x' y' k hop hx hy hk hao
    subst hao
    simp only [evOp] at he
    obtain ⟨r, hr, hv⟩ := Option.map_eq_some_iff.1 he
    simp only [Prod.mk.injEq] at hv
    obtain ⟨rfl, rfl⟩ := hv
    exact fin rfl (eq_run hk (p.opd hx) (p.opd hy) hr x y op hop rfl)
  split at hc
  · rename_i x' y' hx hy
    split at hc
    · rename_i hop
      split at hc
      · simp at hc; exact plain hx hy hc.symm
      · simp at hc; exact plain hx hy hc.symm
      · obtain ⟨k, hk, hao⟩ := Option.map_eq_some_iff.1 hc
        exact eqs hop hx hy hk hao.symm
    · simp at hc; exact plain hx hy hc.symm
  · cases hc

theorem un_op (p : Pre S H ρ w nt T a) {op : UnOp} {t : TypeId} {x : Operand} (ho : o.op = .unOp op t x) (hc : compOp S.C nt o = some ao) (he : evOp T H ao = some (v, H')) : Goal S H ρ w a o v H' := by
  simp only [compOp, ho] at hc
  obtain ⟨x', hx, rfl⟩ := Option.map_eq_some_iff.1 hc
  simp only [evOp] at he
  obtain ⟨r, hr, hv⟩ := Option.map_eq_some_iff.1 he
  simp only [Prod.mk.injEq] at hv
  obtain ⟨rfl, rfl⟩ := hv
  refine ans_ok p.H (un_run (p.opd hx) hr) ?_
  simp only [execOp, ho]

/-- Every operation that reads as an abstract one, but a call. -/
theorem call_op (p : Pre S H ρ w nt T a) {c : Call} (ho : o.op = .call c) (hc : compOp S.C nt o = some ao) (he : evOp T H ao = some (v, H')) : Goal S H ρ w a o v H' := by
  simp only [compOp, ho] at hc
  split at hc
  case h_2 => cases hc
  rename_i xs hxs
  split at hc
  · obtain ⟨f, hf, rfl⟩ := Option.map_eq_some_iff.1 hc
    simp [evOp] at he
  case h_3 => cases hc
  rename_i b hcb
  have hall := p.opds hxs
  have args : (c.args.map a.eval).toList = c.args.toList.map a.eval := by simp
  have fin : ∀ {u : Value} {ρ' w'}, HRel S H' ρ' w' → Frm H ρ w H' ρ' w' → VRel S ρ' H'.n v u → (builtin b c.argTypes o.type (c.args.map fun | .const _ => true | _ => false) (c.args.map a.eval)).run S.C.P w = .ok (.value u) w' → Goal S H ρ w a o v H' := by
    intro u ρ' w' h1 h2 h3 h4
    refine ⟨ρ', w', h1, h2, .inl ⟨u, ?_, h3⟩⟩
    simp only [execOp, ho, resolve, hcb, Sem.run_bind, Sem.run_pure, Result.andThen_ok, invoke]
    exact h4
  have one : ∀ {x : Opd}, xs = [x] → ∃ u, c.args.map a.eval = #[u] ∧ VRel S ρ H.n (x.ev T) u := by
    intro x hx
    subst hx
    obtain ⟨u, us, h1, h2, h3⟩ := hall.cons_inv
    obtain rfl := h3.nil_inv
    exact ⟨u, by rw [← Array.toList_inj, args, h1], h2⟩
  have lst : ∀ {t : TypeId} {ts : List TypeId}, c.argTypes.toList = t :: ts → c.argTypes = (t :: ts).toArray := fun h => by rw [← Array.toList_inj, h]
  unfold compBuiltin at hc
  split at hc
  · -- len
    rename_i x
    split at hc
    case h_2 => cases hc
    rename_i t hts
    obtain ⟨u, hu, hru⟩ := one rfl
    have hat := lst hts
    split at hc
    · rename_i hty
      simp at hc; subst hc
      simp only [evOp] at he
      split at he <;> try (first | (rename_i hk _; cases hk) | (cases he; done))
      rename_i s hxe
      simp only [Option.some.injEq, Prod.mk.injEq] at he
      obtain ⟨rfl, rfl⟩ := he
      rw [hxe] at hru
      have hru : u = .string ⟨s.toArray⟩ := hru
      refine fin (u := .int .i64 s.length) p.H (Frm.refl _ _ _) rfl ?_
      simp only [builtin]
      refine run_v _ _ ?_
      rw [hu, hat, hru]
      simp [Builtin.len_, run_underlying hty, goInt, size_mk]
    · rename_i e hty
      simp at hc; subst hc
      simp only [evOp] at he
      split at he <;> try (first | (rename_i hk _; cases hk) | (cases he; done))
      · rename_i b i n hxe
        simp only [Option.some.injEq, Prod.mk.injEq] at he
        obtain ⟨rfl, rfl⟩ := he
        rw [hxe] at hru
        obtain ⟨_, ad, cap, hru, _⟩ := hru.one
        refine fin (u := .int .i64 n) p.H (Frm.refl _ _ _) rfl ?_
        simp only [builtin]
        refine run_v _ _ ?_
        rw [hu, hat, hru]
        simp [Builtin.len_, run_underlying hty, goInt]
      · rename_i s' els hxe
        simp only [Option.some.injEq, Prod.mk.injEq] at he
        obtain ⟨rfl, rfl⟩ := he
        rw [hxe] at hru
        have h2 := hru.one
        simp only [LRel, CRel] at h2
        obtain ⟨ad, cap, hru, _⟩ := h2
        refine fin (u := .int .i64 els.length) p.H (Frm.refl _ _ _) rfl ?_
        simp only [builtin]
        refine run_v _ _ ?_
        rw [hu, hat, hru]
        simp [Builtin.len_, run_underlying hty, goInt]
      · rename_i hxe
        simp only [Option.some.injEq, Prod.mk.injEq] at he
        obtain ⟨rfl, rfl⟩ := he
        rw [hxe] at hru
        have hru : u = .slice none 0 0 := hru
        refine fin (u := .int .i64 0) p.H (Frm.refl _ _ _) rfl ?_
        simp only [builtin]
        refine run_v _ _ ?_
        rw [hu, hat, hru]
        simp [Builtin.len_, run_underlying hty, goInt]
      · rename_i hxe
        simp only [Option.some.injEq, Prod.mk.injEq] at he
        obtain ⟨rfl, rfl⟩ := he
        rw [hxe] at hru
        obtain ⟨ad, hru⟩ : ∃ ad, u = .slice ad 0 0 := hru
        refine fin (u := .int .i64 0) p.H (Frm.refl _ _ _) rfl ?_
        simp only [builtin]
        refine run_v _ _ ?_
        rw [hu, hat, hru]
        simp [Builtin.len_, run_underlying hty, goInt]
    · cases hc
  · -- append
    rename_i x y
    split at hc
    case h_2 => cases hc
    rename_i t t' hts
    have hat := lst hts
    split at hc
    case h_2 => cases hc
    rename_i e d hty hty'
    split at hc
    case h_2 => cases hc
    rename_i s b z hs hb hz
    split at hc
    case isFalse => cases hc
    rename_i hcond
    simp only [Bool.and_eq_true, bne_iff_ne, ne_eq, beq_iff_eq] at hcond
    obtain ⟨⟨⟨hd, hs0⟩, hb0⟩, hzl⟩ := hcond
    simp at hc; subst hc
    simp only [evOp] at he
    obtain ⟨u, us, h1, h2, h3⟩ := hall.cons_inv
    obtain ⟨u', us', rfl, h2', h3'⟩ := h3.cons_inv
    obtain rfl := h3'.nil_inv
    have hu : c.args.map a.eval = #[u, u'] := by rw [← Array.toList_inj, args, h1]
    obtain ⟨ρ', w', r, k1, k2, k3, k4⟩ := app_ok (ty := o.type) p.H hty hty' (notInt hd) hs hb hz hs0 hb0 hzl h2 h2' he
    refine fin k1 k2 k4 ?_
    simp only [builtin]
    refine run_v _ _ ?_
    rw [hu, hat]; exact k3
  case h_5 => cases hc
  all_goals
    simp at hc
    subst hc
    simp only [evOp] at he
    split at he
    · simp at he
    · rename_i x r
      obtain ⟨z, hz, hv⟩ := Option.map_eq_some_iff.1 he
      simp only [Prod.mk.injEq] at hv
      obtain ⟨rfl, rfl⟩ := hv
      obtain ⟨u, us, h1, h2, h3⟩ := hall.cons_inv
      obtain ⟨q, hq, hrq⟩ := bestL_run (P := S.C.P) (w := w) h2 h3 hz
      refine fin p.H (Frm.refl _ _ _) hrq ?_
      simp only [builtin]
      refine run_v _ _ ?_
      have hu : (c.args.map a.eval).toList = u :: us := by rw [args, h1]
      first | (unfold Builtin.max_; rw [hu]; exact hq) | (unfold Builtin.min_; rw [hu]; exact hq)

/-- EVERY OPERATION THAT IS NO CALL: what the abstract operation answers, the model's does. -/
theorem op_sound (p : Pre S H ρ w nt T a) (hc : compOp S.C nt o = some ao) (he : evOp T H ao = some (v, H')) : Goal S H ρ w a o v H' := by
  cases ho : o.op
  case move => exact move_ok p (.inl ho) hc he
  case assign => exact move_ok p (.inr ho) hc he
  case pick => exact pick_ok p ho hc he
  case alloc => exact alloc_ok p ho hc he
  case box => exact box_ok p ho hc he
  case build => exact build_ok p ho hc he
  case buildSlice => exact row_ok p ho hc he
  case load => exact load_op p ho hc he
  case store => exact store_op p ho hc he
  case nilCheck => exact nil_op p ho hc he
  case binOp => exact bin_op (u := true) p ⟨_, ho⟩ hc he
  case unOp => exact un_op p ho hc he
  case convert => exact conv_op p ho hc he
  case makeFunc => exact makeFunc_op p ho hc he
  case makeSlice => exact mksl_op p ho hc he
  case slice => exact slice_op p ho hc he
  case fieldAddr => exact faddr_op p ho hc he
  case field => exact field_op p ho hc he
  case indexAddr => exact iaddr_op p ho hc he
  case index => exact index_op p ho hc he
  case range => exact range_op p ho hc he
  case next => exact next_op p ho hc he
  case extract => exact ext_op p ho hc he
  case call => exact call_op p ho hc he
  all_goals (simp only [compOp, ho] at hc; cases hc)
end
end Go.EA
