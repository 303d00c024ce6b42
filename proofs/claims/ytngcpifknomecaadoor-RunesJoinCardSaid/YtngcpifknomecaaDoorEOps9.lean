/- Slices, new rows, lengths, ranges: what the abstract operation answers, the model's does. Conditions: none. -/
import Derived.Test.YtngcpifknomecaaDoorEOps8
import Derived.Laws.Strings2
set_option linter.unusedVariables false
set_option linter.unusedSimpArgs false
namespace Go.EA
section
variable {S : SC} {H H' : Heap} {ρ : Rho} {w : World} {nt : Nat} {T : Tm} {a : Act} {o : Oper} {ao : AOp} {v : AV}

theorem bound_rel (p : Pre S H ρ w nt T a) {x : Option Operand} {y : Option Opd} (h : compOpt S.C nt x = some y) {d l : Nat} (hb : bound T d y = some l) :
    (x.map a.eval = none ∧ l = d) ∨ ∃ kd, x.map a.eval = some (.int kd l) := by
  cases x with
  | none =>
    simp only [compOpt, Option.some.injEq] at h
    subst h
    simp only [bound, Option.some.injEq] at hb
    exact .inl ⟨rfl, hb.symm⟩
  | some x =>
    simp only [compOpt] at h
    obtain ⟨z, hz, rfl⟩ := Option.map_eq_some_iff.1 h
    simp only [bound] at hb
    obtain ⟨kd, hk⟩ := idx_v (p.opd hz) hb
    exact .inr ⟨kd, by simp [hk]⟩

theorem sb_run {P : Program} {kd : IntKind} {k y : Nat} {c : BoundsCode} (h : k ≤ y) : (Instr.sliceBound (.int kd k) y c).run P w = .ok k w := by
  simp [Instr.sliceBound, asIntOf, h]

theorem bounds2 {P : Program} (isS : Bool) {len cap l h : Nat} {lo hi : Option Value} (hl : (lo = none ∧ l = 0) ∨ ∃ kd, lo = some (.int kd l)) (hh : (hi = none ∧ h = len) ∨ ∃ kd, hi = some (.int kd h)) (h1 : l ≤ h) (h2 : h ≤ cap) :
    (Instr.sliceBounds isS len cap lo hi none).run P w = .ok (l, h, cap) w := by
  rcases hl with ⟨rfl, rfl⟩ | ⟨kd, rfl⟩ <;> rcases hh with ⟨rfl, rfl⟩ | ⟨kd', rfl⟩ <;> simp [Instr.sliceBounds, sb_run, h1, h2]

theorem bounds3 {P : Program} {len cap l h m : Nat} {lo hi : Option Value} {km : IntKind} (hl : (lo = none ∧ l = 0) ∨ ∃ kd, lo = some (.int kd l)) (hh : ∃ kd, hi = some (.int kd h)) (h1 : l ≤ h) (h2 : h ≤ m) (h3 : m ≤ cap) :
    (Instr.sliceBounds true len cap lo hi (some (.int km m))).run P w = .ok (l, h, m) w := by
  obtain ⟨kd', rfl⟩ := hh
  rcases hl with ⟨rfl, rfl⟩ | ⟨kd, rfl⟩ <;> simp [Instr.sliceBounds, sb_run, h1, h2, h3]

theorem isBlk_s (h : HRel S H ρ w) {s b : Nat} (hb : b < H.n) (hi : H.isBlk s b = true) : (ρ b).s = s := by
  have hbs := h.obj b hb
  unfold Heap.isBlk at hi
  split at hi
  · rename_i s' els o hob
    rw [hob] at hbs
    have h3 : s' = s := by simpa using hi
    rw [← h3]; exact hbs.1.symm
  · cases hi

theorem cut_rel (h : HRel S H ρ w) {s b i n l hh m : Nat} {ad : Addr} {cap : Nat} (hb : b < H.n) (hblk : H.isBlk s b = true) (hcap : cap = 0 ∨ (ad = (ρ b).addr i 0 ∧ (ρ b).o + (i + cap) * (ρ b).s ≤ (ρ b).z)) (h1 : l ≤ hh) (h2 : hh ≤ m) (h3 : m ≤ cap) :
    LRel S ρ H.n (.sl b (i + l) (hh - l)) (.slice (if m = l then some ad else (some ad).map (·.add (l * s))) (hh - l) (m - l)) := by
  have hs := isBlk_s h hb hblk
  refine ⟨hb, if m = l then ad else ad.add (l * s), m - l, by split <;> rfl, by omega, ?_⟩
  by_cases hml : m = l
  · left; omega
  · right
    rcases hcap with h0 | ⟨had, hz⟩
    · omega
    · rw [if_neg hml, had]
      refine ⟨?_, ?_⟩
      · unfold Loc.addr
        rw [addr_add, hs, Nat.add_mul]; congr 1; omega
      · have : (i + l + (m - l)) * (ρ b).s ≤ (i + cap) * (ρ b).s := Nat.mul_le_mul_right _ (by omega)
        omega

theorem slice_op (p : Pre S H ρ w nt T a) {t : TypeId} {x : Operand} {lo hi mx : Option Operand} (ho : o.op = .slice t x lo hi mx) (hc : compOp S.C nt o = some ao) (he : evOp T H ao = some (v, H')) : Goal S H ρ w a o v H' := by
  have go : ∀ {u : Value}, (Instr.sliceAt t (a.eval x) (lo.map a.eval) (hi.map a.eval) (mx.map a.eval)).run S.C.P w = .ok u w → VRel S ρ H.n v u → H' = H → Goal S H ρ w a o v H' := by
    intro u h1 h2 h3
    subst h3
    refine OpOk.same p.H (u := u) ?_ h2
    simp only [execOp, ho]
    exact run_v _ _ h1
  have mx0 : ∀ {m : Opd} {k : Nat}, compOpt S.C nt mx = some (some m) → idx? (m.ev T) = some k → ∃ km, mx.map a.eval = some (.int km k) := by
    intro m k hmx hm
    cases mx with
    | none => simp only [compOpt] at hmx; cases hmx
    | some q =>
      simp only [compOpt] at hmx
      obtain ⟨z', hz', h⟩ := Option.map_eq_some_iff.1 hmx
      cases h
      obtain ⟨km, hkm⟩ := idx_v (p.opd hz') hm
      exact ⟨km, by simp [hkm]⟩
  have hi0 : ∀ {m : Opd} {hi' : Option Opd} {d k : Nat}, ((some m).isNone || hi'.isSome) = true → compOpt S.C nt hi = some hi' → bound T d hi' = some k → ∃ kd, hi.map a.eval = some (.int kd k) := by
    intro m hi' d k h0 hhi hh
    rcases bound_rel p hhi hh with ⟨e1, e2⟩ | e
    · exfalso
      cases hi with
      | none =>
        simp only [compOpt, Option.some.injEq] at hhi
        subst hhi
        simp at h0
      | some q => cases e1
    · exact e
  simp only [compOp, ho] at hc
  split at hc
  · rename_i x' lo' hi' mx' hx hlo hhi hmx
    have h1 := p.opd hx
    split at hc
    · rename_i hu
      simp at hc; subst hc
      simp only [evOp] at he
      obtain ⟨z, hz, hv⟩ := Option.map_eq_some_iff.1 he
      simp only [Prod.mk.injEq] at hv
      obtain ⟨rfl, rfl⟩ := hv
      unfold evSlice at hz
      split at hz <;> try (first | (rename_i hk _; cases hk) | (cases hz; done))
      rename_i s hxe
      rw [hxe] at h1
      have hxv : a.eval x = .string ⟨s.toArray⟩ := h1
      split at hz
      · rename_i l h hl hh
        split at hz
        · rename_i hcond
          simp only [Option.some.injEq] at hz
          subst hz
          have hmn : mx = none := by
            cases mx with
            | none => rfl
            | some m => simp only [compOpt] at hmx; obtain ⟨_, _, h⟩ := Option.map_eq_some_iff.1 hmx; cases h
          subst hmn
          have hb := bounds2 (P := S.C.P) (w := w) false (len := (⟨s.toArray⟩ : ByteArray).size) (cap := (⟨s.toArray⟩ : ByteArray).size) (bound_rel p hlo hl) (by rw [size_mk]; exact bound_rel p hhi hh) hcond.1 (by rw [size_mk]; exact hcond.2)
          refine go (u := .string ⟨((s.drop l).take (h - l)).toArray⟩) ?_ rfl rfl
          simp [Instr.sliceAt, run_underlying hu, Instr.slice, hxv, hb]
          rw [ByteArray.extract_mk]
        · cases hz
      · cases hz
    · rename_i e hu
      by_cases hmxhi : (mx'.isNone || hi'.isSome) = true
      case neg => rw [if_neg hmxhi] at hc; cases hc
      rw [if_pos hmxhi] at hc
      obtain ⟨s, hs, rfl⟩ := Option.map_eq_some_iff.1 hc
      simp only [evOp] at he
      obtain ⟨z, hz, hv⟩ := Option.map_eq_some_iff.1 he
      simp only [Prod.mk.injEq] at hv
      obtain ⟨rfl, rfl⟩ := hv
      have hsz := size_run (w := w) hs
      have run2 : ∀ {base : Option Addr} {len cap l h m : Nat}, a.eval x = .slice base len cap → (Instr.sliceBounds true len cap (lo.map a.eval) (hi.map a.eval) (mx.map a.eval)).run S.C.P w = .ok (l, h, m) w →
          (Instr.sliceAt t (a.eval x) (lo.map a.eval) (hi.map a.eval) (mx.map a.eval)).run S.C.P w = .ok (.slice (if m = l then base else base.map (·.add (l * s))) (h - l) (m - l)) w := by
        intro base len cap l h m hxv hb
        simp only [Instr.sliceAt, run_underlying hu, Sem.run_bind, Result.andThen_ok, Instr.slice, hxv, hb, hsz, Sem.run_pure]
      unfold evSlice at hz
      split at hz <;> try (first | (rename_i hk _; cases hk) | (cases hz; done))
      · rename_i b i n hxe
        rw [hxe] at h1
        obtain ⟨hb, ad, cap, hxv, hnc, hcap⟩ := h1.one
        split at hz
        · rename_i hblk
          split at hz
          · rename_i l h hl hh
            split at hz
            · rename_i hcond
              simp only [Option.some.injEq] at hz
              subst hz
              have hmn : mx = none := by
                cases mx with
                | none => rfl
                | some m => simp only [compOpt] at hmx; obtain ⟨_, _, h⟩ := Option.map_eq_some_iff.1 hmx; cases h
              subst hmn
              have hb2 := bounds2 (P := S.C.P) (w := w) true (len := n) (cap := cap) (bound_rel p hlo hl) (bound_rel p hhi hh) hcond.1 (Nat.le_trans hcond.2 hnc)
              exact go (run2 hxv hb2) (cut_rel (n := n) p.H hb hblk hcap hcond.1 (Nat.le_trans hcond.2 hnc) (Nat.le_refl _)) rfl
            · cases hz
          · rename_i l h m hl hh
            split at hz
            · rename_i m' hm
              split at hz
              · rename_i hcond
                obtain ⟨km, hkm⟩ := mx0 hmx hm
                have hhi3 := hi0 hmxhi hhi hh
                have hb2 : (Instr.sliceBounds true n cap (lo.map a.eval) (hi.map a.eval) (mx.map a.eval)).run S.C.P w = .ok (l, h, m') w := by rw [hkm]; exact bounds3 (bound_rel p hlo hl) hhi3 hcond.1 hcond.2.1 (by omega)
                have hrel := cut_rel (n := n) p.H hb hblk hcap hcond.1 hcond.2.1 (Nat.le_trans hcond.2.2 hnc)
                split at hz
                · rename_i hml
                  simp only [Option.some.injEq] at hz
                  subst hz
                  refine go (run2 hxv hb2) ?_ rfl
                  rw [if_pos hml]
                  refine ⟨some ad, ?_⟩
                  congr 1 <;> omega
                · simp only [Option.some.injEq] at hz
                  subst hz
                  exact go (run2 hxv hb2) hrel rfl
              · cases hz
            · cases hz
          · cases hz
        · cases hz
      · rename_i s' els hxe
        rw [hxe] at h1
        have h1' := h1.one
        have h1'' := h1'
        simp only [LRel, CRel] at h1''
        obtain ⟨ad, cap, hxv, hnc, _⟩ := h1''
        rw [hxv] at h1'
        split at hz
        · rename_i hss
          subst hss
          split at hz
          · rename_i l h hl hh
            split at hz
            · rename_i hcond
              simp only [Option.some.injEq] at hz
              subst hz
              have hmn : mx = none := by
                cases mx with
                | none => rfl
                | some m => simp only [compOpt] at hmx; obtain ⟨_, _, h⟩ := Option.map_eq_some_iff.1 hmx; cases h
              subst hmn
              have hb2 := bounds2 (P := S.C.P) (w := w) true (len := els.length) (cap := cap) (bound_rel p hlo hl) (bound_rel p hhi hh) hcond.1 (Nat.le_trans hcond.2 hnc)
              exact go (run2 hxv hb2) (cutF_rel h1' hcond.1 (Nat.le_trans hcond.2 hnc) (Nat.le_refl _) hcond.2) rfl
            · cases hz
          · rename_i l h m hl hh
            split at hz
            · rename_i m' hm
              split at hz
              · rename_i hcond
                obtain ⟨km, hkm⟩ := mx0 hmx hm
                have hhi3 := hi0 hmxhi hhi hh
                have hb2 : (Instr.sliceBounds true els.length cap (lo.map a.eval) (hi.map a.eval) (mx.map a.eval)).run S.C.P w = .ok (l, h, m') w := by rw [hkm]; exact bounds3 (bound_rel p hlo hl) hhi3 hcond.1 hcond.2.1 (by omega)
                split at hz
                · rename_i hml
                  simp only [Option.some.injEq] at hz
                  subst hz
                  refine go (run2 hxv hb2) ?_ rfl
                  rw [if_pos hml]
                  refine ⟨ad, ?_⟩
                  congr 1 <;> omega
                · simp only [Option.some.injEq] at hz
                  subst hz
                  exact go (run2 hxv hb2) (cutF_rel h1' hcond.1 hcond.2.1 (Nat.le_trans hcond.2.2 hnc) (Nat.le_trans hcond.2.1 hcond.2.2)) rfl
              · cases hz
            · cases hz
          · cases hz
        · cases hz
      · rename_i hxe
        rw [hxe] at h1
        have hxv : a.eval x = .slice none 0 0 := h1
        split at hz
        · rename_i hl hh
          simp only [Option.some.injEq] at hz
          subst hz
          have hmn : mx = none := by
            cases mx with
            | none => rfl
            | some m => simp only [compOpt] at hmx; obtain ⟨_, _, h⟩ := Option.map_eq_some_iff.1 hmx; cases h
          subst hmn
          exact go (run2 hxv (bounds2 true (bound_rel p hlo hl) (bound_rel p hhi hh) (Nat.le_refl _) (Nat.le_refl _))) rfl rfl
        · rename_i m hl hh
          split at hz
          · rename_i hm
            simp only [Option.some.injEq] at hz
            subst hz
            obtain ⟨km, hkm⟩ := mx0 hmx hm
            obtain ⟨kd, hkd⟩ := hi0 hmxhi hhi hh
            have hb2 : (Instr.sliceBounds true 0 0 (lo.map a.eval) (hi.map a.eval) (mx.map a.eval)).run S.C.P w = .ok (0, 0, 0) w := by rw [hkm]; exact bounds3 (bound_rel p hlo hl) ⟨kd, hkd⟩ (Nat.le_refl _) (Nat.le_refl _) (Nat.le_refl _)
            exact go (run2 hxv hb2) rfl rfl
          · cases hz
        · cases hz
      · rename_i hxe
        rw [hxe] at h1
        obtain ⟨ad, hxv⟩ : ∃ ad, a.eval x = .slice ad 0 0 := h1
        split at hz
        · rename_i hl hh
          simp only [Option.some.injEq] at hz
          subst hz
          have hmn : mx = none := by
            cases mx with
            | none => rfl
            | some m => simp only [compOpt] at hmx; obtain ⟨_, _, h⟩ := Option.map_eq_some_iff.1 hmx; cases h
          subst hmn
          exact go (run2 hxv (bounds2 true (bound_rel p hlo hl) (bound_rel p hhi hh) (Nat.le_refl _) (Nat.le_refl _))) ⟨ad, rfl⟩ rfl
        · rename_i m hl hh
          split at hz
          · rename_i hm
            simp only [Option.some.injEq] at hz
            subst hz
            obtain ⟨km, hkm⟩ := mx0 hmx hm
            obtain ⟨kd, hkd⟩ := hi0 hmxhi hhi hh
            have hb2 : (Instr.sliceBounds true 0 0 (lo.map a.eval) (hi.map a.eval) (mx.map a.eval)).run S.C.P w = .ok (0, 0, 0) w := by rw [hkm]; exact bounds3 (bound_rel p hlo hl) ⟨kd, hkd⟩ (Nat.le_refl _) (Nat.le_refl _) (Nat.le_refl _)
            exact go (run2 hxv hb2) ⟨ad, rfl⟩ rfl
          · cases hz
        · cases hz
    · cases hc
  · cases hc
end
end Go.EA
