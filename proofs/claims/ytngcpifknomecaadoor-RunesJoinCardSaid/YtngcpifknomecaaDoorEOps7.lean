/- Addresses, parts, indices, conversions: what the abstract operation answers, the model's does. Conditions: none. -/
import Derived.Test.YtngcpifknomecaaDoorEOps6
set_option linter.unusedVariables false
set_option linter.unusedSimpArgs false
namespace Go.EA
section
variable {S : SC} {H H' : Heap} {ρ : Rho} {w : World} {nt : Nat} {T : Tm} {a : Act} {o : Oper} {ao : AOp} {v : AV}

theorem idx_v {n : Nat} {x : Opd} {T : Tm} {u : Value} (h : VRel S ρ n (x.ev T) u) {k : Nat} (hk : idx? (x.ev T) = some k) : ∃ kd, u = .int kd k := idx_rel h hk

theorem loc_add (L : Loc) (i j k : Nat) : (L.addr i j).add k = L.addr i (j + k) := by unfold Loc.addr; rw [addr_add]; congr 1; omega

theorem load_op (p : Pre S H ρ w nt T a) {t : TypeId} {x : Operand} (ho : o.op = .load t x) (hc : compOp S.C nt o = some ao) (he : evOp T H ao = some (v, H')) : Goal S H ρ w a o v H' := by
  simp only [compOp, ho] at hc
  split at hc
  · rename_i g n y hg hn hy
    simp at hc; subst hc
    simp only [evOp] at he
    split at he
    · rename_i b i j hx
      obtain ⟨u, hu, hv⟩ := Option.map_eq_some_iff.1 he
      simp only [Prod.mk.injEq] at hv
      obtain ⟨rfl, rfl⟩ := hv
      have h1 := p.opd hy
      rw [hx] at h1
      obtain ⟨hb, hxv⟩ := h1.one
      obtain ⟨r, hr, hrel⟩ := load_ok (P := S.C.P) hg hn p.H hb hu
      refine OpOk.same p.H (u := r) ?_ hrel
      simp only [execOp, ho]
      refine run_v _ _ ?_
      simp [Instr.loadAt, hxv, Instr.sureAddr, hr]
    · rename_i cs hx
      by_cases hl : (if g = true then n else 1) ≤ cs.length
      · rw [if_pos hl] at he
        obtain ⟨u, hu, hv⟩ := Option.map_eq_some_iff.1 he
        simp only [Prod.mk.injEq] at hv
        obtain ⟨rfl, rfl⟩ := hv
        have h1 := p.opd hy
        rw [hx] at h1
        obtain ⟨ad, r, hxv, hr, hrel⟩ := loadF_ok (P := S.C.P) hg hn p.H h1.one hl hu
        refine OpOk.same p.H (u := r) ?_ hrel
        simp only [execOp, ho]
        refine run_v _ _ ?_
        simp [Instr.loadAt, hxv, Instr.sureAddr, hr]
      · rw [if_neg hl] at he; cases he
    · cases he
  · cases hc

theorem store_op (p : Pre S H ρ w nt T a) {t : TypeId} {x y : Operand} (ho : o.op = .store t x y) (hc : compOp S.C nt o = some ao) (he : evOp T H ao = some (v, H')) : Goal S H ρ w a o v H' := by
  simp only [compOp, ho] at hc
  split at hc
  · rename_i n x' y' hn hx hy
    simp at hc; subst hc
    simp only [evOp] at he
    split at he
    · rename_i b i j q hb hq
      split at he
      · rename_i hl
        obtain ⟨H2, h2, hv⟩ := Option.map_eq_some_iff.1 he
        simp only [Prod.mk.injEq] at hv
        obtain ⟨rfl, rfl⟩ := hv
        have h1 := p.opd hx
        rw [hb] at h1
        obtain ⟨hbn, hxv⟩ := h1.one
        have hcel := (p.opd hy).cells hq
        obtain ⟨w', hr, k1, k2⟩ := store_ok (P := S.C.P) p.H hbn h2 hcel
        refine ⟨ρ, w', k1, k2, .inr ⟨?_, rfl⟩⟩
        simp only [execOp, ho]
        refine run_u _ _ ?_
        have hsz : (a.eval y).cells.size = n := by have := hcel.1; simp at this; omega
        simp [Instr.storeAt, hxv, Instr.sureAddr, storeVar, size_run hn, hsz, hr]
      · cases he
    · cases he
  · cases hc

theorem nil_op (p : Pre S H ρ w nt T a) {x : Operand} (ho : o.op = .nilCheck x) (hc : compOp S.C nt o = some ao) (he : evOp T H ao = some (v, H')) : Goal S H ρ w a o v H' := by
  simp only [compOp, ho] at hc
  obtain ⟨y, hy, rfl⟩ := Option.map_eq_some_iff.1 hc
  have h1 := p.opd hy
  simp only [evOp] at he
  split at he <;> simp at he
  · rename_i b i j hx
    obtain ⟨rfl, rfl⟩ := he
    rw [hx] at h1
    exact OpOk.same p.H (u := a.eval x) (by simp [execOp, ho, h1.one.2]) h1
  · rename_i cs hx
    obtain ⟨rfl, rfl⟩ := he
    rw [hx] at h1
    have h2 := h1.one
    simp only [LRel, CRel] at h2
    obtain ⟨gb, o, C, ty, fr, h3, _⟩ := h2
    exact OpOk.same p.H (u := a.eval x) (by simp [execOp, ho, h3]) h1
  · rename_i f c hx
    obtain ⟨rfl, rfl⟩ := he
    rw [hx] at h1
    exact OpOk.same p.H (u := a.eval x) (by simp [execOp, ho, h1.one.2]) h1
  · rename_i l hx
    obtain ⟨rfl, rfl⟩ := he
    rw [hx] at h1
    exact OpOk.same p.H (u := a.eval x) (by simp [execOp, ho, h1.one.2]) h1

theorem faddr_op (p : Pre S H ρ w nt T a) {t : TypeId} {x : Operand} {f : Nat} (ho : o.op = .fieldAddr t x f) (hc : compOp S.C nt o = some ao) (he : evOp T H ao = some (v, H')) : Goal S H ρ w a o v H' := by
  simp only [compOp, ho] at hc
  split at hc
  · rename_i fs y hu hy
    split at hc
    · rename_i fd hfd
      split at hc
      · rename_i hok
        simp at hc; subst hc
        simp only [evOp] at he
        split at he <;> simp at he
        · rename_i b i j hx
          obtain ⟨rfl, rfl⟩ := he
          have h1 := p.opd hy
          rw [hx] at h1
          obtain ⟨hb, hxv⟩ := h1.one
          refine OpOk.same p.H (u := .pointer (some ((ρ b).addr i (j + fd.offset)))) ?_ ⟨hb, rfl⟩
          simp only [execOp, ho]
          refine run_v _ _ ?_
          unfold isFieldOk at hok
          split at hok
          · rename_i inf hi
            have hne : inf.size ≠ 0 := by simpa using hok
            have hsz := size_run (P := S.C.P) (w := w) (t := fd.type) (n := inf.size) (by simp [sizeT, hi])
            simp [Instr.fieldAt, run_underlying hu, hfd, hxv, Instr.sureAddr, fieldPlace, hsz, hne, loc_add]
          · cases hok
        · rename_i cs hx
          obtain ⟨rfl, rfl⟩ := he
          have h1 := p.opd hy
          rw [hx] at h1
          have h2 := h1.one
          simp only [LRel, CRel] at h2
          obtain ⟨gb, o', C, ty, fr, hxv, hfz, hcc⟩ := h2
          refine OpOk.same p.H (u := .pointer (some ⟨gb, o' + fd.offset, none⟩)) ?_ ?_
          · simp only [execOp, ho]
            refine run_v _ _ ?_
            unfold isFieldOk at hok
            split at hok
            · rename_i inf hi
              have hne : inf.size ≠ 0 := by simpa using hok
              have hsz := size_run (P := S.C.P) (w := w) (t := fd.type) (n := inf.size) (by simp [sizeT, hi])
              simp [Instr.fieldAt, run_underlying hu, hfd, hxv, Instr.sureAddr, fieldPlace, hsz, hne, addr_add]
            · cases hok
          · show LRel S ρ H.n (.vptr _) _
            simp only [LRel, CRel]
            exact ⟨gb, _, C, ty, fr, rfl, hfz, hcc.drop _⟩
      · cases hc
    · cases hc
  · cases hc

theorem asOne_part {P : Program} {t : TypeId} {g : Bool} {n off : Nat} (hg : isAggT P t = some g) (hn : sizeT P t = some n) {m : Nat} {cs : List Lf} {arr : Array Value} (hr : All2 (LRel S ρ m) cs arr.toList) {v : AV}
    (hv : asOne g ((cs.drop off).take (if g then n else 1)) = some v) : ∃ u, (part t arr off).run P w = .ok u w ∧ VRel S ρ m v u := by
  have h2 := (hr.drop off).take (if g then n else 1)
  unfold part
  rcases asOne_rel hv h2 with ⟨rfl, hr'⟩ | ⟨rfl, u, hu, hr'⟩
  · refine ⟨.agg ((arr.toList.drop off).take n).toArray, ?_, hr'⟩
    simp [agg_run hg, size_run hn]
    rw [← Array.toList_inj]
    simp [List.take_drop, Nat.add_comm]
  · refine ⟨u, ?_, hr'⟩
    have : arr[off]? = some u := by
      have := congrArg (·[0]?) hu
      simpa using this
    simp [agg_run hg, this]

theorem field_op (p : Pre S H ρ w nt T a) {t : TypeId} {x : Operand} {f : Nat} (ho : o.op = .field t x f) (hc : compOp S.C nt o = some ao) (he : evOp T H ao = some (v, H')) : Goal S H ρ w a o v H' := by
  simp only [compOp, ho] at hc
  split at hc
  · rename_i fs y hu hy
    split at hc
    · rename_i fd hfd
      split at hc
      · rename_i g n hg hn
        simp at hc; subst hc
        simp only [evOp] at he
        split at he
        · rename_i cs hx
          by_cases hl : fd.offset + (if g = true then n else 1) ≤ cs.length
          · rw [if_pos hl] at he
            obtain ⟨z, hz, hv⟩ := Option.map_eq_some_iff.1 he
            simp only [Prod.mk.injEq] at hv
            obtain ⟨rfl, rfl⟩ := hv
            have h1 := p.opd hy
            rw [hx] at h1
            obtain ⟨arr, hxv, hr⟩ := h1.agg
            obtain ⟨u, hu2, hr2⟩ := asOne_part (w := w) hg hn hr hz
            refine OpOk.same p.H (u := u) ?_ hr2
            simp only [execOp, ho]
            refine run_v _ _ ?_
            simp [Instr.field, run_underlying hu, hfd, hxv, asAgg, hu2]
          · rw [if_neg hl] at he; cases he
        · cases he
      · cases hc
    · cases hc
  · cases hc

theorem iaddr_op (p : Pre S H ρ w nt T a) {t : TypeId} {x y : Operand} (ho : o.op = .indexAddr t x y) (hc : compOp S.C nt o = some ao) (he : evOp T H ao = some (v, H')) : Goal S H ρ w a o v H' := by
  simp only [compOp, ho] at hc
  split at hc
  · rename_i e x' y' hu hx hy
    obtain ⟨s, hs, rfl⟩ := Option.map_eq_some_iff.1 hc
    simp only [evOp] at he
    split at he
    · rename_i b f n k hxe hk
      split at he
      · rename_i hcond
        simp only [Option.some.injEq, Prod.mk.injEq] at he
        obtain ⟨rfl, rfl⟩ := he
        have h1 := p.opd hx
        rw [hxe] at h1
        obtain ⟨hb, ad, cap, hxv, hnc, hcap⟩ := h1.one
        obtain ⟨kd, hyv⟩ := idx_v (p.opd hy) hk
        have hbs := p.H.obj b hb
        have hsb : (ρ b).s = s := by
          have := hcond.1
          unfold Heap.isBlk at this
          split at this
          · rename_i s' els o hob
            rw [hob] at hbs
            have h3 : s' = s := by simpa using this
            rw [← h3]; exact hbs.1.symm
          · cases this
        rcases hcap with h0 | ⟨had, _⟩
        · omega
        refine OpOk.same p.H (u := .pointer (some ((ρ b).addr (f + k) 0))) ?_ ⟨hb, rfl⟩
        simp only [execOp, ho]
        refine run_v _ _ ?_
        simp [Instr.indexAt, run_underlying hu, hxv, hyv, asIntOf, size_run hs, hcond.2, had]
        unfold Loc.addr
        rw [addr_add, hsb, Nat.add_mul]
        congr 1; omega
      · cases he
    · rename_i s' els k hxe hk
      split at he
      · rename_i hss
        obtain ⟨e', hel, hv⟩ := Option.map_eq_some_iff.1 he
        simp only [Prod.mk.injEq] at hv
        obtain ⟨rfl, rfl⟩ := hv
        have h1 := p.opd hx
        rw [hxe] at h1
        have h2 := h1.one
        simp only [LRel, CRel] at h2
        obtain ⟨ad, cap, hxv, hnc, hcap⟩ := h2
        obtain ⟨kd, hyv⟩ := idx_v (p.opd hy) hk
        have hkl := (List.getElem?_eq_some_iff.1 hel).1
        rcases hcap with rfl | ⟨gb, o', C, ty, fr, rfl, hfz, hrc⟩
        · simp at hkl
        have hg := hrc.get hel
        subst hss
        refine OpOk.same p.H (u := .pointer (some ⟨gb, o' + k * s', none⟩)) ?_ ?_
        · simp only [execOp, ho]
          refine run_v _ _ ?_
          simp [Instr.indexAt, run_underlying hu, hxv, hyv, asIntOf, size_run hs, hkl, addr_add]
        · show LRel S ρ H.n (.vptr _) _
          simp only [LRel, CRel]
          exact ⟨gb, _, C, ty, fr, rfl, hfz, hg.2⟩
      · cases he
    · cases he
  · rename_i n e x' y' hu hx hy
    obtain ⟨s, hs, rfl⟩ := Option.map_eq_some_iff.1 hc
    simp only [evOp] at he
    split at he
    · rename_i b el j k hxe hk
      split at he
      · rename_i hcond
        simp only [Option.some.injEq, Prod.mk.injEq] at he
        obtain ⟨rfl, rfl⟩ := he
        have h1 := p.opd hx
        rw [hxe] at h1
        obtain ⟨hb, hxv⟩ := h1.one
        obtain ⟨kd, hyv⟩ := idx_v (p.opd hy) hk
        refine OpOk.same p.H (u := .pointer (some ((ρ b).addr el (j + k * s)))) ?_ ⟨hb, rfl⟩
        simp only [execOp, ho]
        refine run_v _ _ ?_
        simp [Instr.indexAt, run_underlying hu, hxv, hyv, asIntOf, size_run hs, hcond, Instr.sureAddr, loc_add]
      · cases he
    · rename_i cs k hxe hk
      split at he
      · rename_i hcond
        simp only [Option.some.injEq, Prod.mk.injEq] at he
        obtain ⟨rfl, rfl⟩ := he
        have h1 := p.opd hx
        rw [hxe] at h1
        have h2 := h1.one
        simp only [LRel, CRel] at h2
        obtain ⟨gb, o', C, ty, fr, hxv, hfz, hcc⟩ := h2
        obtain ⟨kd, hyv⟩ := idx_v (p.opd hy) hk
        refine OpOk.same p.H (u := .pointer (some ⟨gb, o' + k * s, none⟩)) ?_ ?_
        · simp only [execOp, ho]
          refine run_v _ _ ?_
          simp [Instr.indexAt, run_underlying hu, hxv, hyv, asIntOf, size_run hs, hcond, Instr.sureAddr, addr_add]
        · show LRel S ρ H.n (.vptr _) _
          simp only [LRel, CRel]
          exact ⟨gb, _, C, ty, fr, rfl, hfz, hcc.drop _⟩
      · cases he
    · cases he
  · cases hc

theorem index_op (p : Pre S H ρ w nt T a) {t : TypeId} {x y : Operand} (ho : o.op = .index t x y) (hc : compOp S.C nt o = some ao) (he : evOp T H ao = some (v, H')) : Goal S H ρ w a o v H' := by
  have arr : ∀ (g : Bool) (n e s : Nat) (x' y' : Opd), S.C.P.underlying t = some (.array n e) → compOpd S.C nt x = some x' → compOpd S.C nt y = some y' → isAggT S.C.P e = some g → sizeT S.C.P e = some s → (g = false → s = 1) →
      ao = .aidx g n s x' y' → Goal S H ρ w a o v H' := by
    intro g n e s x' y' hu hx hy hg hs hgs hao
    subst hao
    simp only [evOp] at he
    split at he
    · rename_i cs k hxe hk
      split at he
      · rename_i hcond
        obtain ⟨z, hz, hv⟩ := Option.map_eq_some_iff.1 he
        simp only [Prod.mk.injEq] at hv
        obtain ⟨rfl, rfl⟩ := hv
        have h1 := p.opd hx
        rw [hxe] at h1
        obtain ⟨A, hxv, hr⟩ := h1.agg
        obtain ⟨kd, hyv⟩ := idx_v (p.opd hy) hk
        have hz' : asOne g ((cs.drop (k * s)).take (if g then s else 1)) = some z := by
          cases g
          · rw [hgs rfl] at hz ⊢; exact hz
          · exact hz
        obtain ⟨u, hu2, hr2⟩ := asOne_part (w := w) hg hs hr hz'
        refine OpOk.same p.H (u := u) ?_ hr2
        simp only [execOp, ho]
        refine run_v _ _ ?_
        simp [Instr.index, run_underlying hu, hxv, hyv, asIntOf, size_run hs, hcond.1, hu2]
      · cases he
    · cases he
  simp only [compOp, ho] at hc
  split at hc
  · rename_i x' y' hu hx hy
    simp at hc; subst hc
    simp only [evOp] at he
    split at he
    · rename_i s k hxe hk
      split at he
      · rename_i c hcg
        simp only [Option.some.injEq, Prod.mk.injEq] at he
        obtain ⟨rfl, rfl⟩ := he
        have h1 := p.opd hx
        rw [hxe] at h1
        have hxv : a.eval x = .string ⟨s.toArray⟩ := h1.one
        obtain ⟨kd, hyv⟩ := idx_v (p.opd hy) hk
        refine OpOk.same p.H (u := .int .u8 c.toNat) ?_ rfl
        simp only [execOp, ho]
        refine run_v _ _ ?_
        have hget : (⟨s.toArray⟩ : ByteArray)[k]? = some c := by
          have hk := (List.getElem?_eq_some_iff.1 hcg)
          obtain ⟨hlt, hck⟩ := hk
          rw [getElem?_pos (⟨s.toArray⟩ : ByteArray) k (by show k < (⟨s.toArray⟩ : ByteArray).size; rw [size_mk]; exact hlt)]
          congr 1
        simp [Instr.index, run_underlying hu, hxv, hyv, asIntOf, hget]
      · cases he
    · cases he
  · rename_i n e x' y' hu hx hy
    split at hc
    · rename_i s hg hs
      simp at hc
      exact arr true n e s x' y' hu hx hy hg hs (by simp) hc.symm
    · rename_i hg hs
      simp at hc
      exact arr false n e 1 x' y' hu hx hy hg hs (by simp) hc.symm
    · cases hc
  · cases hc

theorem ext_op (p : Pre S H ρ w nt T a) {x : Operand} {i : Nat} (ho : o.op = .extract x i) (hc : compOp S.C nt o = some ao) (he : evOp T H ao = some (v, H')) : Goal S H ρ w a o v H' := by
  simp only [compOp, ho] at hc
  obtain ⟨y, hy, rfl⟩ := Option.map_eq_some_iff.1 hc
  simp only [evOp] at he
  split at he
  · rename_i vs hx
    have main : ∀ z : AV, z.isVal = true → vs[i]? = some z → v = z → H' = H → Goal S H ρ w a o v H' := by
      intro z hzv hz h1 h2
      subst h1 h2
      have h1 := p.opd hy
      rw [hx] at h1
      have hj : (AV.tup vs).isJ = false := by
        unfold AV.isJ
        split
        · rename_i x heq
          cases heq
          cases i with
          | zero => simp at hz; subst hz; cases hzv
          | succ i => simp at hz
        · rfl
      obtain ⟨arr, hxv, hr⟩ := h1.tup hj
      obtain ⟨u, hu, hru⟩ := hr.get hz
      have hu' : arr[i]? = some u := by rw [← Array.getElem?_toList]; exact hu
      refine OpOk.same p.H (u := u) ?_ ?_
      · simp only [execOp, ho]
        refine run_v _ _ ?_
        simp [Instr.extract, hxv, hu']
      · cases v with
        | one z => exact hru
        | agg cs => exact hru
        | tup vs => exact hru.elim
    split at he
    · rename_i z hz
      simp only [Option.some.injEq, Prod.mk.injEq] at he
      exact main _ rfl hz he.1.symm he.2.symm
    · rename_i z hz
      simp only [Option.some.injEq, Prod.mk.injEq] at he
      exact main _ rfl hz he.1.symm he.2.symm
    · cases he
  · cases he

theorem makeFunc_op (p : Pre S H ρ w nt T a) {fn : Fn} {first caps : Array Operand} (ho : o.op = .makeFunc fn first caps) (hc : compOp S.C nt o = some ao) (he : evOp T H ao = some (v, H')) : Goal S H ρ w a o v H' := by
  simp only [compOp, ho] at hc
  split at hc
  · rename_i f
    split at hc
    · rename_i i l hi hl
      split at hc
      · rename_i hfe
        simp at hc; subst hc
        have hfirst : first = #[] := by simpa using hfe
        subst hfirst
        simp only [evOp] at he
        obtain ⟨cs, hcs, hv⟩ := Option.map_eq_some_iff.1 he
        simp only [Prod.mk.injEq] at hv
        obtain ⟨rfl, rfl⟩ := hv
        have hall := p.opds hl
        refine OpOk.same p.H (u := .func (.func f) #[] (caps.map a.eval)) ?_ ?_
        · simp only [execOp, ho]
          refine run_v _ _ ?_
          simp [Instr.makeFunc]
        · have key : ∀ (l : List Opd) (vs : List Value) (cs : List (Nat × Nat × Nat)), All2 (VRel S ρ H.n) (l.map (·.ev T)) vs →
              (l.mapM fun x => capOf (x.ev T)) = some cs → (∀ c ∈ cs, c.1 < H.n) ∧ vs = cs.map (capAddr ρ) := by
            intro l
            induction l with
            | nil =>
              intro vs cs h1 h2
              simp at h2; subst h2
              obtain rfl := h1.nil_inv
              simp
            | cons x l ih =>
              intro vs cs h1 h2
              obtain ⟨u, us, rfl, hu, ht⟩ := h1.cons_inv
              simp only [List.mapM_cons, Option.bind_eq_bind, Option.pure_def, Option.bind_eq_some_iff] at h2
              obtain ⟨c, hc, r, hr, hcs⟩ := h2
              simp at hcs; subst hcs
              unfold capOf at hc
              split at hc
              · rename_i b i j hx
                simp at hc; subst hc
                have hu : VRel S ρ H.n (x.ev T) u := hu
                rw [hx] at hu
                obtain ⟨hb, hux⟩ := hu.one
                obtain ⟨k1, k2⟩ := ih us r ht hr
                refine ⟨by intro c hc; rcases List.mem_cons.1 hc with rfl | h; exact hb; exact k1 c h, ?_⟩
                rw [hux, k2]; rfl
              · cases hc
          obtain ⟨k1, k2⟩ := key l (caps.toList.map a.eval) cs hall hcs
          refine ⟨k1, ?_⟩
          rw [p.ok.ren f i hi, ← k2]
          simp [← Array.toList_map]
      · cases hc
    · cases hc
  · cases hc
end
end Go.EA
