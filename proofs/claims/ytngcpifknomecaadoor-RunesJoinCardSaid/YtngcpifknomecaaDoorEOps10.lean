/- New rows, lengths, the least and the greatest, ranges over texts: what the abstract operation answers, the model's does. Conditions: none. -/
import Derived.Test.YtngcpifknomecaaDoorEOps9
set_option linter.unusedVariables false
set_option linter.unusedSimpArgs false
namespace Go.EA
section
variable {S : SC} {H H' : Heap} {ρ : Rho} {w : World} {nt : Nat} {T : Tm} {a : Act} {o : Oper} {ao : AOp} {v : AV}

theorem mksl_op (p : Pre S H ρ w nt T a) {t : TypeId} {l c : Operand} (ho : o.op = .makeSlice t l c) (hc : compOp S.C nt o = some ao) (he : evOp T H ao = some (v, H')) : Goal S H ρ w a o v H' := by
  simp only [compOp, ho] at hc
  split at hc
  · rename_i e l' c' hu hl hcc
    split at hc
    · rename_i s by' z hs hby hz
      split at hc
      · rename_i hcond
        simp only [Bool.and_eq_true, bne_iff_ne, ne_eq, beq_iff_eq] at hcond
        obtain ⟨hs0, hzl⟩ := hcond
        simp at hc; subst hc
        simp only [evOp] at he
        split at he
        · rename_i ln cp hln hcp
          split at he
          · rename_i hb
            simp only [Option.some.injEq, Prod.mk.injEq] at he
            obtain ⟨rfl, rfl⟩ := he
            obtain ⟨kl, hlv⟩ := idx_v (p.opd hl) hln
            obtain ⟨kc, hcv⟩ := idx_v (p.opd hcc) hcp
            have hz' := hz
            unfold zeroT at hz
            split at hz
            · rename_i i hi
              split at hz
              · rename_i zv hzv
                have hsi : i.size = s := by unfold sizeT at hs; rw [hi] at hs; simpa using hs
                have hbi : i.bytes = by' := by unfold bytesT at hby; rw [hi] at hby; simpa using hby
                have hroom : roomB = 140737488355328 := rfl
                have hmk := run_make (P := S.C.P) w t e i zv hu hi hzv kl kc ln cp (by omega) (by omega) (by rw [hbi, Int.mul_comm]; have := hb.2.1; omega) (by have := hb.2.2; omega)
                simp only [Int.toNat_natCast] at hmk
                rw [hsi] at hmk
                have hzr := zrow (S := S) (ρ := ρ) (n := cp) (m := H.n) hs0 (compCells_rel hz) hzl
                have hzr2 := hzr.take (ln * s)
                have hrep : (List.replicate cp z).flatten.take (ln * s) = (List.replicate ln z).flatten := by
                  have : List.replicate cp z = List.replicate ln z ++ List.replicate (cp - ln) z := by rw [List.replicate_append_replicate]; congr 1; omega
                  rw [this, List.flatten_append]
                  refine List.take_left' ?_
                  rw [flatten_len (s := s) (by intro e he; rw [(List.mem_replicate.1 he).2, hzl])]; simp
                rw [hrep] at hzr2
                have hfl : (List.replicate ln z).flatten.length = ln * s := by rw [flatten_len (s := s) (by intro e he; rw [(List.mem_replicate.1 he).2, hzl])]; simp
                obtain ⟨k1, k2⟩ := p.H.row (ty := e) (s := s) (els := List.replicate ln z) (C := madeCells zv.cells (cp * s)) (0, 0) (by intro e he; rw [(List.mem_replicate.1 he).2, hzl]) (by rw [hfl]; exact hzr2) (.inl (Nat.le_refl _))
                refine ⟨_, _, k1, k2, .inl ⟨.slice (some ⟨w.heap.size, 0, none⟩) ln cp, ?_, ?_⟩⟩
                · simp only [execOp, ho]
                  refine run_v _ _ ?_
                  rw [hlv, hcv]; exact hmk
                · refine ⟨by show H.n < H.n + 1; omega, ⟨w.heap.size, 0, none⟩, cp, rfl, hb.1, .inr ⟨?_, ?_⟩⟩
                  · rw [rput_self]; simp [Loc.addr]
                  · rw [rput_self]
                    show 0 + (0 + cp) * s ≤ (madeCells zv.cells (cp * s)).size
                    rw [size_madeCells]; simp
              · cases hz
            · cases hz
          · cases he
        · cases he
      · cases hc
    · cases hc
  · cases hc

theorem range_op (p : Pre S H ρ w nt T a) {t : TypeId} {x : Operand} (ho : o.op = .range t x) (hc : compOp S.C nt o = some ao) (he : evOp T H ao = some (v, H')) : Goal S H ρ w a o v H' := by
  simp only [compOp, ho] at hc
  split at hc
  · rename_i x' hu hx
    simp at hc; subst hc
    simp only [evOp] at he
    split at he
    · rename_i s hxe
      simp only [Option.some.injEq, Prod.mk.injEq] at he
      obtain ⟨rfl, rfl⟩ := he
      have h1 := p.opd hx
      rw [hxe] at h1
      have hxv : a.eval x = .string ⟨s.toArray⟩ := h1
      obtain ⟨k1, k2⟩ := p.H.push (L := ⟨w.heap.size, 0, 0, 0⟩) (x := .siter s 0) (ob := .stringIter ⟨s.toArray⟩ 0) rfl ⟨rfl, rfl⟩
      refine ⟨_, _, k1, k2, .inl ⟨.pointer (some ⟨w.heap.size, 0, none⟩), ?_, ?_⟩⟩
      · simp only [execOp, ho]
        refine run_v _ _ ?_
        simp [Instr.range, run_underlying hu, hxv]
      · refine ⟨by show H.n < H.n + 1; omega, ?_⟩
        rw [rput_self]; simp [Loc.addr]
    · cases he
  · cases hc

theorem next_op (p : Pre S H ρ w nt T a) {x : Operand} {b : Bool} (ho : o.op = .next x b) (hc : compOp S.C nt o = some ao) (he : evOp T H ao = some (v, H')) : Goal S H ρ w a o v H' := by
  simp only [compOp, ho] at hc
  split at hc
  · rename_i hb0
    have hb0 : b = true := by simpa using hb0
    subst hb0
    obtain ⟨x', hx, rfl⟩ := Option.map_eq_some_iff.1 hc
    simp only [evOp] at he
    split at he
    · rename_i b hxe
      have h1 := p.opd hx
      rw [hxe] at h1
      obtain ⟨hbn, hxv⟩ := h1.one
      split at he
      · rename_i s pos hob
        have hrel := p.H.obj b hbn
        rw [hob] at hrel
        obtain ⟨hrel, ho0⟩ := hrel
        have hptr : a.eval x = .pointer (some ⟨(ρ b).g, 0, none⟩) := by rw [hxv]; simp [Loc.addr, ho0]
        have hget : (getObj (ρ b).g).run S.C.P w = .ok (.stringIter ⟨s.toArray⟩ pos) w := by simp [getObj, Sem.run, hrel]
        split at he
        · rename_i hpos
          simp only [Option.some.injEq, Prod.mk.injEq] at he
          obtain ⟨rfl, rfl⟩ := he
          have hlt : (ρ b).g < w.heap.size := (Array.getElem?_eq_some_iff.1 hrel).1
          obtain ⟨k1, k2⟩ := p.H.turn (b := b) (x := .siter s (pos + (Utf8.decode ⟨s.toArray⟩ pos).2)) (w' := { w with heap := w.heap.setIfInBounds (ρ b).g (.stringIter ⟨s.toArray⟩ (pos + (Utf8.decode ⟨s.toArray⟩ pos).2)) }) hbn (by rw [hob]; rfl)
            ⟨by simp [hlt], ho0⟩ rfl (by simp) rfl rfl rfl (fun k hk => by simp [Array.getElem?_setIfInBounds, Ne.symm hk])
          refine ⟨_, _, k1, k2, .inl ⟨.tuple #[.bool true, .int .i64 pos, .int .i32 (Utf8.decode ⟨s.toArray⟩ pos).1], ?_, ?_⟩⟩
          · simp only [execOp, ho]
            refine run_v _ _ ?_
            rw [hptr]
            have hsz : pos < (⟨s.toArray⟩ : ByteArray).size := by rw [size_mk]; exact hpos
            simp only [Instr.next, Sem.run_bind, hget, Result.andThen_ok, if_pos hsz]
            simp [setObj, Sem.run, hrel, goInt]
          · exact .inr ⟨_, rfl, All2.cons rfl (All2.cons rfl (All2.cons rfl All2.nil))⟩
        · rename_i hpos
          simp only [Option.some.injEq, Prod.mk.injEq] at he
          obtain ⟨rfl, rfl⟩ := he
          refine OpOk.same p.H (u := .tuple #[.bool false]) ?_ (Or.inr ⟨_, rfl, All2.cons rfl All2.nil⟩)
          simp only [execOp, ho]
          refine run_v _ _ ?_
          rw [hptr]
          have hsz : ¬ pos < (⟨s.toArray⟩ : ByteArray).size := by rw [size_mk]; exact hpos
          simp only [Instr.next, Sem.run_bind, hget, Result.andThen_ok, if_neg hsz, Sem.run_pure]
      · cases he
    · cases he
  · cases hc

theorem best2_run {P : Program} {n : Nat} {mx : Bool} {x y z : AV} {a b : Value} (h1 : VRel S ρ n x a) (h2 : VRel S ρ n y b) (h : best2 mx x y = some z) : ∃ u, ((if mx then Builtin.max2 else Builtin.min2) a b).run P w = .ok u w ∧ VRel S ρ n z u := by
  unfold best2 at h
  split at h
  · rename_i k p k' q
    simp only [Option.some.injEq] at h
    subst h
    have ha : a = .int k p := h1
    have hb : b = .int k' q := h2
    subst ha hb
    cases mx
    · exact ⟨.int k (if q < p then q else p), by simp [Builtin.min2], rfl⟩
    · refine ⟨.int k (if q > p then q else p), by simp [Builtin.max2], rfl⟩
  · cases h

theorem bestL_run {P : Program} {n : Nat} {mx : Bool} : ∀ {ys : List AV} {x z : AV} {a : Value} {bs : List Value}, VRel S ρ n x a → All2 (VRel S ρ n) ys bs → bestL mx x ys = some z →
    ∃ u, (bs.foldlM (if mx then Builtin.max2 else Builtin.min2) a).run P w = .ok u w ∧ VRel S ρ n z u
  | [], x, z, a, bs, h1, h2, h => by
    obtain rfl := h2.nil_inv
    simp [bestL] at h; subst h
    exact ⟨a, by simp, h1⟩
  | y :: ys, x, z, a, bs, h1, h2, h => by
    obtain ⟨b, bs, rfl, hb, ht⟩ := h2.cons_inv
    simp only [bestL] at h
    obtain ⟨m, hm, hr⟩ := Option.bind_eq_some_iff.1 h
    obtain ⟨u, hu, hru⟩ := best2_run (w := w) (P := P) h1 hb hm
    obtain ⟨r, hr1, hr2⟩ := bestL_run (P := P) hru ht hr
    exact ⟨r, by simp only [List.foldlM_cons, Sem.run_bind, hu, Result.andThen_ok]; exact hr1, hr2⟩
end
end Go.EA
