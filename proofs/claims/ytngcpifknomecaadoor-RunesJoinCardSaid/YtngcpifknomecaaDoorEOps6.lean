/- Struct values, rows, addresses, parts: what the abstract operation answers, the model's does. Conditions: none. -/
import Derived.Test.YtngcpifknomecaaDoorEOps5
import Derived.Laws.Tables
set_option linter.unusedVariables false
set_option linter.unusedSimpArgs false
namespace Go.EA

/-- What every operation's proof begins with. -/
structure Pre (S : SC) (H : Heap) (ρ : Rho) (w : World) (nt : Nat) (T : Tm) (a : Act) : Prop where
  ok : S.Ok
  T : TRel S ρ H.n T a.tmps
  sz : a.tmps.size = nt
  H : HRel S H ρ w

section
variable {S : SC} {H H' : Heap} {ρ : Rho} {w : World} {nt : Nat} {T : Tm} {a : Act} {o : Oper} {ao : AOp} {v : AV}

theorem Pre.opd (p : Pre S H ρ w nt T a) {x : Operand} {y : Opd} (h : compOpd S.C nt x = some y) : VRel S ρ H.n (y.ev T) (a.eval x) := opd_rel p.ok p.T p.sz h
theorem Pre.opds (p : Pre S H ρ w nt T a) {x : List Operand} {y : List Opd} (h : compOpds S.C nt x = some y) : All2 (VRel S ρ H.n) (y.map (·.ev T)) (x.map a.eval) := opds_rel p.ok p.T p.sz h

abbrev Goal (S : SC) (H : Heap) (ρ : Rho) (w : World) (a : Act) (o : Oper) (v : AV) (H' : Heap) : Prop := OpOk S H ρ w v H' ((execOp a.eval o).run S.C.P w)

theorem move_ok (p : Pre S H ρ w nt T a) {x : Operand} (ho : o.op = .move x ∨ o.op = .assign x) (hc : compOp S.C nt o = some ao) (he : evOp T H ao = some (v, H')) : Goal S H ρ w a o v H' := by
  have : (compOpd S.C nt x).map AOp.mov = some ao := by rcases ho with ho | ho <;> (simp only [compOp, ho] at hc; exact hc)
  obtain ⟨y, hy, rfl⟩ := Option.map_eq_some_iff.1 this
  simp only [evOp, Option.some.injEq, Prod.mk.injEq] at he
  obtain ⟨rfl, rfl⟩ := he
  exact OpOk.same p.H (by rcases ho with ho | ho <;> (unfold execOp; simp only [ho]; rfl)) (p.opd hy)

theorem pick_ok (p : Pre S H ρ w nt T a) {c x y : Operand} (ho : o.op = .pick c x y) (hc : compOp S.C nt o = some ao) (he : evOp T H ao = some (v, H')) : Goal S H ρ w a o v H' := by
  simp only [compOp, ho] at hc
  split at hc
  · rename_i c' x' y' h1 h2 h3
    simp at hc; subst hc
    simp only [evOp] at he
    split at he
    · rename_i t ht
      simp at he; obtain ⟨rfl, rfl⟩ := he
      have hcv := p.opd h1
      rw [ht] at hcv
      have hcv : a.eval c = .bool t := hcv
      refine OpOk.same p.H (u := if t then a.eval x else a.eval y) ?_ ?_
      · simp [execOp, ho, hcv, asBool]
      · cases t
        · exact p.opd h3
        · exact p.opd h2
    · cases he
  · cases hc

/-! ### New variables, struct values, rows -/
theorem alloc_ok (p : Pre S H ρ w nt T a) {t : TypeId} (ho : o.op = .alloc t) (hc : compOp S.C nt o = some ao) (he : evOp T H ao = some (v, H')) : Goal S H ρ w a o v H' := by
  simp only [compOp, ho] at hc
  obtain ⟨z, hz, rfl⟩ := Option.map_eq_some_iff.1 hc
  simp only [evOp, Option.some.injEq, Prod.mk.injEq] at he
  obtain ⟨rfl, rfl⟩ := he
  obtain ⟨zv, h1, h2⟩ := zero_run (w := w) hz
  refine new_ok p.H (v := zv) (ty := t) (compCells_rel h2) ?_
  simp only [execOp, ho]
  refine run_v _ _ ?_
  simp [Instr.alloc, h1, newVar_run]

theorem box_ok (p : Pre S H ρ w nt T a) {t : TypeId} {x : Operand} (ho : o.op = .box t x) (hc : compOp S.C nt o = some ao) (he : evOp T H ao = some (v, H')) : Goal S H ρ w a o v H' := by
  simp only [compOp, ho] at hc
  obtain ⟨y, hy, rfl⟩ := Option.map_eq_some_iff.1 hc
  simp only [evOp] at he
  split at he
  · rename_i q hq
    simp only [Option.some.injEq, Prod.mk.injEq] at he
    obtain ⟨rfl, rfl⟩ := he
    refine new_ok p.H (v := a.eval x) (ty := t) ((p.opd hy).cells hq) ?_
    simp only [execOp, ho]
    refine run_v _ _ ?_
    simp [Instr.box, newVar_run]
  · cases he

theorem places_ok {P : Program} : ∀ (fs : List Field), fs.all (fun f => (sizeT P f.type).isSome) = true →
    ∃ places, fs.mapM (fun f => (P.info? f.type).map fun i => (f.offset, i.size)) = some places ∧ ∀ (i : Nat) (f : Field) (n : Nat), fs[i]? = some f → sizeT P f.type = some n → places[i]? = some (f.offset, n)
  | [], _ => ⟨[], rfl, by simp⟩
  | f :: fs, h => by
    simp only [List.all_cons, Bool.and_eq_true] at h
    obtain ⟨pl, h1, h2⟩ := places_ok fs h.2
    obtain ⟨n, hn⟩ := Option.isSome_iff_exists.1 h.1
    have hn' := hn
    unfold sizeT at hn
    obtain ⟨i, hi, rfl⟩ := Option.map_eq_some_iff.1 hn
    refine ⟨(f.offset, i.size) :: pl, ?_, fun k g m hk hm => ?_⟩
    · simp only [List.mapM_cons, hi, h1]; rfl
    · cases k with
      | zero => simp at hk; subst hk; rw [hn'] at hm; cases hm; rfl
      | succ k => simpa using h2 k g m (by simpa using hk) hm

theorem parts_rel {fs : Array Field} {pl : List (Nat × Nat)} (hp : ∀ (i : Nat) (f : Field) (n : Nat), fs.toList[i]? = some f → sizeT S.C.P f.type = some n → pl[i]? = some (f.offset, n)) : ∀ {ps : List (Nat × Operand)} {qs : List (Nat × Nat × Opd)}, compParts S.C nt fs ps = some qs →
    All2 (fun (p : Nat × Operand) (q : Nat × Nat × Opd) => pl.toArray[p.1]? = some (q.1, q.2.1) ∧ compOpd S.C nt p.2 = some q.2.2) ps qs
  | [], qs, h => by simp [compParts] at h; subst h; exact All2.nil
  | (i, x) :: r, qs, h => by
    simp only [compParts] at h
    split at h
    · rename_i f hf
      split at h
      · rename_i n y l h1 h2 h3
        simp at h; subst h
        refine All2.cons ⟨?_, h2⟩ (parts_rel hp h3)
        have := hp i f n (by simpa using hf) h1
        simpa using this
      · cases h
    · cases h
theorem partsA_rel {s : Nat} : ∀ {ps : List (Nat × Operand)} {qs : List (Nat × Nat × Opd)}, compPartsA S.C nt s ps = some qs →
    All2 (fun (p : Nat × Operand) (q : Nat × Nat × Opd) => (fun i => some (i * s, s)) p.1 = some (q.1, q.2.1) ∧ compOpd S.C nt p.2 = some q.2.2) ps qs
  | [], qs, h => by simp [compPartsA] at h; subst h; exact All2.nil
  | (i, x) :: r, qs, h => by
    simp only [compPartsA] at h
    split at h
    · rename_i y l h2 h3
      simp at h; subst h
      exact All2.cons ⟨rfl, h2⟩ (partsA_rel h3)
    · cases h

theorem build_ok (p : Pre S H ρ w nt T a) {t : TypeId} {ps : Array (Nat × Operand)} (ho : o.op = .build t ps) (hc : compOp S.C nt o = some ao) (he : evOp T H ao = some (v, H')) : Goal S H ρ w a o v H' := by
  have main : ∀ z qs, zeroT S.C.P t = some z → ao = .build z qs → (∀ C r, All2 (LRel S ρ H.n) z C.toList → fillC T z qs = some r → (∀ i zv, S.C.P.info? t = some i → i.zero = some zv → C = zv.cells →
      ∃ C', S.C.P.built t (ps.toList.map fun q => (q.1, a.eval q.2)) = some C' ∧ All2 (LRel S ρ H.n) r C'.toList)) → Goal S H ρ w a o v H' := by
    intro z qs hz hao hb
    subst hao
    simp only [evOp] at he
    obtain ⟨r, hr, hv⟩ := Option.map_eq_some_iff.1 he
    simp only [Prod.mk.injEq] at hv
    obtain ⟨rfl, rfl⟩ := hv
    have hz' := hz
    unfold zeroT at hz
    split at hz
    · rename_i i hi
      split at hz
      · rename_i zv hzv
        obtain ⟨C', h1, h2⟩ := hb zv.cells r (compCells_rel hz) hr i zv hi hzv rfl
        refine OpOk.same p.H (u := .agg C') ?_ ⟨C', rfl, h2⟩
        simp only [execOp, ho]
        refine run_v _ _ ?_
        exact run_build w t _ C' (by simpa using h1)
      · cases hz
    · cases hz
  simp only [compOp, ho] at hc
  split at hc
  · rename_i z fs hz hu
    split at hc
    · rename_i hall
      obtain ⟨qs, hq, hao⟩ := Option.map_eq_some_iff.1 hc
      obtain ⟨pl, hp1, hp2⟩ := places_ok fs.toList hall
      refine main z qs hz hao.symm fun C r hC hr i zv hi hzv hCz => ?_
      subst hCz
      obtain ⟨C', h1, h2⟩ := fill_ok p.ok p.T p.sz (pl.toArray[·]?) ps.toList qs (parts_rel hp2 hq) z zv.cells r hC hr
      refine ⟨C', ?_, h2⟩
      simp only [Program.built, hi, hu, hzv, hp1]
      exact h1
    · cases hc
  · rename_i z n e hz hu
    split at hc
    · rename_i s hs
      obtain ⟨qs, hq, hao⟩ := Option.map_eq_some_iff.1 hc
      refine main z qs hz hao.symm fun C r hC hr i zv hi hzv hCz => ?_
      subst hCz
      obtain ⟨C', h1, h2⟩ := fill_ok p.ok p.T p.sz (fun i => some (i * s, s)) ps.toList qs (partsA_rel hq) z zv.cells r hC hr
      refine ⟨C', ?_, h2⟩
      unfold sizeT at hs
      obtain ⟨ie, hie, rfl⟩ := Option.map_eq_some_iff.1 hs
      simp only [Program.built, hi, hu, hzv, hie]
      exact h1
    · cases hc
  · cases hc

theorem partsE_A {s : Nat} : ∀ {ps : List (Nat × Operand)} {qs : List (Nat × Opd)}, compPartsE S.C nt ps = some qs → compPartsA S.C nt s ps = some (qs.map fun q => (q.1 * s, s, q.2))
  | [], qs, h => by simp [compPartsE] at h; subst h; rfl
  | (i, x) :: r, qs, h => by
    simp only [compPartsE] at h
    split at h
    · rename_i y l h2 h3
      simp at h; subst h
      simp [compPartsA, h2, partsE_A h3]
    · cases h

theorem flatten_set {s : Nat} : ∀ (es : List (List Lf)) (i : Nat) (p : List Lf), (∀ e ∈ es, e.length = s) → i < es.length → p.length = s → (es.set i p).flatten = es.flatten.take (i * s) ++ p ++ es.flatten.drop (i * s + p.length)
  | [], i, p, _, hi, _ => by simp at hi
  | e :: es, 0, p, h, _, hp => by
    have he := h e (by simp)
    simp [hp, he]
  | e :: es, i + 1, p, h, hi, hp => by
    have he := h e (by simp)
    have ih := flatten_set es i p (fun e he => h e (by simp [he])) (by simpa using hi) hp
    simp only [List.set_cons_succ, List.flatten_cons, ih]
    rw [show (i + 1) * s = e.length + i * s by rw [he, Nat.succ_mul]; omega, Nat.add_assoc]
    simp only [List.take_length_add_append, List.drop_length_add_append, List.append_assoc]

theorem fillE_C {s : Nat} : ∀ (qs : List (Nat × Opd)) (es es' : List (List Lf)), (∀ e ∈ es, e.length = s) → fillE T s es qs = some es' → fillC T es.flatten (qs.map fun q => (q.1 * s, s, q.2)) = some es'.flatten ∧ (∀ e ∈ es', e.length = s) ∧ es'.length = es.length
  | [], es, es', h, hf => by simp [fillE] at hf; subst hf; exact ⟨rfl, h, rfl⟩
  | (i, x) :: r, es, es', h, hf => by
    simp only [fillE] at hf
    split at hf
    · rename_i q hq
      split at hf
      · rename_i hc
        have hset : ∀ e ∈ es.set i q, e.length = s := fun e he => by
          rcases List.mem_or_eq_of_mem_set he with h1 | h1
          · exact h e h1
          · rw [h1]; exact hc.2
        obtain ⟨h1, h2, h3⟩ := fillE_C r _ es' hset hf
        refine ⟨?_, h2, by rw [h3]; simp⟩
        have hlen : es.flatten.length = es.length * s := flatten_len h
        have hin : i * s + s ≤ es.length * s := by
          have := Nat.mul_le_mul_right s (show i + 1 ≤ es.length by omega)
          rwa [Nat.succ_mul] at this
        simp only [List.map_cons, fillC, hq]
        rw [if_pos ⟨hc.2, by omega⟩, ← flatten_set es i q h hc.1 hc.2]
        exact h1
      · cases hf
    · cases hf

theorem zrow {n s : Nat} {z : List Lf} {zc : Array Value} {m : Nat} (hs : s ≠ 0) (hz : All2 (LRel S ρ m) z zc.toList) (hl : z.length = s) : All2 (LRel S ρ m) (List.replicate n z).flatten ((Array.range (n * s)).map (zc[· % zc.size]!)).toList := by
  have hzc : zc.size = s := by have := hz.1; simp at this; omega
  have hfl : (List.replicate n z).flatten.length = n * s := by rw [flatten_len (s := s) (by intro e he; rw [(List.mem_replicate.1 he).2, hl])]; simp
  refine ⟨by simp [hfl], fun i x u hx hu => ?_⟩
  have hi : i < n * s := by have := (List.getElem?_eq_some_iff.1 hx).1; omega
  have hcell : ∀ (n i : Nat), i < n * s → (List.replicate n z).flatten[i]? = z[i % s]? := by
    intro n
    induction n with
    | zero => intro i hi; omega
    | succ n ih =>
      intro i hi
      rw [List.replicate_succ, List.flatten_cons]
      rcases Nat.lt_or_ge i s with h | h
      · rw [List.getElem?_append_left (by omega), Nat.mod_eq_of_lt h]
      · rw [List.getElem?_append_right (by omega), hl, ih (i - s) (by rw [Nat.succ_mul] at hi; omega), ← Nat.mod_eq_sub_mod h]
  rw [hcell n i hi] at hx
  obtain ⟨y, hy, hr⟩ := hz.get hx
  have : u = zc[i % zc.size]! := by
    simp [Array.getElem?_range, hi] at hu
    exact hu.symm
  rw [this, hzc]
  have hy' : zc[i % s]? = some y := by rw [← Array.getElem?_toList]; exact hy
  rw [Array.getElem!_eq_getD, Array.getD_eq_getD_getElem?, hy']
  exact hr

theorem row_ok (p : Pre S H ρ w nt T a) {t : TypeId} {n : Nat} {ps : Array (Nat × Operand)} (ho : o.op = .buildSlice t n ps) (hc : compOp S.C nt o = some ao) (he : evOp T H ao = some (v, H')) : Goal S H ρ w a o v H' := by
  simp only [compOp, ho] at hc
  split at hc
  · rename_i e hu
    split at hc
    · rename_i s z qs hs hz hq
      split at hc
      · rename_i hcond
        simp only [Bool.and_eq_true, bne_iff_ne, ne_eq, beq_iff_eq, decide_eq_true_eq] at hcond
        obtain ⟨⟨hs0, hzl⟩, hroom⟩ := hcond
        simp at hc; subst hc
        simp only [evOp] at he
        obtain ⟨es, hes, hv⟩ := Option.map_eq_some_iff.1 he
        simp only [Prod.mk.injEq] at hv
        obtain ⟨rfl, rfl⟩ := hv
        obtain ⟨zv, h1, h2⟩ := zero_run (w := w) hz
        have hrep : ∀ e ∈ List.replicate n z, e.length = s := fun e he => by rw [(List.mem_replicate.1 he).2, hzl]
        obtain ⟨f1, f2, f3⟩ := fillE_C qs _ es hrep hes
        have hzr := zrow (S := S) (ρ := ρ) (n := n) (m := H.n) hs0 (compCells_rel h2) hzl
        obtain ⟨C', g1, g2⟩ := fill_ok p.ok p.T p.sz (fun i => some (i * s, s)) ps.toList _ (partsA_rel (partsE_A hq)) _ _ _ hzr f1
        have hC's : C'.size = es.length * s := by have := g2.1; rw [flatten_len f2] at this; simpa using this.symm
        obtain ⟨k1, k2⟩ := p.H.row (ty := e) (0, 0) f2 (C := C') (by rw [List.take_of_length_le (by rw [g2.1]; exact Nat.le_refl _)]; exact g2) (.inl (Nat.le_refl _))
        refine ⟨_, _, k1, k2, .inl ⟨.slice (some ⟨w.heap.size, 0, none⟩) n n, ?_, ?_⟩⟩
        · simp only [execOp, ho]
          refine run_v _ _ ?_
          have hsz := size_run (w := w) hs
          have hn24 : ¬ (n * s > 2 ^ 24) := by omega
          by_cases hn0 : n * s = 0
          · have : n = 0 := by rcases Nat.mul_eq_zero.1 hn0 with h | h; exact h; exact absurd h hs0
            subst this
            have : zv.cells.size = s := by have := (compCells_rel (S := S) (ρ := ρ) (n := 0) h2).1; simp at this; omega
            simp only [Nat.zero_mul] at g1
            have e0 : ∀ f : Nat → Value, (Array.range 0).map f = #[] := fun f => by apply Array.eq_empty_of_size_eq_zero; simp
            rw [e0] at g1
            simp [Instr.buildSlice, run_underlying hu, hsz, newRow, e0]
            rw [g1]
            simp
          · simp only [Instr.buildSlice, run_underlying hu, Sem.run_bind, Result.andThen_ok, hsz, if_neg hn24, Sem.run_pure, if_neg hn0, h1]
            simp only [Array.toList_map]
            rw [g1]
            simp [newRow]
        · refine ⟨by show H.n < H.n + 1; omega, ⟨w.heap.size, 0, none⟩, n, rfl, Nat.le_refl _, .inr ⟨?_, ?_⟩⟩
          · rw [rput_self]; simp [Loc.addr]
          · rw [rput_self]
            show 0 + (0 + n) * s ≤ C'.size
            rw [hC's, f3]; simp
      · cases hc
    · cases hc
  · cases hc
end
end Go.EA
