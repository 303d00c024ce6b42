/- Conversions, lengths, ranges, slices, new rows: what the abstract operation answers, the model's does. Conditions: none. -/
import Derived.Test.YtngcpifknomecaaDoorEOps7
import Derived.Laws.IdiomStrings
import Derived.Laws.MakeOwn
set_option linter.unusedVariables false
set_option linter.unusedSimpArgs false
namespace Go.EA
section
variable {S : SC} {H H' : Heap} {ρ : Rho} {w : World} {nt : Nat} {T : Tm} {a : Act} {o : Oper} {ao : AOp} {v : AV}

theorem flatten_at {s : Nat} : ∀ {els : List (List Lf)} {q : Nat} {x : Lf}, (∀ e ∈ els, e.length = s) → els.flatten[q]? = some x → ∃ k j e, els[k]? = some e ∧ e[j]? = some x ∧ q = k * s + j
  | [], q, x, _, h => by simp at h
  | e :: es, q, x, hl, h => by
    have he := hl e (by simp)
    rcases Nat.lt_or_ge q e.length with h1 | h1
    · rw [List.flatten_cons, List.getElem?_append_left h1] at h
      exact ⟨0, q, e, rfl, h, by omega⟩
    · rw [List.flatten_cons, List.getElem?_append_right h1] at h
      obtain ⟨k, j, d, h2, h3, h4⟩ := flatten_at (fun e he => hl e (by simp [he])) h
      exact ⟨k + 1, j, d, by simpa using h2, h3, by rw [Nat.succ_mul]; omega⟩

/-- The cells of a block's elements. -/
theorem cells_row {n : Nat} {L : Loc} {els : List (List Lf)} {C : Array Value} (h : CellsR S ρ n L els C) (i m : Nat) (him : i + m ≤ els.length) :
    ∃ vs : List Value, All2 (LRel S ρ n) ((els.drop i).take m).flatten vs ∧ vs.length = m * L.s ∧ ∀ q u, vs[q]? = some u → C[L.o + i * L.s + q]? = some u := by
  have hl : ∀ e ∈ (els.drop i).take m, e.length = L.s := fun e he => by
    have := List.mem_of_mem_drop (List.mem_of_mem_take he)
    obtain ⟨k, hk, rfl⟩ := List.getElem_of_mem this
    exact (h k _ (List.getElem?_eq_getElem hk)).1
  have hfl : ((els.drop i).take m).flatten.length = m * L.s := by rw [flatten_len hl, List.length_take, List.length_drop, Nat.min_eq_left (by omega)]
  have hcell : ∀ q x, ((els.drop i).take m).flatten[q]? = some x → ∃ u, C[L.o + i * L.s + q]? = some u ∧ LRel S ρ n x u := fun q x hx => by
    obtain ⟨k, j, e, h1, h2, rfl⟩ := flatten_at hl hx
    rw [List.getElem?_take] at h1
    split at h1
    · rw [List.getElem?_drop] at h1
      obtain ⟨u, hu, hr⟩ := (h _ e h1).2 j x h2
      exact ⟨u, by rw [← hu]; congr 1; rw [Nat.add_mul]; omega, hr⟩
    · cases h1
  refine ⟨(C.toList.drop (L.o + i * L.s)).take (m * L.s), ⟨?_, fun q x u hq hu => ?_⟩, ?_, fun q u hu => ?_⟩
  · rw [hfl, List.length_take, List.length_drop]
    rcases Nat.eq_zero_or_pos (m * L.s) with h0 | h0
    · omega
    · obtain ⟨u, hu, _⟩ := hcell (m * L.s - 1) _ (List.getElem?_eq_getElem (by omega))
      have := (Array.getElem?_eq_some_iff.1 hu).1
      simp
      omega
  · rw [List.getElem?_take] at hu
    split at hu
    · rw [List.getElem?_drop, Array.getElem?_toList] at hu
      obtain ⟨u', hu', hr⟩ := hcell q x hq
      rw [hu'] at hu; cases hu; exact hr
    · cases hu
  · rw [List.length_take, List.length_drop]
    rcases Nat.eq_zero_or_pos (m * L.s) with h0 | h0
    · omega
    · obtain ⟨u, hu, _⟩ := hcell (m * L.s - 1) _ (List.getElem?_eq_getElem (by omega))
      have := (Array.getElem?_eq_some_iff.1 hu).1
      simp
      omega
  · rw [List.getElem?_take] at hu
    split at hu
    · rw [List.getElem?_drop, Array.getElem?_toList] at hu; exact hu
    · cases hu

/-- What a slice shows. -/
theorem row_run {P : Program} (h : HRel S H ρ w) {s : Nat} {x : Lf} {u : Value} (hx : LRel S ρ H.n x u) {els : List (List Lf)} (hr : H.row s x = some els) :
    ∃ base cap vs, u = .slice base els.length cap ∧ All2 (LRel S ρ H.n) els.flatten vs ∧ vs.length = els.length * s ∧ (Builtin.firstCells s els.length u).run P w = .ok vs.toArray w ∧
      (∀ ad, base = some ad → ∀ q v, vs[q]? = some v → w.cell? (ad.add q) = some v) ∧ (∀ e ∈ els, e.length = s) := by
  unfold Heap.row at hr
  split at hr
  · simp at hr; subst hr
    have hu : u = .slice none 0 0 := hx
    subst hu
    exact ⟨none, 0, [], rfl, All2.nil, by simp, by simp [Builtin.firstCells], by simp, by simp⟩
  · simp at hr; subst hr
    obtain ⟨ad, hu⟩ := hx
    subst hu
    refine ⟨ad, 0, [], rfl, All2.nil, by simp, ?_, by simp, by simp⟩
    cases ad with
    | none => simp [Builtin.firstCells]
    | some ad =>
      have := loadCells_run (P := P) (w := w) (a := ad) (vs := []) (by simp)
      simpa [Builtin.firstCells] using this
  · rename_i s' els0
    split at hr
    · rename_i hss
      simp only [Option.some.injEq] at hr
      subst hr
      subst hss
      simp only [LRel, CRel] at hx
      obtain ⟨a, cap, rfl, hnc, hcap⟩ := hx
      rcases hcap with rfl | ⟨g, o, C, ty, fr, rfl, hfz, hrc⟩
      · refine ⟨a, cap, [], rfl, All2.nil, by simp, ?_, by simp, by simp⟩
        cases a with
        | none => simp [Builtin.firstCells]
        | some ad =>
          have := loadCells_run (P := P) (w := w) (a := ad) (vs := []) (by simp)
          simpa [Builtin.firstCells] using this
      · have hall : ∀ e ∈ els0, e.length = s' := fun e he => by
          obtain ⟨k, hk, rfl⟩ := List.getElem_of_mem he
          exact (hrc.get (List.getElem?_eq_getElem hk)).1
        have hfl : CellC S ρ.fz C o els0.flatten := CellC.of fun q x hq => by
          obtain ⟨k, j, e, h1, h2, rfl⟩ := flatten_at hall hq
          obtain ⟨u, hu, hr⟩ := (hrc.get h1).2.get h2
          exact ⟨u, by rw [← hu]; congr 1; omega, hr⟩
        obtain ⟨vs, k1, k2⟩ := cells_fz (n := H.n) h hfz hfl
        have hlen : vs.length = els0.length * s' := by rw [← k1.1, flatten_len hall]
        refine ⟨some ⟨g, o, none⟩, cap, vs, rfl, k1, hlen, ?_, fun ad' e => by cases e; exact k2, hall⟩
        have := loadCells_run (P := P) k2
        rw [hlen] at this
        simpa [Builtin.firstCells] using this
    · cases hr
  · rename_i b i n
    split at hr
    · rename_i s' els' o hb
      split at hr
      · rename_i hc
        simp at hr; subst hr
        obtain ⟨hbn, ad, cap, rfl, hnc, hcap⟩ := hx
        have hob := h.obj b hbn
        rw [hb] at hob
        obtain ⟨hs, C, ty, fr, h1, h2, h3⟩ := hob
        have hss : (ρ b).s = s := by rw [← hs]; exact hc.1
        obtain ⟨vs, k1, k2, k3⟩ := cells_row h2 i n hc.2
        rw [hss] at k2 k3
        have hlen : ((els'.drop i).take n).length = n := by simp; omega
        have hcell : ∀ q v, vs[q]? = some v → w.cell? (ad.add q) = some v := fun q v hq => by
          have hq0 : q < n * s := by have := (List.getElem?_eq_some_iff.1 hq).1; omega
          have hn0 : n ≠ 0 := by intro h; subst h; simp at hq0
          rcases hcap with h0 | ⟨had, _⟩
          · omega
          · rw [had]; unfold Loc.addr; rw [addr_add]
            simp [World.cell?, h1, hss]
            exact k3 q v hq
        have hall : ∀ e ∈ (els'.drop i).take n, e.length = s := fun e he => by
          have := List.mem_of_mem_drop (List.mem_of_mem_take he)
          obtain ⟨k, hk, rfl⟩ := List.getElem_of_mem this
          rw [← hss]; exact (h2 k _ (List.getElem?_eq_getElem hk)).1
        refine ⟨some ad, cap, vs, by rw [hlen], k1, by rw [hlen]; exact k2, ?_, fun ad' e => by cases e; exact hcell, hall⟩
        rw [hlen]
        unfold Builtin.firstCells
        have := loadCells_run (P := P) hcell
        rw [k2] at this
        exact this
      · cases hr
    · cases hr
  · cases hr

theorem toBytes_ns : ∀ {els : List (List Lf)} {s : List UInt8}, toBytes els = some s → ∃ ns : List Int, els.flatten = ns.map (Lf.int .u8) ∧ ns.length = els.length ∧ s = ns.map fun n => UInt8.ofNat n.toNat
  | [], s, h => by simp [toBytes] at h; subst h; exact ⟨[], rfl, rfl, rfl⟩
  | e :: r, s, h => by
    unfold toBytes at h
    split at h
    · rename_i h1; cases h1
    · rename_i n r' heq
      cases heq
      obtain ⟨t, ht, rfl⟩ := Option.map_eq_some_iff.1 h
      obtain ⟨ns, h1, h2, h3⟩ := toBytes_ns ht
      exact ⟨n :: ns, by simp [h1], by simp [h2], by simp [h3]⟩
    · cases h

theorem foldl_bytes : ∀ (l : List Int) (r : ByteArray), l.foldl (fun r n => r.push (UInt8.ofNat n.toNat)) r = ⟨r.data ++ (l.map fun n => UInt8.ofNat n.toNat).toArray⟩
  | [], r => by simp
  | b :: l, r => by
    simp only [List.map_cons, List.foldl_cons]
    rw [foldl_bytes l]
    simp [ByteArray.push]

theorem all2_ints {n : Nat} : ∀ {ns : List Int} {vs : List Value}, All2 (LRel S ρ n) (ns.map (Lf.int .u8)) vs → vs = ns.map (Value.int .u8)
  | [], vs, h => by simpa using h.nil_inv
  | m :: ns, vs, h => by
    obtain ⟨u, us, rfl, hu, ht⟩ := h.cons_inv
    have : u = .int .u8 m := hu
    rw [this, all2_ints ht]; rfl

theorem flat1 : ∀ s : List UInt8, (s.map fun b => [Lf.int .u8 (b.toNat : Int)]).flatten = s.map fun b => Lf.int .u8 (b.toNat : Int)
  | [] => rfl
  | b :: s => by simp [flat1 s]

theorem conv_op (p : Pre S H ρ w nt T a) {t t' : TypeId} {x : Operand} (ho : o.op = .convert t t' x) (hc : compOp S.C nt o = some ao) (he : evOp T H ao = some (v, H')) : Goal S H ρ w a o v H' := by
  simp only [compOp, ho] at hc
  split at hc
  · rename_i k1 k x' hu hu' hx
    simp at hc; subst hc
    simp only [evOp] at he
    split at he
    · rename_i k2 n hxe
      simp only [Option.some.injEq, Prod.mk.injEq] at he
      obtain ⟨rfl, rfl⟩ := he
      have h1 := p.opd hx
      rw [hxe] at h1
      have hxv : a.eval x = .int k2 n := h1
      refine OpOk.same p.H (u := .int k (k.wrap n)) ?_ rfl
      simp only [execOp, ho]
      refine run_v _ _ ?_
      simp [convert, run_underlying hu, run_underlying hu', hxv, Conv.intToInt]
    · cases he
  · rename_i x' hu hu' hx
    simp at hc; subst hc
    simp only [evOp] at he
    split at he
    · rename_i s hxe
      simp only [Option.some.injEq, Prod.mk.injEq] at he
      obtain ⟨rfl, rfl⟩ := he
      have h1 := p.opd hx
      rw [hxe] at h1
      have hxv : a.eval x = .string ⟨s.toArray⟩ := h1
      refine OpOk.same p.H (u := .string ⟨s.toArray⟩) ?_ rfl
      simp only [execOp, ho]
      refine run_v _ _ ?_
      simp [convert, run_underlying hu, run_underlying hu', hxv]
    · cases he
  · rename_i k x' hu hu' hx
    simp at hc; subst hc
    simp only [evOp] at he
    split at he
    · rename_i k2 n hxe
      simp only [Option.some.injEq, Prod.mk.injEq] at he
      obtain ⟨rfl, rfl⟩ := he
      have h1 := p.opd hx
      rw [hxe] at h1
      have hxv : a.eval x = .int k2 n := h1
      refine OpOk.same p.H (u := .string (Utf8.encode n)) ?_ ?_
      · simp only [execOp, ho]
        refine run_v _ _ ?_
        simp [convert, run_underlying hu, run_underlying hu', hxv, Conv.intToString]
      · show _ = _
        congr 1
        rw [ByteArray.toList_eq]
    · cases he
  · rename_i e x' hu hu' hx
    split at hc
    · rename_i hue hse
      simp at hc; subst hc
      simp only [evOp] at he
      split at he
      · rename_i s hxe
        simp only [Option.some.injEq, Prod.mk.injEq] at he
        obtain ⟨rfl, rfl⟩ := he
        have h1 := p.opd hx
        rw [hxe] at h1
        have hxv : a.eval x = .string ⟨s.toArray⟩ := h1
        have hr := run_bytes_of_string w t t' e ⟨s.toArray⟩ hu hu' hue
        have hrow : ∀ cp, (bytesRow ⟨s.toArray⟩ cp).toList.take s.length = s.map fun b => Value.int .u8 b.toNat := fun cp => by
          unfold bytesRow
          simp
        have hf := flat1 s
        have hfl : (s.map fun b => [Lf.int .u8 (b.toNat : Int)]).flatten.length = s.length := by rw [hf]; simp
        obtain ⟨k1, k2⟩ := p.H.drew.row (s := 1) (els := s.map fun b => [Lf.int .u8 (b.toNat : Int)]) (C := bytesRow ⟨s.toArray⟩ (grownCap w (⟨s.toArray⟩ : ByteArray).size 0 e)) (ty := e)
          ((bytesRow ⟨s.toArray⟩ (grownCap w (⟨s.toArray⟩ : ByteArray).size 0 e)).size, (bytesRow ⟨s.toArray⟩ (grownCap w (⟨s.toArray⟩ : ByteArray).size 0 e)).size + 1) (by intro e he; simp at he; obtain ⟨b, _, rfl⟩ := he; rfl)
          (by
            rw [hfl, hrow, hf]
            refine ⟨by simp, fun i x u hx hu => ?_⟩
            simp at hx hu
            obtain ⟨b, hb, rfl⟩ := hx
            obtain ⟨b', hb', rfl⟩ := hu
            rw [hb] at hb'; cases hb'; rfl) (.inr (Nat.le_refl _))
        have hge := grownCap_ge w (⟨s.toArray⟩ : ByteArray).size 0 e
        refine ⟨_, _, k1, Frm.drew.trans k2, .inl ⟨.slice (some ⟨w.heap.size, 0, none⟩) (⟨s.toArray⟩ : ByteArray).size (grownCap w (⟨s.toArray⟩ : ByteArray).size 0 e), ?_, ?_⟩⟩
        · simp only [execOp, ho]
          refine run_v _ _ ?_
          rw [hxv]; exact hr
        · refine ⟨by show H.n < H.n + 1; omega, ⟨w.heap.size, 0, none⟩, _, by rw [size_mk], by rw [size_mk] at hge; exact hge, .inr ⟨?_, ?_⟩⟩
          · rw [rput_self]; simp [Loc.addr]
          · rw [rput_self]
            show 0 + (0 + grownCap w (⟨s.toArray⟩ : ByteArray).size 0 e) * 1 ≤ (bytesRow ⟨s.toArray⟩ (grownCap w (⟨s.toArray⟩ : ByteArray).size 0 e)).size
            unfold bytesRow
            rw [size_mk] at hge ⊢
            simp
            omega
      · cases he
    · cases hc
  · rename_i e x' hu hu' hx
    split at hc
    · rename_i hue
      simp at hc; subst hc
      simp only [evOp] at he
      split at he
      · rename_i z hxe
        obtain ⟨s, hs, hv⟩ := Option.map_eq_some_iff.1 he
        simp only [Prod.mk.injEq] at hv
        obtain ⟨rfl, rfl⟩ := hv
        obtain ⟨els, hels, hby⟩ := Option.bind_eq_some_iff.1 hs
        have h1 := p.opd hx
        rw [hxe] at h1
        obtain ⟨base, cap, vs, k1, k2, k3, k4, k5, k6⟩ := row_run (P := S.C.P) p.H h1.one hels
        obtain ⟨ns, n1, n2, rfl⟩ := toBytes_ns hby
        rw [n1] at k2
        have hvs := all2_ints k2
        refine OpOk.same p.H (u := .string ⟨(ns.map fun n : Int => UInt8.ofNat n.toNat).toArray⟩) ?_ (show LRel S ρ H.n (.str _) _ from rfl)
        simp only [execOp, ho]
        refine run_v _ _ ?_
        rw [k1, run_convert_bytes_string w t t' e base _ cap hu hue hu']
        cases base with
        | none =>
          rw [k1] at k4
          simp [Builtin.firstCells] at k4
          subst k4
          have : ns = [] := by simpa using hvs.symm
          subst this
          simp [Conv.bytesToString]
          rfl
        | some ad =>
          rw [k1] at k4
          simp only [Builtin.firstCells, Nat.mul_one] at k4
          rw [hvs] at k4
          rw [run_bytesToString w ad els.length cap ns k4, foldl_bytes]
          congr 2
          show (⟨#[] ++ _⟩ : ByteArray) = _
          simp
      · cases he
    · cases hc
  · cases hc
end
end Go.EA
