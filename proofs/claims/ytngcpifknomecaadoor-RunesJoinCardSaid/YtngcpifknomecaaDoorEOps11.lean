/- append, the other builtins; one theorem over every operation that is no call. Conditions: none. -/
import Derived.Test.YtngcpifknomecaaDoorEOps10
set_option linter.unusedVariables false
set_option linter.unusedSimpArgs false
namespace Go.EA

section
variable {S : SC} {H H' : Heap} {ρ : Rho} {w : World} {nt : Nat} {T : Tm} {a : Act} {o : Oper} {ao : AOp} {v : AV}

/-- An own object is put in another's stead, at the same block. -/
theorem HRel.move (h : HRel S H ρ w) {b : Nat} (hb : b < H.n) (hob : own (H.o b) = true) {L : Loc} (hg : L.g = (ρ b).g) {x : AO} {w' : World} (hx : ORel S (ρ.put H.n L) (H.n + 1) L x (w'.heap[L.g]?))
    (hsz : w'.heap.size = w.heap.size) (hos : w'.os = w.os) (htp : w'.tape = w.tape) (hout : w'.output = w.output) (hk : ∀ k, k ≠ (ρ b).g → w'.heap[k]? = w.heap[k]?) :
    HRel S ((H.set b .dead).push x) (ρ.put H.n L) w' ∧ Frm H ρ w ((H.set b .dead).push x) (ρ.put H.n L) w' := by
  have hp : ∀ i, i < H.n → ρ.put H.n L i = ρ i := fun i hi => rput_ne ρ L (by omega)
  have hn : ρ.put H.n L H.n = L := rput_self ρ H.n L
  have ho : ∀ i, i < H.n → i ≠ b → ((H.set b .dead).push x).o i = H.o i := fun i hi hib => by
    simp only [Heap.push, Heap.set, EA.put]; rw [if_neg (by omega), if_neg hib]
  have hod : ((H.set b .dead).push x).o b = .dead := by
    simp only [Heap.push, Heap.set, EA.put]; rw [if_neg (by omega), if_pos trivial]
  have hon : ((H.set b .dead).push x).o H.n = x := if_pos rfl
  have hlb : live (H.o b) = true := by revert hob; cases H.o b <;> simp [own, live]
  refine HRel.mk2 h (fun i hi => ?_) (fun i j hi hj hne hoi hlj => ?_) ⟨by omega, hos, htp, hout, by simp [Heap.push, Heap.set], hp, fun k hk' hni => ⟨hk k (Ne.symm (hni b hb hob)), fun i hi hoi => ?_⟩, fun _ _ h => h, fun _ _ _ => rfl⟩
  · have hi' : i < H.n + 1 := hi
    show ORel S (ρ.put H.n L) (H.n + 1) _ _ _
    rcases Nat.lt_or_ge i H.n with hl | hl
    · rw [hp i hl]
      by_cases e : i = b
      · subst e; rw [hod]; trivial
      · rw [ho i hl e]
        cases hd : live (H.o i) with
        | false =>
          have : H.o i = .dead := by revert hd; cases H.o i <;> simp [live]
          rw [this]; trivial
        | true =>
          rw [hk _ (Ne.symm (h.ap b i hb hl (Ne.symm e) hob hd))]
          exact (h.obj i hl).mono (Ext.put ρ H.n L)
    · have : i = H.n := by omega
      subst this
      rw [hn, hon]
      exact hx
  · have hi' : i < H.n + 1 := hi
    have hj' : j < H.n + 1 := hj
    have hib : i ≠ b := fun e => by subst e; rw [hod] at hoi; cases hoi
    have hjb : j ≠ b := fun e => by subst e; rw [hod] at hlj; cases hlj
    rcases Nat.lt_or_ge i H.n with hl | hl <;> rcases Nat.lt_or_ge j H.n with hl2 | hl2
    · rw [hp i hl, hp j hl2]
      rw [ho i hl hib] at hoi
      rw [ho j hl2 hjb] at hlj
      exact h.ap i j hl hl2 hne hoi hlj
    · have : j = H.n := by omega
      subst this
      rw [hp i hl, hn, hg]
      rw [ho i hl hib] at hoi
      exact h.ap i b hl hb hib hoi hlb
    · have : i = H.n := by omega
      subst this
      rw [hp j hl2, hn, hg]
      rw [ho j hl2 hjb] at hlj
      exact h.ap b j hb hl2 (Ne.symm hjb) hob hlj
    · omega
  · have hi' : i < H.n + 1 := hi
    have hib : i ≠ b := fun e => by subst e; rw [hod] at hoi; cases hoi
    rcases Nat.lt_or_ge i H.n with hl | hl
    · rw [hp i hl]; rw [ho i hl hib] at hoi; exact hni i hl hoi
    · have : i = H.n := by omega
      subst this
      rw [hn, hg]
      exact hni b hb hob

/-- Cells that lie one behind the other, as elements. -/
theorem cells_of3 {n : Nat} {els : List (List Lf)} {C : Array Value} {L : Loc} {vs : List Value} (hs : ∀ e ∈ els, e.length = L.s) (hA : All2 (LRel S ρ n) els.flatten vs) (hv : ∀ q u, vs[q]? = some u → C[L.o + q]? = some u) : CellsR S ρ n L els C := by
  intro k e hk
  have he := hs e (List.mem_of_getElem? hk)
  refine ⟨he, fun j x hj => ?_⟩
  have hf : ∀ (els : List (List Lf)) (k : Nat), (∀ e ∈ els, e.length = L.s) → els[k]? = some e → els.flatten[k * L.s + j]? = some x := by
    intro els
    induction els with
    | nil => intro k _ h; simp at h
    | cons d ds ih =>
      intro k hl h
      cases k with
      | zero =>
        simp at h; subst h
        rw [List.flatten_cons, Nat.zero_mul, Nat.zero_add, List.getElem?_append_left (List.getElem?_eq_some_iff.1 hj).1]
        exact hj
      | succ k =>
        simp at h
        have hd := hl d (by simp)
        rw [List.flatten_cons, List.getElem?_append_right (by rw [hd, Nat.succ_mul]; omega), hd]
        have := ih k (fun e he => hl e (by simp [he])) h
        rwa [show (k + 1) * L.s + j - L.s = k * L.s + j by rw [Nat.succ_mul]; omega]
  obtain ⟨v, hv2, hr⟩ := hA.get (hf els k hs hk)
  exact ⟨v, by rw [Nat.add_assoc]; exact hv _ v hv2, hr⟩

/-- What is appended. -/
theorem src_run {P : Program} (h : HRel S H ρ w) {s : Nat} {x : AV} {u : Value} (hx : VRel S ρ H.n x u) {els : List (List Lf)} (hr : srcRow H s x = some els) :
    ∃ vs, (Builtin.lenOf u).run P w = .ok els.length w ∧ (Builtin.firstCells s els.length u).run P w = .ok vs.toArray w ∧ All2 (LRel S ρ H.n) els.flatten vs ∧ vs.length = els.length * s ∧ (∀ e ∈ els, e.length = s) := by
  unfold srcRow at hr
  split at hr
  · rename_i b
    split at hr
    · rename_i hs1
      subst hs1
      simp at hr; subst hr
      have hu : u = .string ⟨b.toArray⟩ := hx
      subst hu
      refine ⟨b.map fun c => .int .u8 c.toNat, ?_, ?_, ?_, by simp, by simp⟩
      · simp [Builtin.lenOf, size_mk]
      · simp only [Builtin.firstCells, List.length_map, ByteArray.extract_mk]
        simp
      · rw [flat1]
        refine ⟨by simp, fun i x u hx hu => ?_⟩
        simp at hx hu
        obtain ⟨c, hc, rfl⟩ := hx
        obtain ⟨c', hc', rfl⟩ := hu
        rw [hc] at hc'; cases hc'; rfl
    · cases hr
  · rename_i y _
    obtain ⟨base, cap, vs, k1, k2, k3, k4, k5, k6⟩ := row_run (P := P) h hx.one hr
    exact ⟨vs, by rw [k1]; simp [Builtin.lenOf], k4, k2, k3, k6⟩
  · cases hr

theorem notInt {d : TypeDesc} (hd : isTS d = true) : d = .string ∨ ∃ e, d = .slice e := by revert hd; cases d <;> simp [isTS]

/-- append that needs a new row. -/
theorem grow_run {P : Program} {t t' e ty : TypeId} {d : TypeDesc} {i : TypeInfo} {z : Value} (ht : P.underlying t = some (.slice e)) (ht' : P.underlying t' = some d) (hd : d = .string ∨ ∃ e, d = .slice e)
    (hi : P.info? e = some i) (hz : i.zero = some z) {base : Option Addr} {n cap m : Nat} {x : Value} {olds news : List Value} (hl : (Builtin.lenOf x).run P w = .ok m w) (hn : (Builtin.firstCells i.size m x).run P w.drew = .ok news.toArray w.drew)
    (ho : (Builtin.firstCells i.size n (.slice base n cap)).run P w.drew = .ok olds.toArray w.drew) (hgt : cap < n + m) (hb : i.bytes ≠ 0) (hfit : Builtin.nextslicecap (n + m) cap * i.bytes ≤ 281474976710656) :
    (Builtin.append_ #[t, t'] ty #[.slice base n cap, x]).run P w = .ok (.slice (some ⟨w.heap.size, 0, none⟩) (n + m) (grownCap w (n + m) cap e))
      (w.drew.alloc (.cells (olds.toArray ++ news.toArray ++ Builtin.zeroCells z.cells (grownCap w (n + m) cap e - (n + m))) e)) := by
  have hng : ¬ (n + m ≤ cap) := by omega
  have hfit' : ¬ (281474976710656 < Builtin.nextslicecap (n + m) cap * i.bytes) := by omega
  have hdr : ({ heap := w.heap, tape := w.tape, drawn := w.drawn + 1, os := w.os, output := w.output } : World) = w.drew := rfl
  rcases hd with rfl | ⟨e', rfl⟩ <;> simp [Builtin.append_, run_underlying ht, run_underlying ht', sizeOf, typeInfo, hi, hz, zeroValue, hl, hng, hb, hfit', Question.forced, hdr, hn, ho, newRow, grownCap] <;> rw [← Array.append_assoc] <;> simp

/-- append that has room. -/
theorem room_run {P : Program} {t t' e ty : TypeId} {d : TypeDesc} {i : TypeInfo} (ht : P.underlying t = some (.slice e)) (ht' : P.underlying t' = some d) (hd : d = .string ∨ ∃ e, d = .slice e)
    (hi : P.info? e = some i) {base : Option Addr} {n cap m : Nat} {x : Value} {news : List Value} (hl : (Builtin.lenOf x).run P w = .ok m w) (hn : (Builtin.firstCells i.size m x).run P w = .ok news.toArray w)
    (hle : n + m ≤ cap) {w' : World} (hst : ∀ a, base = some a → (storeCells (a.add (n * i.size)) news).run P w = .ok () w') (hno : base = none → w' = w) :
    (Builtin.append_ #[t, t'] ty #[.slice base n cap, x]).run P w = .ok (.slice base (n + m) cap) w' := by
  cases base with
  | none =>
    rw [hno rfl]
    rcases hd with rfl | ⟨e', rfl⟩ <;> simp [Builtin.append_, run_underlying ht, run_underlying ht', sizeOf, typeInfo, hi, hl, hle, hn]
  | some a =>
    rcases hd with rfl | ⟨e', rfl⟩ <;> simp [Builtin.append_, run_underlying ht, run_underlying ht', sizeOf, typeInfo, hi, hl, hle, hn, hst a rfl]

theorem app_ok {t t' e ty : TypeId} {d : TypeDesc} {s bytes : Nat} {z : List Lf} (hH : HRel S H ρ w) (ht : S.C.P.underlying t = some (.slice e)) (ht' : S.C.P.underlying t' = some d) (hd : d = .string ∨ ∃ e, d = .slice e)
    (hs : sizeT S.C.P e = some s) (hb : bytesT S.C.P e = some bytes) (hz : zeroT S.C.P e = some z) (hs0 : s ≠ 0) (hb0 : bytes ≠ 0) (hzl : z.length = s) {x y : AV} {ux uy : Value} (hx : VRel S ρ H.n x ux) (hy : VRel S ρ H.n y uy)
    (he : evApp H s bytes x y = some (v, H')) : ∃ ρ' w' u, HRel S H' ρ' w' ∧ Frm H ρ w H' ρ' w' ∧ (Builtin.append_ #[t, t'] ty #[ux, uy]).run S.C.P w = .ok u w' ∧ VRel S ρ' H'.n v u := by
  unfold zeroT at hz
  split at hz
  case h_2 => cases hz
  rename_i i hi
  split at hz
  case h_2 => cases hz
  rename_i zv hzv
  have hsi : i.size = s := by unfold sizeT at hs; rw [hi] at hs; simpa using hs
  have hbi : i.bytes = bytes := by unfold bytesT at hb; rw [hi] at hb; simpa using hb
  subst hsi hbi
  have hzs : zv.cells.size = i.size := by have := (compCells_rel (S := S) (ρ := ρ) (n := 0) hz).1; simp at this; omega
  -- a new row
  have grown : ∀ (base : Option Addr) (n cap : Nat) (olds : List (List Lf)) (new : List (List Lf)) (ov nv : List Value), ux = .slice base n cap → cap < n + new.length → (n + new.length) * i.bytes ≤ roomB →
      (Builtin.lenOf uy).run S.C.P w = .ok new.length w → (Builtin.firstCells i.size new.length uy).run S.C.P w.drew = .ok nv.toArray w.drew → (Builtin.firstCells i.size n (.slice base n cap)).run S.C.P w.drew = .ok ov.toArray w.drew →
      olds.length = n → All2 (LRel S ρ H.n) olds.flatten ov → All2 (LRel S ρ H.n) new.flatten nv → (∀ e ∈ olds, e.length = i.size) → (∀ e ∈ new, e.length = i.size) →
      ∃ ρ' w' u, HRel S (H.push (.blk i.size (olds ++ new) true)) ρ' w' ∧ Frm H ρ w (H.push (.blk i.size (olds ++ new) true)) ρ' w' ∧ (Builtin.append_ #[t, t'] ty #[ux, uy]).run S.C.P w = .ok u w' ∧
        VRel S ρ' (H.n + 1) (.one (.sl H.n 0 (n + new.length))) u := by
    intro base n cap olds new ov nv hux hgt hroom hl hn ho hol hov hnv hes hes2
    subst hux
    have hrun := grow_run (w := w) (ty := ty) ht ht' hd hi hzv hl hn ho hgt hb0 (growslice_fits hgt hroom)
    have hall : ∀ e ∈ olds ++ new, e.length = i.size := fun e he => by
      rcases List.mem_append.1 he with h | h
      · exact hes e h
      · exact hes2 e h
    have hfl : (olds ++ new).flatten.length = (n + new.length) * i.size := by rw [flatten_len hall]; simp [hol]
    have hcs : (ov.toArray ++ nv.toArray ++ Builtin.zeroCells zv.cells (grownCap w (n + new.length) cap e - (n + new.length))).toList = (ov ++ nv) ++ (Builtin.zeroCells zv.cells (grownCap w (n + new.length) cap e - (n + new.length))).toList := by simp
    have hA : All2 (LRel S ρ H.n) (olds ++ new).flatten (ov ++ nv) := by rw [List.flatten_append]; exact hov.append hnv
    have hge := grownCap_ge w (n + new.length) cap e
    have hsz : (ov.toArray ++ nv.toArray ++ Builtin.zeroCells zv.cells (grownCap w (n + new.length) cap e - (n + new.length))).size = grownCap w (n + new.length) cap e * i.size := by
      have h1 := hA.1
      rw [hfl, List.length_append] at h1
      simp only [Array.size_append, List.size_toArray, size_zeroCells, hzs]
      rw [← h1, ← Nat.add_mul]; congr 1; omega
    obtain ⟨k1, k2⟩ := hH.drew.row (ty := e) (els := olds ++ new) (C := ov.toArray ++ nv.toArray ++ Builtin.zeroCells zv.cells (grownCap w (n + new.length) cap e - (n + new.length))) (0, 0) hall (by rw [hcs, List.take_left' hA.1.symm]; exact hA) (.inl (Nat.le_refl _))
    refine ⟨_, _, _, k1, Frm.drew.trans k2, hrun, ?_⟩
    refine ⟨by omega, ⟨w.heap.size, 0, none⟩, _, rfl, hge, .inr ⟨?_, ?_⟩⟩
    · rw [rput_self]; simp [Loc.addr]
    · rw [rput_self]
      show 0 + (0 + grownCap w (n + new.length) cap e) * i.size ≤ _
      rw [hsz]; simp
  unfold evApp at he
  split at he
  · cases he
  · -- nothing is appended
    rename_i hsrc
    obtain ⟨vs, hl, hf, hA, hvl, _⟩ := src_run (P := S.C.P) hH hy hsrc
    have hvs : vs = [] := List.eq_nil_of_length_eq_zero (by simpa using hvl)
    subst hvs
    have same : ∀ (base : Option Addr) (n cap : Nat), ux = .slice base n cap → n ≤ cap → (Builtin.append_ #[t, t'] ty #[ux, uy]).run S.C.P w = .ok ux w := by
      intro base n cap hux hnc
      subst hux
      have := room_run (w := w) (ty := ty) ht ht' hd hi (base := base) (n := n) (cap := cap) (m := 0) hl (by simpa using hf) hnc (w' := w) (fun a _ => by simp [storeCells]) (fun _ => rfl)
      simpa using this
    split at he
    · simp only [Option.some.injEq, Prod.mk.injEq] at he
      obtain ⟨rfl, rfl⟩ := he
      exact ⟨ρ, w, ux, hH, Frm.refl _ _ _, same none 0 0 hx (Nat.le_refl _), hx⟩
    · simp only [Option.some.injEq, Prod.mk.injEq] at he
      obtain ⟨rfl, rfl⟩ := he
      have hx3 := hx
      obtain ⟨ad, hux⟩ : ∃ ad, ux = .slice ad 0 0 := hx3
      exact ⟨ρ, w, ux, hH, Frm.refl _ _ _, same _ 0 0 hux (Nat.le_refl _), hx⟩
    · simp only [Option.some.injEq, Prod.mk.injEq] at he
      obtain ⟨rfl, rfl⟩ := he
      have hx' := VRel.one hx
      obtain ⟨_, ad, cap, hux, hnc, _⟩ := hx'
      exact ⟨ρ, w, ux, hH, Frm.refl _ _ _, same _ _ _ hux hnc, hx⟩
    · simp only [Option.some.injEq, Prod.mk.injEq] at he
      obtain ⟨rfl, rfl⟩ := he
      have hx' := VRel.one hx
      simp only [LRel, CRel] at hx'
      obtain ⟨ad, cap, hux, hnc, _⟩ := hx'
      exact ⟨ρ, w, ux, hH, Frm.refl _ _ _, same _ _ _ hux hnc, hx⟩
    · cases he
  · rename_i e1 es hsrc
    obtain ⟨vs, hl, hf, hA, hvl, hels⟩ := src_run (P := S.C.P) hH hy hsrc
    obtain ⟨vs', hl', hf', hA', hvl', _⟩ := src_run (P := S.C.P) hH.drew hy hsrc
    have fromNil : ∀ (base : Option Addr), ux = .slice base 0 0 → (if (es.length + 1) * i.bytes ≤ roomB then some (AV.one (Lf.sl H.n 0 (es.length + 1)), H.push (.blk i.size (e1 :: es) true)) else none) = some (v, H') →
        ∃ ρ' w' u, HRel S H' ρ' w' ∧ Frm H ρ w H' ρ' w' ∧ (Builtin.append_ #[t, t'] ty #[ux, uy]).run S.C.P w = .ok u w' ∧ VRel S ρ' H'.n v u := by
      intro base hux he
      split at he
      · rename_i hroom
        simp only [Option.some.injEq, Prod.mk.injEq] at he
        obtain ⟨rfl, rfl⟩ := he
        have := grown base 0 0 [] (e1 :: es) [] vs' hux (by simp) (by simpa using hroom) hl hf' (by
          cases base with
          | none => simp [Builtin.firstCells]
          | some ad =>
            have := loadCells_run (P := S.C.P) (w := w.drew) (a := ad) (vs := []) (by simp)
            simpa [Builtin.firstCells] using this) rfl All2.nil hA' (by simp) hels
        simp only [Nat.zero_add, List.nil_append] at this
        exact this
      · cases he
    split at he
    · exact fromNil none hx he
    · obtain ⟨ad, hux⟩ : ∃ ad, ux = .slice ad 0 0 := hx
      exact fromNil _ hux he
    · rename_i b ii n
      have hx' := hx.one
      obtain ⟨hbn, ad, cap, hux, hnc, hcap⟩ := hx'
      split at he
      · rename_i s' els hob
        split at he
        · rename_i hcond
          obtain ⟨hss, hin, hroom⟩ := hcond
          simp only [Option.some.injEq, Prod.mk.injEq] at he
          obtain ⟨rfl, rfl⟩ := he
          subst hss
          have hown : own (H.o b) = true := by rw [hob]; rfl
          have hrow : H.row i.size (.sl b ii n) = some ((els.drop ii).take n) := by
            simp only [Heap.row, hob]
            rw [if_pos ⟨trivial, hin⟩]
          have hlen : ((els.drop ii).take n).length = n := by simp; omega
          by_cases hfitc : n + (es.length + 1) ≤ cap
          · -- in place
            have hrb := hH.obj b hbn
            rw [hob] at hrb
            obtain ⟨hsL, C, tyC, fr, hC, hcells, hown2⟩ := hrb
            obtain ⟨hCz, hCr, hfr⟩ := hown2 rfl
            rcases hcap with h0 | ⟨had, hz2⟩
            · omega
            obtain ⟨ov, ov1, ov2, ov3⟩ := cells_row hcells ii n hin
            rw [← hsL] at ov2 ov3 hz2
            have hmul : (n + (es.length + 1)) * i.size ≤ cap * i.size := Nat.mul_le_mul_right _ hfitc
            have hexp : (ii + cap) * i.size = ii * i.size + cap * i.size := Nat.add_mul _ _ _
            have hexp2 : (n + (es.length + 1)) * i.size = n * i.size + (es.length + 1) * i.size := Nat.add_mul _ _ _
            simp only [List.length_cons] at hvl hl hf
            obtain ⟨w', C', r1, r2, r3, r4, r5, r6, r7, r8, r9⟩ := storeCells_run (P := S.C.P) (g := (ρ b).g) (o := (ρ b).o + ii * i.size + n * i.size) vs 0 w C hC (fun v hv => by
              obtain ⟨q, hq, rfl⟩ := List.getElem_of_mem hv
              have hq2 : q < (e1 :: es).flatten.length := by rw [hA.1]; exact hq
              exact (LRel.cells (hA.2 q _ _ (List.getElem?_eq_getElem hq2) (List.getElem?_eq_getElem _))).2) (by omega) hfr
            have hadd : ad.add (n * i.size) = ⟨(ρ b).g, (ρ b).o + ii * i.size + n * i.size, none⟩ := by
              rw [had]; unfold Loc.addr; rw [addr_add, hsL]; rfl
            have hrun := room_run (w := w) (ty := ty) ht ht' hd hi (base := some ad) hl hf hfitc (w' := w') (fun a ha => by cases ha; rw [hadd]; exact r1) (fun h => by cases h)
            have hall : ∀ e ∈ (els.drop ii).take n ++ e1 :: es, e.length = i.size := fun e he => by
              rcases List.mem_append.1 he with h | h
              · have := List.mem_of_mem_drop (List.mem_of_mem_take h)
                obtain ⟨k, hk, rfl⟩ := List.getElem_of_mem this
                rw [hsL]; exact (hcells k _ (List.getElem?_eq_getElem hk)).1
              · exact hels e h
            have hx2 : ORel S (ρ.put H.n ⟨(ρ b).g, (ρ b).o + ii * i.size, i.size, (ρ b).z⟩) (H.n + 1) ⟨(ρ b).g, (ρ b).o + ii * i.size, i.size, (ρ b).z⟩ (.blk i.size ((els.drop ii).take n ++ e1 :: es) true) (w'.heap[(ρ b).g]?) := by
              refine ⟨rfl, C', tyC, fr, r2, ?_, fun _ => ⟨by rw [r3]; exact hCz, ?_, by rw [r3]; exact hfr⟩⟩
              · refine cells_of3 hall (vs := ov ++ vs) ?_ ?_
                · rw [List.flatten_append]
                  exact (ov1.append hA).mono fun _ _ h => h.mono (Ext.put ρ H.n _)
                · intro q u hq
                  show C'[(ρ b).o + ii * i.size + q]? = some u
                  rw [r4]
                  rcases Nat.lt_or_ge q (n * i.size) with h | h
                  · rw [if_neg (by omega)]
                    rw [List.getElem?_append_left (by omega)] at hq
                    exact ov3 q u hq
                  · rw [List.getElem?_append_right (by omega), ov2] at hq
                    have hlt := (List.getElem?_eq_some_iff.1 hq).1
                    rw [if_pos (by omega), ← hq]
                    congr 1; omega
              · show (ρ b).o + ii * i.size + _ * i.size ≤ C'.size
                rw [List.length_append, hlen, r3, hCz]
                simp only [List.length_cons]
                omega
            obtain ⟨k1, k2⟩ := hH.move hbn hown (L := ⟨(ρ b).g, (ρ b).o + ii * i.size, i.size, (ρ b).z⟩) rfl hx2 r6 r7 r8 r9 r5
            refine ⟨_, w', _, k1, k2, by rw [hux]; exact hrun, ?_⟩
            refine ⟨by show H.n < H.n + 1; omega, ad, cap, rfl, hfitc, .inr ⟨?_, ?_⟩⟩
            · rw [rput_self, had]; simp [Loc.addr, hsL]
            · rw [rput_self]
              show (ρ b).o + ii * i.size + (0 + cap) * i.size ≤ (ρ b).z
              simp only [Nat.zero_add]
              omega
          · -- a new row
            obtain ⟨h1k, h2k⟩ := hH.kill b
            obtain ⟨base0, cap0, ov, o1, o2, o3, o4, _, o6⟩ := row_run (P := S.C.P) hH.drew hx.one hrow
            rw [hlen] at o4
            have hg := grown (some ad) n cap ((els.drop ii).take n) (e1 :: es) ov vs' hux (by simp; omega) (by simpa using hroom) hl hf' (by rw [hux] at o4; exact o4) hlen o2 hA' o6 hels
            obtain ⟨ρ', w', u, g1, g2, g3, g4⟩ := hg
            have hbne : b ≠ H.n := by omega
            obtain ⟨q1, q2⟩ := g1.kill b
            have heq : (H.push (.blk i.size ((els.drop ii).take n ++ e1 :: es) true)).set b .dead = (H.set b .dead).push (.blk i.size ((els.drop ii).take n ++ e1 :: es) true) := by
              simp only [Heap.push, Heap.set]
              congr 1
              funext j
              unfold EA.put
              by_cases h1 : j = b
              · subst h1; rw [if_pos rfl, if_neg hbne, if_pos rfl]
              · rw [if_neg h1]
                by_cases h2 : j = H.n
                · rw [if_pos h2, if_pos h2]
                · rw [if_neg h2, if_neg h2, if_neg h1]
            rw [heq] at q1 q2
            exact ⟨ρ', w', u, q1, g2.trans q2, g3, g4⟩
        · cases he
      · cases he
    · cases he
end
end Go.EA
