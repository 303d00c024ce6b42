/- States that stand for others: objects left out, numbered anew, left as they are. Conditions: none. -/
import Derived.Test.YtngcpifknomecaaDoorEM3
set_option linter.unusedVariables false
set_option linter.unusedSimpArgs false
namespace Go.EA

/-- No address within. -/
def Lf.closed : Lf → Bool
  | .ptr _ _ _ | .sl _ _ _ | .yld _ | .mp _ => false
  | .fn _ cap => cap.isEmpty
  | _ => true
def AV.closed1 : AV → Bool
  | .one x => x.closed
  | .agg cs => cs.all Lf.closed
  | .tup _ => false
def AV.closed : AV → Bool
  | .tup vs => vs.all AV.closed1 || (AV.tup vs).isJ
  | x => x.closed1
def elsClosed (els : List (List Lf)) : Bool := els.all fun e => e.all Lf.closed

/-- A state stands for another one. -/
def Abs (S : SC) (m : Nat) (T : Tm) (H : Heap) (T1 : Tm) (H1 : Heap) : Prop :=
  m ≤ H.n → ∀ ρ w (tmps : Array Value), TRel S ρ H.n T tmps → HRel S H ρ w → ∃ ρ1, TRel S ρ1 H1.n T1 tmps ∧ HRel S H1 ρ1 w ∧ FrmB m H ρ w H1 ρ1 w

section
variable {S : SC} {m : Nat} {T T1 T2 : Tm} {H H1 H2 : Heap}

theorem Abs.refl : Abs S m T H T H := fun hm ρ w tmps hT hH => ⟨ρ, hT, hH, (Frm.refl _ _ _).weak hm⟩
theorem Abs.trans (h : Abs S m T H T1 H1) (h' : Abs S m T1 H1 T2 H2) : Abs S m T H T2 H2 := by
  intro hm ρ w tmps hT hH
  obtain ⟨ρ1, a1, a2, a3⟩ := h hm ρ w tmps hT hH
  obtain ⟨ρ2, b1, b2, b3⟩ := h' a3.nn ρ1 w tmps a1 a2
  exact ⟨ρ2, b1, b2, a3.transB b3 (Nat.le_refl _)⟩
theorem MC.abs {ac : AC} {Q : Ex → Tm → Heap → Prop} (h : Abs S m T H T1 H1) (k : MC S m ac T1 H1 Q) : MC S m ac T H Q := by
  intro hm c nt hc F hF hR ρ a w hT hn hH
  obtain ⟨ρ1, a1, a2, a3⟩ := h hm ρ w a.tmps hT hH
  refine wpIn_mono (k a3.nn c nt hc F hF hR ρ1 a w a1 hn a2) ?_
  rintro e a' w' ⟨ex, T', H', hq, hp⟩
  exact ⟨ex, T', H', hq, hp.transB (Nat.le_refl _) (ds := []) rfl a3 rfl DOk.nil⟩
theorem MC.post {ac : AC} {Q : Ex → Tm → Heap → Prop} (h : MC S m ac T H fun e T' H' => ∃ T1 H1, Abs S m T' H' T1 H1 ∧ Q e T1 H1) : MC S m ac T H Q := by
  intro hm c nt hc F hF hR ρ a w hT hn hH
  refine wpIn_mono (h hm c nt hc F hF hR ρ a w hT hn hH) ?_
  rintro e a' w' ⟨ex, T', H', ⟨T1, H1, ha, hq⟩, hp⟩
  obtain ⟨h0, ρ', ds, h1, h2, h3, h4, h5, h6⟩ := hp
  obtain ⟨ρ1, a1, a2, a3⟩ := ha h4.nn ρ' w' a'.tmps h1 h3
  exact ⟨ex, T1, H1, hq, h0, ρ1, ds, a1, h2, a2, h4.transB a3 (Nat.le_refl _), h5, h6.frm a3⟩
theorem MO.abs {r : List AI} {Q : Tm → Heap → Prop} (h : Abs S m T H T1 H1) (k : MO S m r T1 H1 Q) : MO S m r T H Q := by
  intro hm ops nt ais l hc hl F hF ρ a w hT hn hH
  obtain ⟨ρ1, a1, a2, a3⟩ := h hm ρ w a.tmps hT hH
  refine wpOpsIn_mono ?_ _ _ _ (k a3.nn ops nt ais l hc hl F hF ρ1 a w a1 hn a2)
  rintro e a' w' ⟨T', H', hq, hp⟩
  exact ⟨T', H', hq, hp.transB (Nat.le_refl _) (ds := []) rfl a3 rfl DOk.nil⟩
end

/-! ### Leaf by leaf -/
section
variable (H : Heap) (fz : Nat → Prop) (π : Nat → Nat) (n1 : Nat)
/-- The first, in the new state, stands for the second, in the old one. -/
inductive RL : Lf → Lf → Prop
  | same {x : Lf} : x.closed = true → RL x x
  | ptr {b b' i j : Nat} : b < n1 → π b = b' → RL (.ptr b i j) (.ptr b' i j)
  | sl {b b' i n : Nat} : b < n1 → π b = b' → RL (.sl b i n) (.sl b' i n)
  | yld {b b' : Nat} : b < n1 → π b = b' → RL (.yld b) (.yld b')
  | mp {b b' : Nat} : b < n1 → π b = b' → RL (.mp b) (.mp b')
  | fn {f : Nat} {cap cap' : List (Nat × Nat × Nat)} : (∀ c ∈ cap, c.1 < n1) → (cap.map fun c => (π c.1, c.2)) = cap' → RL (.fn f cap) (.fn f cap')
  | frow {b i n s : Nat} {els els' : List (List Lf)} : fz b → H.o b = .blk s els true → i + n ≤ els.length → (els.drop i).take n = els' → RL (.vrow s els') (.sl b i n)
  | fptr {b i j s : Nat} {els : List (List Lf)} {e e' : List Lf} : fz b → H.o b = .blk s els true → els[i]? = some e → e.drop j = e' → RL (.vptr e') (.ptr b i j)
  | nil {s : Nat} : RL (.vrow s []) .nils
  | slz {s : Nat} : RL (.vrow s []) .slz
  | sl0 {s b i : Nat} : RL (.vrow s []) (.sl b i 0)

inductive RV : AV → AV → Prop
  | junk {v : AV} : RV junk v
  | und : RV und und
  | one {x y : Lf} : RL H fz π n1 x y → RV (.one x) (.one y)
  | agg {xs ys : List Lf} : All2 (RL H fz π n1) xs ys → RV (.agg xs) (.agg ys)

inductive RO : AO → AO → Prop
  | dead {x : AO} : RO .dead x
  | blk {s : Nat} {els els' : List (List Lf)} {o : Bool} : All2 (All2 (RL H fz π n1)) els els' → RO (.blk s els o) (.blk s els' o)
  | siter {s : List UInt8} {p : Nat} : RO (.siter s p) (.siter s p)
  | loop {st : LSt} {pend : Option Ex} {T T' : Tm} {ps : List Nat} {as bd : AC} : (∀ k, RV H fz π n1 (T k) (T' k)) → RO (.loop st pend T ps as bd) (.loop st pend T' ps as bd)
end

section
variable {S : SC} {ρ : Rho} {w : World} {n : Nat} {H : Heap} {fz : Nat → Prop} {π : Nat → Nat} {n1 : Nat}
theorem LRel.crel {x : Lf} {u : Value} (hc : x.closed = true) (h : LRel S ρ n x u) : CRel S ρ.fz x u := by
  cases x <;> simp only [LRel, Lf.closed, Bool.false_eq_true] at h hc <;> (try simp only [CRel]) <;> try exact h
  rename_i f cap
  have : cap = [] := by simpa using hc
  subst this
  exact ⟨rfl, by simpa using h.2⟩

open Classical in
/-- Where the objects lie, in the new state. -/
noncomputable def rhoAbs (ρ : Rho) (w : World) (π : Nat → Nat) (fz : Nat → Prop) : Rho :=
  ⟨fun i => ρ (π i), fun k => if ∃ b, fz b ∧ (ρ b).g = k then w.heap[k]? else ρ.fz k⟩

theorem rhoAbs_pos {k : Nat} (h : ∃ b, fz b ∧ (ρ b).g = k) : (rhoAbs ρ w π fz).fz k = w.heap[k]? := if_pos h
theorem rhoAbs_neg {k : Nat} (h : ¬ ∃ b, fz b ∧ (ρ b).g = k) : (rhoAbs ρ w π fz).fz k = ρ.fz k := if_neg h

structure AbsOk (H : Heap) (fz : Nat → Prop) (π : Nat → Nat) (H1 : Heap) : Prop where
  lt : ∀ i, i < H1.n → live (H1.o i) = true → π i < H.n
  inj : ∀ i j, i < H1.n → j < H1.n → live (H1.o i) = true → live (H1.o j) = true → π i = π j → i = j
  ob : ∀ i, i < H1.n → RO H fz π H1.n (H1.o i) (H.o (π i))
  fr : ∀ b, fz b → b < H.n ∧ ∃ s els, H.o b = .blk s els true ∧ elsClosed els = true
  nf : ∀ b i, fz b → i < H1.n → live (H1.o i) = true → π i ≠ b

theorem rhoAbs_fz (hH : HRel S H ρ w) (hf : ∀ b, fz b → b < H.n ∧ ∃ s els, H.o b = .blk s els true ∧ elsClosed els = true) (π : Nat → Nat) : ∀ k ob, ρ.fz k = some ob → (rhoAbs ρ w π fz).fz k = some ob := by
  intro k ob hk
  by_cases h : ∃ b, fz b ∧ (ρ b).g = k
  · rw [rhoAbs_pos h]; exact (hH.fz k ob hk).2.1
  · rw [rhoAbs_neg h]; exact hk

/-- What a frozen block's cells are. -/
theorem frozen_row (hH : HRel S H ρ w) (hf : ∀ b, fz b → b < H.n ∧ ∃ s els, H.o b = .blk s els true ∧ elsClosed els = true) (π : Nat → Nat) {b s : Nat} {els : List (List Lf)} (hb : fz b) (hob : H.o b = .blk s els true) :
    ∃ C ty fr, (rhoAbs ρ w π fz).fz (ρ b).g = some (.cells C ty fr) ∧ (ρ b).s = s ∧ RowC S (rhoAbs ρ w π fz).fz C (ρ b).o s els := by
  obtain ⟨hlt, s', els', h1, hcl⟩ := hf b hb
  rw [hob] at h1; cases h1
  have ho := hH.obj b hlt
  rw [hob] at ho
  obtain ⟨hs, C, ty, fr, hC, hcells, _⟩ := ho
  refine ⟨C, ty, fr, ?_, hs.symm, RowC.of fun k e hk => ?_⟩
  · rw [rhoAbs_pos ⟨b, hb, rfl⟩]; exact hC
  · obtain ⟨q1, q2⟩ := hcells k e hk
    refine ⟨q1.trans hs.symm, CellC.of fun j x hj => ?_⟩
    obtain ⟨v, hv, hr⟩ := q2 j x hj
    refine ⟨v, by rw [← hv, hs], ?_⟩
    exact CRel.mono (rhoAbs_fz hH hf π) (hr.crel (List.all_eq_true.1 (List.all_eq_true.1 hcl e (List.mem_of_getElem? hk)) x (List.mem_of_getElem? hj)))

theorem RL.rel (hH : HRel S H ρ w) (hf : ∀ b, fz b → b < H.n ∧ ∃ s els, H.o b = .blk s els true ∧ elsClosed els = true) {x y : Lf} {u : Value} (h : RL H fz π n1 x y) (hy : LRel S ρ H.n y u) : LRel S (rhoAbs ρ w π fz) n1 x u := by
  cases h with
  | same hc => exact (CRel.mono (rhoAbs_fz hH hf π) (hy.crel hc)).lrel
  | ptr hb e => subst e; exact ⟨hb, hy.2⟩
  | sl hb e => subst e; exact ⟨hb, hy.2⟩
  | yld hb e => subst e; exact ⟨hb, hy.2⟩
  | mp hb e => subst e; exact ⟨hb, hy.2⟩
  | fn hc e =>
    subst e
    refine ⟨hc, ?_⟩
    rw [hy.2]
    congr 2
    rw [List.map_map]
    rfl
  | @frow b i n s els els' hb hob hl e =>
    subst e
    obtain ⟨C, ty, fr, h1, h2, h3⟩ := frozen_row hH hf π hb hob
    obtain ⟨hbn, ad, cap, rfl, hnc, hcap⟩ := hy
    have hlen : ((els.drop i).take n).length = n := by simp; omega
    simp only [LRel, CRel]
    refine ⟨some ad, cap, by rw [hlen], by rw [hlen]; exact hnc, ?_⟩
    rcases hcap with h0 | ⟨had, _⟩
    · left
      have : n = 0 := by omega
      subst this; simp
    · right
      refine ⟨(ρ b).g, (ρ b).o + i * s, C, ty, fr, ?_, h1, h3.cut i n⟩
      rw [had]; unfold Loc.addr; rw [h2]; simp
  | @fptr b i j s els e e' hb hob he e2 =>
    subst e2
    obtain ⟨C, ty, fr, h1, h2, h3⟩ := frozen_row hH hf π hb hob
    obtain ⟨hbn, rfl⟩ := hy
    simp only [LRel, CRel]
    refine ⟨(ρ b).g, (ρ b).o + i * s + j, C, ty, fr, ?_, h1, (h3.get he).2.drop j⟩
    unfold Loc.addr; rw [h2]
  | nil =>
    have hu : u = .slice none 0 0 := hy
    subst hu
    simp only [LRel, CRel]
    exact ⟨none, 0, rfl, Nat.le_refl _, .inl trivial⟩
  | slz =>
    obtain ⟨a, rfl⟩ : ∃ a, u = .slice a 0 0 := hy
    simp only [LRel, CRel]
    exact ⟨a, 0, rfl, Nat.le_refl _, .inl trivial⟩
  | sl0 =>
    obtain ⟨hbn, ad, cap, rfl, hnc, hcap⟩ := hy
    simp only [LRel, CRel]
    exact ⟨some ad, cap, rfl, Nat.zero_le _, .inl trivial⟩

theorem All2.imp {α β γ : Type} {R : α → β → Prop} {P : β → γ → Prop} {R' : α → γ → Prop} {xs : List α} {ys : List β} {zs : List γ} (h : All2 R xs ys) (k : All2 P ys zs) (hr : ∀ x y z, R x y → P y z → R' x z) : All2 R' xs zs :=
  ⟨h.1.trans k.1, fun i x z hx hz => by
    obtain ⟨y, hy, hxy⟩ := h.get hx
    exact hr x y z hxy (k.2 i y z hy hz)⟩

theorem RV.rel (hH : HRel S H ρ w) (hf : ∀ b, fz b → b < H.n ∧ ∃ s els, H.o b = .blk s els true ∧ elsClosed els = true) {x y : AV} {u : Value} (h : RV H fz π n1 x y) (hy : VRel S ρ H.n y u) : VRel S (rhoAbs ρ w π fz) n1 x u := by
  cases h with
  | junk => exact .inl rfl
  | und =>
    rcases hy with hy | ⟨arr, rfl, hy⟩
    · cases hy
    · exact .inr ⟨arr, rfl, hy.1, fun i x y hx _ => by simp at hx⟩
  | one h => exact RL.rel hH hf h hy
  | agg h =>
    obtain ⟨arr, rfl, hy⟩ := hy
    exact ⟨arr, rfl, h.imp hy fun _ _ _ a b => RL.rel hH hf a b⟩

theorem live_of {x y : AO} (h : RO H fz π n1 x y) (hx : live x = true) : live y = true := by
  cases h <;> simp_all [live]
theorem own_of {x y : AO} (h : RO H fz π n1 x y) (hx : own x = true) : own y = true := by
  cases h <;> simp_all [own]

/-- A STATE THAT STANDS FOR ANOTHER ONE. -/
theorem abs_of {m : Nat} {T T1 : Tm} {H1 : Heap} (ok : AbsOk H fz π H1) (hm1 : m ≤ H1.n) (hid : ∀ i, i < m → π i = i) (hT1 : ∀ k, RV H fz π H1.n (T1 k) (T k)) : Abs S m T H T1 H1 := by
  intro hm ρ w tmps hT hH
  have own_live : ∀ x, own x = true → live x = true := fun x h => by cases x <;> simp_all [own, live]
  refine ⟨rhoAbs ρ w π fz, fun k v hk => (hT1 k).rel hH ok.fr (hT k v hk), ⟨fun i hi => ?_, fun i j hi hj hne hoi hlj => ?_, fun k ob hk => ⟨(hH.fx k ob hk).1, fun i hi hoi => ?_⟩, fun k ob hk => ?_⟩,
    ⟨Nat.le_refl _, rfl, rfl, rfl, hm1, fun i hi => ?_, fun k hk hn => ⟨rfl, fun i hi hoi => hn (π i) (ok.lt i hi (own_live _ hoi)) (own_of (ok.ob i hi) hoi)⟩, rhoAbs_fz hH ok.fr π, fun k hk hn => ?_⟩⟩
  · show ORel S _ _ (ρ (π i)) _ (w.heap[(ρ (π i)).g]?)
    by_cases hlv : live (H1.o i) = true
    case neg =>
      have : H1.o i = .dead := by revert hlv; cases H1.o i <;> simp [live]
      rw [this]; trivial
    have ho := hH.obj (π i) (ok.lt i hi hlv)
    have hr := ok.ob i hi
    clear hlv
    generalize H1.o i = x at hr
    generalize H.o (π i) = y at hr ho
    cases hr with
    | dead => trivial
    | blk h =>
      obtain ⟨hs, C, ty, fr, h1, h2, h3⟩ := ho
      refine ⟨hs, C, ty, fr, h1, fun k e hk => ?_, fun hown => ?_⟩
      · obtain ⟨e', he', hee⟩ := h.get hk
        obtain ⟨q1, q2⟩ := h2 k e' he'
        refine ⟨hee.1.trans q1, fun j x hj => ?_⟩
        obtain ⟨y, hy, hxy⟩ := hee.get hj
        obtain ⟨v, hv, hr⟩ := q2 j y hy
        exact ⟨v, hv, hxy.rel hH ok.fr hr⟩
      · rw [h.1]; exact h3 hown
    | siter => exact ho
    | loop h =>
      obtain ⟨r, h1, h2, h3, h4, h5⟩ := ho
      exact ⟨r, h1, h2, h3, fun k v hk => (h k).rel hH ok.fr (h4 k v hk), h5⟩
  · have hoi' := own_of (ok.ob i hi) hoi
    have hlj' := live_of (ok.ob j hj) hlj
    refine hH.ap (π i) (π j) (ok.lt i hi (own_live _ hoi)) (ok.lt j hj hlj) (fun h => hne (ok.inj i j hi hj (own_live _ hoi) hlj h)) hoi' hlj'
  · exact (hH.fx k ob hk).2 (π i) (ok.lt i hi (own_live _ hoi)) (own_of (ok.ob i hi) hoi)
  · have hk' := hk
    by_cases hex : ∃ b, fz b ∧ (ρ b).g = k
    · rw [rhoAbs_pos hex] at hk'
      obtain ⟨b, hb, rfl⟩ := hex
      obtain ⟨hbn, s, els, hob, hcl⟩ := ok.fr b hb
      have ho := hH.obj b hbn
      rw [hob] at ho
      obtain ⟨hs, C, ty, fr, hC, _⟩ := ho
      rw [hC] at hk'
      cases hk'
      refine ⟨⟨C, ty, fr, rfl⟩, hC, fun i hi hoi => ?_⟩
      exact hH.ap (π i) b (ok.lt i hi (own_live _ hoi)) hbn (ok.nf b i hb hi (own_live _ hoi)) (own_of (ok.ob i hi) hoi) (by rw [hob]; rfl)
    · rw [rhoAbs_neg hex] at hk'
      obtain ⟨h1, h2, h3⟩ := hH.fz k ob hk'
      exact ⟨h1, h2, fun i hi hoi => h3 (π i) (ok.lt i hi (own_live _ hoi)) (own_of (ok.ob i hi) hoi)⟩
  · show ρ (π i) = ρ i
    rw [hid i hi]
  · refine rhoAbs_neg ?_
    rintro ⟨b, hb, rfl⟩
    obtain ⟨hbn, s, els, hob, hcl⟩ := ok.fr b hb
    exact hn b hbn (by rw [hob]; rfl) rfl
end
end Go.EA
