/- The machine's stops: calls, loops, ranges, the end; functions without addresses. Conditions: none. -/
import Derived.Test.YtngcpifknomecaaDoorERun
set_option linter.unusedVariables false
set_option linter.unusedSimpArgs false
namespace Go.EA

/-- Which are kept. -/
def inB (i : Nat) : List Nat → Bool
  | [] => false
  | j :: l => Nat.beq i j || inB i l
def bm (n : Nat) (l : List Nat) : List Bool := (List.range n).map fun i => inB i l
def keepS (b : List Bool) (s : St) : St :=
  match s with
  | ⟨.normal, .code c :: k, T, L⟩ => ⟨.normal, .code c :: k, keepT b T, L⟩
  | ⟨.normal, .ops l i :: k, T, L⟩ => ⟨.normal, .ops l i :: k, keepT b T, L⟩
  | s => s
def runB (n : Nat) (b : List Bool) (s : St) : Option (St × List Prop) :=
  match run n s with
  | some (s', c) => some (keepS b s', c)
  | none => none

section
variable {S : SC} {X : Cx} {m : Nat}
theorem keepS_ok {b : List Bool} {s : St} {Q : Ex → Tm → Heap → Prop} (h : SemS S X m (keepS b s) Q) : SemS S X m s Q := by
  obtain ⟨e, k, T, L⟩ := s
  unfold keepS at h
  split at h
  · rename_i heq; cases heq
    exact SemS.abs (Abs.junk fun k => keepT_abs (H := hl L) b T k) h
  · rename_i heq; cases heq
    exact SemS.absO (Abs.junk fun k => keepT_abs (H := hl L) b T k) h
  · exact h
theorem run_sound (hS : S.Good X) {n : Nat} {b : List Bool} {s s' : St} {c : List Prop} {Q : Ex → Tm → Heap → Prop} (h : runB n b s = some (s', c)) (hc : AllT c) (hq : SemS S X m s' Q) : SemS S X m s Q := by
  unfold runB at h
  split at h
  · rename_i s1 c1 h1
    cases h
    exact run_sound0 hS h1 hc (keepS_ok hq)
  · cases h

/-- One operation, whose answer is shown by hand. -/
theorem SemS.step (hS : S.Good X) {l : List AI} {q : Nat} {k : List Kt} {T : List AV} {L : List AO} {Q : Ex → Tm → Heap → Prop} {i : AI} (hi : l[q]? = some i) (hg : gdS T i.gd = some true) (hc : callOp i.op = false) {v : AV} {L1 : List AO} (he : evOp (tmL T) (hl L) i.op = some (v, hl L1))
    {T' : List AV} (hT : setD T i.dst v = some T') (h : SemS S X m ⟨.normal, .ops l (q + 1) :: k, T', L1⟩ Q) : SemS S X m ⟨.normal, .ops l q :: k, T, L⟩ Q := by
  obtain ⟨hlt, hget⟩ := List.getElem?_eq_some_iff.1 hi
  obtain ⟨g1, g2⟩ := gdS_ok hg
  show MO S m (l.drop q) _ _ _
  rw [List.drop_eq_getElem_cons hlt, hget]
  refine MO.cons hS.ok g1 (.inr (.inl ⟨g2, hc, v, hl L1, he, ?_⟩))
  rw [setD_eq hT]
  exact h
theorem SemS.stepD {l : List AI} {q : Nat} {k : List Kt} {T : List AV} {L : List AO} {Q : Ex → Tm → Heap → Prop} {i : AI} (hi : l[q]? = some i) (hg : gdS T i.gd = some true) (hc : callOp i.op = false) {v : AV} {L1 : List AO} (he : evOp (tmL T) (hl L) i.op = some (v, hl L1))
    {T' : List AV} (hT : setD T i.dst v = some T') (h : SemS S X m ⟨.normal, .dops l (q + 1) :: k, T', L1⟩ Q) : SemS S X m ⟨.normal, .dops l q :: k, T, L⟩ Q := by
  obtain ⟨hlt, hget⟩ := List.getElem?_eq_some_iff.1 hi
  obtain ⟨g1, g2⟩ := gdS_ok hg
  show DO X (l.drop q) _ _ _
  rw [List.drop_eq_getElem_cons hlt, hget]
  refine DO.cons g1 (.inr (.inl ⟨g2, hc, v, hl L1, he, ?_⟩))
  rw [setD_eq hT]
  exact h

/-- The machine stands before a call. -/
theorem SemS.call (hS : S.Good X) {l : List AI} {q : Nat} {k : List Kt} {T : List AV} {L : List AO} {Q : Ex → Tm → Heap → Prop} {d : Option Nat} {f : Opd} {xs : List Opd} {g : Option (Nat × Bool)} (hi : l[q]? = some ⟨d, .call f xs, g⟩) (hg : gdS T g = some true) {fv : AV} {vs : List AV}
    (hf : f.ev (tmL T) = fv) (hx : xs.map (·.ev (tmL T)) = vs) (h : MCall S fv vs (hl L) fun v H1 => ∃ T', setD T d v = some T' ∧ Sem S X m (.ops l (q + 1) :: k) Q .normal (tmL T') H1) : SemS S X m ⟨.normal, .ops l q :: k, T, L⟩ Q := by
  obtain ⟨hlt, hget⟩ := List.getElem?_eq_some_iff.1 hi
  obtain ⟨g1, g2⟩ := gdS_ok hg
  show MO S m (l.drop q) _ _ _
  rw [List.drop_eq_getElem_cons hlt, hget]
  refine MO.cons hS.ok g1 (.inr (.inr ⟨g2, f, xs, rfl, ?_⟩))
  rw [hf, hx]
  refine h.mono fun v H1 h => ?_
  obtain ⟨T', hT, h⟩ := h
  show MO S m _ (putT (tmL T) d v) _ _
  rw [setD_eq hT]
  exact h
/-- The machine stands before a call of a function with a given meaning. -/
theorem SemS.callPr (hS : S.Good X) {l : List AI} {q : Nat} {k : List Kt} {T : List AV} {L : List AO} {Q : Ex → Tm → Heap → Prop} {i : Nat} {p : List AV → Heap → Option (AV × Heap)} (hp : X.pr i = some p) {d : Option Nat} {f : Opd} {xs : List Opd} {g : Option (Nat × Bool)}
    (hi : l[q]? = some ⟨d, .call f xs, g⟩) (hg : gdS T g = some true) (hf : f.ev (tmL T) = .one (.fn i [])) {v : AV} {L1 : List AO} (he : p (xs.map (·.ev (tmL T))) (hl L) = some (v, hl L1)) {T' : List AV} (hT : setD T d v = some T')
    (h : SemS S X m ⟨.normal, .ops l (q + 1) :: k, T', L1⟩ Q) : SemS S X m ⟨.normal, .ops l q :: k, T, L⟩ Q :=
  SemS.call hS hi hg hf rfl (MCall.pr (hS.prs i p hp) he ⟨T', hT, h⟩)
theorem SemS.callPrD (_hS : S.Good X) {l : List AI} {q : Nat} {k : List Kt} {T : List AV} {L : List AO} {Q : Ex → Tm → Heap → Prop} {i : Nat} {p : List AV → Heap → Option (AV × Heap)} (hp : X.pr i = some p) {d : Option Nat} {f : Opd} {xs : List Opd} {g : Option (Nat × Bool)}
    (hi : l[q]? = some ⟨d, .call f xs, g⟩) (hg : gdS T g = some true) (hf : f.ev (tmL T) = .one (.fn i [])) {v : AV} {L1 : List AO} (he : p (xs.map (·.ev (tmL T))) (hl L) = some (v, hl L1)) {T' : List AV} (hT : setD T d v = some T')
    (h : SemS S X m ⟨.normal, .dops l (q + 1) :: k, T', L1⟩ Q) : SemS S X m ⟨.normal, .dops l q :: k, T, L⟩ Q := by
  obtain ⟨hlt, hget⟩ := List.getElem?_eq_some_iff.1 hi
  obtain ⟨g1, g2⟩ := gdS_ok hg
  show DO X (l.drop q) _ _ _
  rw [List.drop_eq_getElem_cons hlt, hget]
  refine DO.cons g1 (.inr (.inr ⟨g2, f, xs, v, hl L1, rfl, ?_, ?_⟩))
  · rw [hf]
    simp only [callP, callV, hp, List.isEmpty_nil, if_true]
    exact he
  · rw [setD_eq hT]; exact h

/-- A loop: what its state is at the head of each round, and a bound of the rounds to come. -/
theorem SemS.loop {α : Type} (I : α → List AV × List AO) (μ : α → Nat) (x0 : α) {b : AC} {k : List Kt} {T : List AV} {L : List AO} {Q : Ex → Tm → Heap → Prop} (h0 : Abs S m (tmL T) (hl L) (tmL (I x0).1) (hl (I x0).2))
    (h : ∀ x (R : Tm → Heap → Prop), (∀ x' T' H', μ x' < μ x → Abs S m T' H' (tmL (I x').1) (hl (I x').2) → R T' H') → SemS S X m ⟨.normal, .code b :: .stop R :: k, (I x).1, (I x).2⟩ Q) : SemS S X m ⟨.normal, .code (.loop b) :: k, T, L⟩ Q := by
  refine MC.abs h0 (MC.loop (fun n T H => ∃ x, μ x = n ∧ Abs S m T H (tmL (I x).1) (hl (I x).2)) ?_ (k := μ x0) ⟨x0, rfl, Abs.refl⟩)
  rintro n T H ⟨x, rfl, ha⟩
  refine MC.abs ha (MC.mono (h x (fun T' H' => ∃ x', μ x' < μ x ∧ Abs S m T' H' (tmL (I x').1) (hl (I x').2)) fun x' T' H' h1 h2 => ⟨x', h1, h2⟩) fun e T' H' hh => ?_)
  cases e with
  | normal =>
    obtain ⟨x', h1, h2⟩ : ∃ x', μ x' < μ x ∧ Abs S m T' H' (tmL (I x').1) (hl (I x').2) := hh
    exact ⟨μ x', h1, x', rfl, h2⟩
  | exit id => exact hh
  | ret => exact hh
/-- The round's end. -/
theorem SemS.stop {k : List Kt} {T : List AV} {L : List AO} {Q : Ex → Tm → Heap → Prop} {R : Tm → Heap → Prop} (h : R (tmL T) (hl L)) : SemS S X m ⟨.normal, .stop R :: k, T, L⟩ Q := h

/-- The function's end, with a state that stands for the last one. -/
theorem SemS.done {T T1 : List AV} {e : Ex} {L L1 : List AO} {rs : List ARes} {Q : AV → Heap → Prop} (he : e = .ret ∨ e = .normal) (ha : Abs S m (tmL T) (hl L) (tmL T1) (hl L1)) {v : AV} (hv : evRes (tmL T1) (hl L1) rs = some v) (hq : Q v (hl L1)) :
    SemS S X m ⟨e, [], T, L⟩ fun e T' H' => ∃ T1 H1, Abs S m T' H' T1 H1 ∧ (e = .ret ∨ e = .normal) ∧ ∃ v, evRes T1 H1 rs = some v ∧ Q v H1 :=
  ⟨_, _, ha, he, v, hv, hq⟩

theorem args0_tmL (ys : List AV) (n : Nat) : args0 ys = tmL (ys ++ List.replicate n und) := by
  funext k
  induction ys generalizing k with
  | nil =>
    simp only [args0, tmL, List.nil_append, List.getD_eq_getElem?_getD, List.getElem?_replicate]
    split <;> rfl
  | cons y ys ih =>
    cases k with
    | zero => rfl
    | succ k => simpa [args0, tmL] using ih k

/-- A function, by the machine. -/
theorem MF.run (_hS : S.Good X) {f : Nat} {cap : List (Nat × Nat × Nat)} {xs : List AV} {L : List AO} {Q : AV → Heap → Prop} {af : AF} (hf : S.has f af) (T0 : List AV) (hlen : xs.length + cap.length = af.np)
    (hT : T0 = xs ++ (cap.map fun c => AV.one (.ptr c.1 c.2.1 c.2.2)) ++ List.replicate (af.nt - af.np) und)
    (h : SemS S X L.length ⟨.normal, [.code af.body], T0, L⟩ fun e T' H' => ∃ T1 H1, Abs S L.length T' H' T1 H1 ∧ (e = .ret ∨ e = .normal) ∧ ∃ v, evRes T1 H1 af.res = some v ∧ Q v H1) : MF S f cap xs (hl L) Q := by
  refine MF.of hf hlen ?_
  rw [args0_tmL _ (af.nt - af.np), ← hT]
  refine MC.post (MC.mono (show MC S L.length af.body (tmL T0) (hl L) (Sem S X L.length [] _) from h) fun e T' H' hh => ?_)
  obtain ⟨T1, H1, h1, h2⟩ := hh
  exact ⟨T1, H1, h1, h2⟩

theorem setPs_tmL : ∀ (ps : List Nat) (xs : List AV) (l : List AV), (∀ p ∈ ps, p < l.length) → ∃ l', setPs (tmL l) ps xs = tmL l' ∧ l'.length = l.length
  | [], xs, l, _ => ⟨l, by cases xs <;> rfl, rfl⟩
  | p :: ps, [], l, _ => ⟨l, rfl, rfl⟩
  | p :: ps, x :: xs, l, h => by
    obtain ⟨l', h1, h2⟩ := setPs_tmL ps xs (l.set p x) (fun q hq => by rw [List.length_set]; exact h q (by simp [hq]))
    refine ⟨l', ?_, by rw [h2, List.length_set]⟩
    rw [← h1]
    show setPs (put (tmL l) p x) ps xs = _
    have := putT_tmL (v := x) (h p (by simp))
    unfold putT at this
    simp only at this
    rw [this]

/-! ### Functions without addresses -/
/-- Its meaning: the answer, and what must hold for it. -/
abbrev GP := List AV → Option (AV × List Prop)
open Classical in
noncomputable def pureP (g : GP) : List AV → Heap → Option (AV × Heap) := fun xs H => match g xs with
  | some (v, c) => if AllT c then some (v, H) else none
  | none => none
theorem pureP_eq {g : GP} {xs : List AV} {v : AV} {c : List Prop} (h : g xs = some (v, c)) (hc : AllT c) (H : Heap) : pureP g xs H = some (v, H) := by unfold pureP; rw [h]; exact if_pos hc
theorem pureP_inv {g : GP} {xs : List AV} {v : AV} {H H' : Heap} (h : pureP g xs H = some (v, H')) : H' = H ∧ ∃ c, g xs = some (v, c) ∧ AllT c := by
  unfold pureP at h
  split at h
  · rename_i v0 c hg
    split at h
    · rename_i hc
      simp only [Option.some.injEq, Prod.mk.injEq] at h
      obtain ⟨rfl, rfl⟩ := h
      exact ⟨rfl, c, hg, hc⟩
    · cases h
  · cases h

theorem VRel.closed {ρ ρ' : Rho} {n n' : Nat} (e : ∀ k ob, ρ.fz k = some ob → ρ'.fz k = some ob) {x : AV} {u : Value} (hc : x.closed = true) (h : VRel S ρ n x u) : VRel S ρ' n' x u := by
  have leaf : ∀ {x : Lf} {u : Value}, x.closed = true → LRel S ρ n x u → LRel S ρ' n' x u := fun hc h => (CRel.mono e (h.crel hc)).lrel
  have v1 : ∀ {x : AV} {u : Value}, x.closed1 = true → VRel1 S ρ n x u → VRel1 S ρ' n' x u := by
    intro x u hc h
    cases x with
    | one x => exact leaf hc h
    | agg cs =>
      obtain ⟨arr, rfl, h⟩ := h
      exact ⟨arr, rfl, h.1, fun i x y hx hy => leaf (List.all_eq_true.1 hc x (List.mem_of_getElem? hx)) (h.2 i x y hx hy)⟩
    | tup vs => exact h
  cases x with
  | one x => exact leaf hc h
  | agg cs => exact v1 (x := .agg cs) hc h
  | tup vs =>
    by_cases hj : (AV.tup vs).isJ = true
    · exact .inl hj
    · rcases h with h | ⟨arr, rfl, h⟩
      · exact absurd h hj
      · have hc' : vs.all AV.closed1 = true := by
          simp only [AV.closed, Bool.or_eq_true] at hc
          exact hc.resolve_right hj
        exact .inr ⟨arr, rfl, h.1, fun i x y hx hy => v1 (List.all_eq_true.1 hc' x (List.mem_of_getElem? hx)) (h.2 i x y hx hy)⟩

/-- The machine stands before a call of a function without addresses. -/
theorem SemS.callP (hS : S.Good X) {l : List AI} {q : Nat} {k : List Kt} {T : List AV} {L : List AO} {Q : Ex → Tm → Heap → Prop} {i : Nat} {g : GP} (hp : X.pr i = some (pureP g)) {d : Option Nat} {f : Opd} {xs : List Opd} {gd : Option (Nat × Bool)}
    (hi : l[q]? = some ⟨d, .call f xs, gd⟩) (hg : gdS T gd = some true) (hf : f.ev (tmL T) = .one (.fn i [])) {vs : List AV} (hx : xs.map (·.ev (tmL T)) = vs) {v : AV} {c : List Prop} (he : g vs = some (v, c)) (hc : AllT c) {T' : List AV} (hT : setD T d v = some T')
    (h : SemS S X m ⟨.normal, .ops l (q + 1) :: k, T', L⟩ Q) : SemS S X m ⟨.normal, .ops l q :: k, T, L⟩ Q :=
  SemS.callPr hS hp hi hg hf (by rw [hx]; exact pureP_eq he hc _) hT h
theorem SemS.callPD (hS : S.Good X) {l : List AI} {q : Nat} {k : List Kt} {T : List AV} {L : List AO} {Q : Ex → Tm → Heap → Prop} {i : Nat} {g : GP} (hp : X.pr i = some (pureP g)) {d : Option Nat} {f : Opd} {xs : List Opd} {gd : Option (Nat × Bool)}
    (hi : l[q]? = some ⟨d, .call f xs, gd⟩) (hg : gdS T gd = some true) (hf : f.ev (tmL T) = .one (.fn i [])) {vs : List AV} (hx : xs.map (·.ev (tmL T)) = vs) {v : AV} {c : List Prop} (he : g vs = some (v, c)) (hc : AllT c) {T' : List AV} (hT : setD T d v = some T')
    (h : SemS S X m ⟨.normal, .dops l (q + 1) :: k, T', L⟩ Q) : SemS S X m ⟨.normal, .dops l q :: k, T, L⟩ Q :=
  SemS.callPrD hS hp hi hg hf (by rw [hx]; exact pureP_eq he hc _) hT h

/-- The block of every own object of the one heap is an old one of the other's, or new. -/
theorem pure_of (f : Nat) (g : GP) (h : ∀ xs v c, g xs = some (v, c) → AllT c → xs.all AV.closed = true ∧ v.closed = true ∧ MF S f [] xs (hl []) fun v' _ => v' = v) : PrOk S f (pureP g) := by
  intro xs H v H' hp ρ w vs hvs hH
  obtain ⟨hHH, c, hg, hc⟩ := pureP_inv hp
  subst H'
  obtain ⟨hx, hv, hm⟩ := h xs v c hg hc
  have hn : HRel S (hl []) ρ w := ⟨fun i hi => absurd hi (Nat.not_lt_zero _), fun i j hi => absurd hi (Nat.not_lt_zero _), fun k ob hk => ⟨(hH.fx k ob hk).1, fun i hi => absurd hi (Nat.not_lt_zero _)⟩,
    fun k ob hk => ⟨(hH.fz k ob hk).1, (hH.fz k ob hk).2.1, fun i hi => absurd hi (Nat.not_lt_zero _)⟩⟩
  have hvs' : All2 (VRel S ρ 0) xs vs := ⟨hvs.1, fun i x y hx' hy => VRel.closed (fun _ _ h => h) (List.all_eq_true.1 hx x (List.mem_of_getElem? hx')) (hvs.2 i x y hx' hy)⟩
  obtain ⟨h1, h2⟩ := hm ρ w vs (by simp) hvs' hn
  have e0 : vs.toArray ++ (List.map (capAddr ρ) ([] : List (Nat × Nat × Nat))).toArray = vs.toArray := by simp
  rw [e0] at h1 h2
  refine .inr (.inl ⟨_, _, w, ρ, h1, rfl, rfl, h2.mono fun e w' hr => ?_⟩)
  obtain ⟨_, H1, rfl, u, ρ', rfl, k1, k2, k3⟩ := hr
  have hno : ∀ k, NotImg (hl []) ρ k := fun k i hi => absurd hi (Nat.not_lt_zero _)
  have hE : Ext ρ H.n ⟨ρ.l, ρ'.fz⟩ H.n := ⟨Nat.le_refl _, fun _ _ => rfl, k2.fz⟩
  have hni : ∀ k, NotImg H ρ k → NotImg H ⟨ρ.l, ρ'.fz⟩ k := fun k h => h
  refine ⟨u, ⟨ρ.l, ρ'.fz⟩, rfl, ⟨fun i hi => ?_, fun i j hi hj hne hoi hlj => hH.ap i j hi hj hne hoi hlj, fun k ob hk => ⟨(k1.fx k ob hk).1, (hH.fx k ob hk).2⟩, fun k ob hk => ⟨(k1.fz k ob hk).1, (k1.fz k ob hk).2.1, fun i hi hoi hik => ?_⟩⟩,
    ⟨k2.sz, k2.os, k2.tape, k2.output, Nat.le_refl _, fun _ _ => rfl, fun k hk hn => ⟨(k2.keep k hk (hno k)).1, hn⟩, k2.fz, fun k hk hn => k2.fn k hk (hno k)⟩, VRel.closed (ρ := ρ') (ρ' := ⟨ρ.l, ρ'.fz⟩) (fun _ _ h => h) hv k3⟩
  · cases hd : live (H.o i) with
    | false =>
      have : H.o i = .dead := by revert hd; cases H.o i <;> simp [live]
      rw [this]; trivial
    | true =>
      have := (k2.keep _ (hH.lt' hi hd) (hno _)).1
      show ORel S _ H.n (ρ i) _ (w'.heap[(ρ i).g]?)
      rw [this]
      exact (hH.obj i hi).mono hE
  · have hlt := hH.lt hi hoi
    have hik' : (ρ i).g = k := hik
    subst hik'
    have := k2.fn _ hlt (hno _)
    have hk' : ρ'.fz (ρ i).g = some ob := hk
    rw [this] at hk'
    exact (hH.fz _ _ hk').2.2 i hi hoi rfl

/-! ### Meanings told by patterns -/
open Classical in
noncomputable def relG {α : Type} (pat : α → List AV) (res : α → AV × List Prop) : GP := fun xs => if h : ∃ a, pat a = xs then some (res h.choose) else none
theorem relG_eq {α : Type} {pat : α → List AV} {res : α → AV × List Prop} (inj : ∀ a b, pat a = pat b → a = b) (a : α) : relG pat res (pat a) = some (res a) := by
  unfold relG
  have h : ∃ b, pat b = pat a := ⟨a, rfl⟩
  rw [dif_pos h, inj _ _ h.choose_spec]
theorem pure_rel (f : Nat) {α : Type} {pat : α → List AV} {res : α → AV × List Prop} (h : ∀ a, AllT (res a).2 → (pat a).all AV.closed = true ∧ (res a).1.closed = true ∧ MF S f [] (pat a) (hl []) fun v' _ => v' = (res a).1) : PrOk S f (pureP (relG pat res)) := by
  refine pure_of f _ fun xs v c hg hc => ?_
  unfold relG at hg
  split at hg
  · rename_i hx
    have hp := hx.choose_spec
    generalize hx.choose = a at hg hp
    simp only [Option.some.injEq] at hg
    have h1 : (res a).1 = v := by rw [hg]
    have h2 : (res a).2 = c := by rw [hg]
    subst hp h1 h2
    exact h a hc
  · cases hg
end
end Go.EA
