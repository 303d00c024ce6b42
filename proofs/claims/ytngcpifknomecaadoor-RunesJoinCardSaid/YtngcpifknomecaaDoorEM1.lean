/- What code comes to, by the model itself: code, operations, calls. Conditions: none. -/
import Derived.Test.YtngcpifknomecaaDoorESound2
set_option linter.unusedVariables false
set_option linter.unusedSimpArgs false
namespace Go.EA

/-- What code comes to; the first m objects keep their numbers. -/
def MC (S : SC) (m : Nat) (ac : AC) (T : Tm) (H : Heap) (Q : Ex → Tm → Heap → Prop) : Prop :=
  m ≤ H.n → ∀ (c : Code) (nt : Nat), compC S.C nt S.dr c = some ac → ∀ (F : Fence), WideF F → (F.round.isSome = true → noR ac = true) → ∀ (ρ : Rho) (a : Act) (w : World), TRel S ρ H.n T a.tmps → a.tmps.size = nt → HRel S H ρ w →
    c.wpIn F 0 S.C.P (fun e a' w' => ∃ ex T' H', Q ex T' H' ∧ PostB S m H ρ w a ex T' H' e a' w') a w

/-- What operations come to. -/
def MO (S : SC) (m : Nat) (r : List AI) (T : Tm) (H : Heap) (Q : Tm → Heap → Prop) : Prop :=
  m ≤ H.n → ∀ (ops : Array Oper) (nt : Nat) (ais : List AI) (l : List Nat), compIs S.C nt ops ops.toList = some ais → opsAt ais l = r → ∀ (F : Fence), WideF F → ∀ (ρ : Rho) (a : Act) (w : World), TRel S ρ H.n T a.tmps → a.tmps.size = nt → HRel S H ρ w →
    wpOpsIn F 0 S.C.P ops (fun e a' w' => ∃ T' H', Q T' H' ∧ PostB S m H ρ w a .normal T' H' e a' w') l a w

def RetM (S : SC) (H : Heap) (ρ : Rho) (w : World) (Q : AV → Heap → Prop) : Ending → World → Prop := fun e w' => ∃ v H', Q v H' ∧ RetOk S H ρ w v H' e w'

def InvM (S : SC) (H : Heap) (ρ : Rho) (w : World) (Q : AV → Heap → Prop) (r : Result Next) : Prop :=
  (∃ u w', r = .ok (.value u) w' ∧ RetM S H ρ w Q (.returned u) w') ∨
  (∃ f args w1 ρ1, r = .ok (.enter f args) w1 ∧ w1 = w ∧ ρ1 = ρ ∧ CallsIn Fence.wide 0 S.C.P f args w (RetM S H ρ w Q)) ∨
  (∃ l f tmps as bd, r = .ok (.round l f tmps as bd) w ∧ RoundIn Fence.wide 0 S.C.P l f tmps as bd w (RetM S H ρ w Q))

/-- What a call of a function value comes to. -/
def MCall (S : SC) (f : AV) (xs : List AV) (H : Heap) (Q : AV → Heap → Prop) : Prop :=
  ∀ ρ w fval vs, VRel S ρ H.n f fval → All2 (VRel S ρ H.n) xs vs → HRel S H ρ w →
    ∃ d, (Deferred.ofValue fval vs.toArray).run S.C.P w = .ok d w ∧ InvM S H ρ w Q ((invoke d.target d.args).run S.C.P w)

/-- What a function comes to. -/
def MF (S : SC) (f : Nat) (cap : List (Nat × Nat × Nat)) (xs : List AV) (H : Heap) (Q : AV → Heap → Prop) : Prop :=
  ∀ ρ w vs, (∀ c ∈ cap, c.1 < H.n) → All2 (VRel S ρ H.n) xs vs → HRel S H ρ w →
    (callFunc (S.re f) (vs.toArray ++ (cap.map (capAddr ρ)).toArray)).run S.C.P w = .ok (.enter (S.re f) (vs.toArray ++ (cap.map (capAddr ρ)).toArray)) w ∧
    CallsIn Fence.wide 0 S.C.P (S.re f) (vs.toArray ++ (cap.map (capAddr ρ)).toArray) w (RetM S H ρ w Q)

theorem roundsIn_mono {F : Fence} {n : Nat} {P : Program} {c : Code} {Q Q' : Exit → Act → World → Prop} (hq : ∀ e a w, Q e a w → Q' e a w) : ∀ {k : Nat} {a : Act} {w : World}, Code.roundsIn F n P c Q k a w → Code.roundsIn F n P c Q' k a w
  | 0, _, _, h => h.elim
  | k + 1, a, w, h => by
    rw [roundsIn_succ] at h ⊢
    refine wpIn_mono h fun e a1 w1 h1 => ?_
    cases e with
    | normal => exact roundsIn_mono hq h1
    | exit id => exact hq _ _ _ h1
    | goto l => exact hq _ _ _ h1
    | ret => exact hq _ _ _ h1
    | panic ch => exact hq _ _ _ h1
    | outgrown => exact hq _ _ _ h1

section
variable {S : SC} {m : Nat} {T : Tm} {H : Heap}

theorem MC.mono {ac : AC} {Q Q' : Ex → Tm → Heap → Prop} (h : MC S m ac T H Q) (hq : ∀ e T H, Q e T H → Q' e T H) : MC S m ac T H Q' :=
  fun hm c nt hc F hF hR ρ a w hT hn hH => wpIn_mono (h hm c nt hc F hF hR ρ a w hT hn hH) fun e a' w' ⟨ex, T', H', hp, hh⟩ => ⟨ex, T', H', hq _ _ _ hp, hh⟩
theorem RetM.mono {ρ : Rho} {w : World} {Q Q' : AV → Heap → Prop} (hq : ∀ v H, Q v H → Q' v H) {e : Ending} {w' : World} (h : RetM S H ρ w Q e w') : RetM S H ρ w Q' e w' :=
  let ⟨v, H', h1, h2⟩ := h; ⟨v, H', hq _ _ h1, h2⟩
theorem MF.mono {f : Nat} {cap : List (Nat × Nat × Nat)} {xs : List AV} {Q Q' : AV → Heap → Prop} (h : MF S f cap xs H Q) (hq : ∀ v H, Q v H → Q' v H) : MF S f cap xs H Q' :=
  fun ρ w vs h1 h2 h3 => ⟨(h ρ w vs h1 h2 h3).1, (h ρ w vs h1 h2 h3).2.mono fun e w' hr => hr.mono hq⟩
theorem MCall.mono {f : AV} {xs : List AV} {Q Q' : AV → Heap → Prop} (h : MCall S f xs H Q) (hq : ∀ v H, Q v H → Q' v H) : MCall S f xs H Q' := by
  intro ρ w fval vs h1 h2 h3
  obtain ⟨d, hd, hi⟩ := h ρ w fval vs h1 h2 h3
  refine ⟨d, hd, ?_⟩
  rcases hi with ⟨u, w', hr, hret⟩ | ⟨f', args, w1, ρ1, hr, e1, e2, hcalls⟩ | ⟨l', f', tmps, as, bd, hr, hround⟩
  · exact .inl ⟨u, w', hr, hret.mono hq⟩
  · exact .inr (.inl ⟨f', args, w1, ρ1, hr, e1, e2, hcalls.mono fun e w' h => h.mono hq⟩)
  · exact .inr (.inr ⟨l', f', tmps, as, bd, hr, hround.mono fun e w' h => h.mono hq⟩)

/-! ### Code -/
theorem MC.skip {Q : Ex → Tm → Heap → Prop} (h : Q .normal T H) : MC S m .skip T H Q := by
  intro hm c nt hc F hF hR ρ a w hT hn hH
  cases c with
  | skip => exact wpIn_skip ⟨_, _, _, h, PostB.refl hm hT hH .normal⟩
  | label l => exact wpIn_label ⟨_, _, _, h, PostB.refl hm hT hH .normal⟩
  | region id ops draw => simp only [compC] at hc; split at hc <;> (try split at hc) <;> (try split at hc) <;> cases hc
  | seq x y => simp only [compC] at hc; split at hc <;> cases hc
  | cond c x y => simp only [compC] at hc; split at hc <;> cases hc
  | rangeFunc f ps x y => simp only [compC] at hc; split at hc <;> (try split at hc) <;> cases hc
  | _ => simp [compC] at hc
theorem MC.exit {id : Nat} {Q : Ex → Tm → Heap → Prop} (h : Q (.exit id) T H) : MC S m (.exit id) T H Q := by
  intro hm c nt hc F hF hR ρ a w hT hn hH
  cases c with
  | exit id' => simp only [compC, Option.some.injEq, AC.exit.injEq] at hc; subst hc; exact wpIn_exit ⟨_, _, _, h, PostB.refl hm hT hH (.exit _)⟩
  | region id ops draw => simp only [compC] at hc; split at hc <;> (try split at hc) <;> (try split at hc) <;> cases hc
  | seq x y => simp only [compC] at hc; split at hc <;> cases hc
  | cond c x y => simp only [compC] at hc; split at hc <;> cases hc
  | rangeFunc f ps x y => simp only [compC] at hc; split at hc <;> (try split at hc) <;> cases hc
  | _ => simp [compC] at hc
theorem MC.ret {Q : Ex → Tm → Heap → Prop} (h : Q .ret T H) : MC S m .ret T H Q := by
  intro hm c nt hc F hF hR ρ a w hT hn hH
  cases c with
  | ret => exact wpIn_ret ⟨_, _, _, h, PostB.refl hm hT hH .ret⟩
  | region id ops draw => simp only [compC] at hc; split at hc <;> (try split at hc) <;> (try split at hc) <;> cases hc
  | seq x y => simp only [compC] at hc; split at hc <;> cases hc
  | cond c x y => simp only [compC] at hc; split at hc <;> cases hc
  | rangeFunc f ps x y => simp only [compC] at hc; split at hc <;> (try split at hc) <;> cases hc
  | _ => simp [compC] at hc

theorem stepR_scope {P : Program} {b : Frame} {a : Act} {k : List Item} {cs : List Frame} {w : World} {c : Code} : step P (lone (b.atR a (.code (.scope c) :: k)) cs w) = .next (lone (b.atR a (.code c :: .inScope c :: k)) cs w) :=
  step_lone_go (by simp [stepG, stepG.exec, Frame.atR])
theorem stepR_inScope {P : Program} {b : Frame} {a : Act} {k : List Item} {cs : List Frame} {w : World} {c : Code} : step P (lone (b.atR a (.inScope c :: k)) cs w) = .next (lone (b.atR a k) cs w) :=
  step_lone_go (by simp [stepG, stepG.exec, Frame.atR])

/-- A scope without jumps. -/
theorem wpIn_scope {F : Fence} {n : Nat} {P : Program} {c : Code} {Q : Exit → Act → World → Prop} {a : Act} {w : World} (h : c.wpIn F n P Q a w) (hg : ∀ l a w, ¬ Q (.goto l) a w) : (Code.scope c).wpIn F n P Q a w := by
  intro b k cs hro hb hr
  have h0 : (lone (b.atR a (.code (.scope c) :: k)) cs w).fenced P F := fenced_calm hb hr rfl
  obtain ⟨e, a₁, w₁, hq, harr⟩ := h b (.inScope c :: k) cs hro hb hr
  cases e with
  | normal => exact ⟨.normal, a₁, w₁, hq, .head h0 stepR_scope (StepsIn.trans harr (.one (fenced_calm hb hr rfl) stepR_inScope))⟩
  | exit id => exact ⟨_, a₁, w₁, hq, fun k' hk => .head h0 stepR_scope (harr.1 k' (by simp [exitTo, hk])), fun hr' hk => let ⟨k₁, h1, h2⟩ := harr.2 hr' (by simp [exitTo, hk]); ⟨k₁, h1, .head h0 stepR_scope h2⟩⟩
  | goto l => exact absurd hq (hg l a₁ w₁)
  | ret => exact ⟨_, a₁, w₁, hq, .of_steps (.one h0 stepR_scope) harr⟩
  | panic ch => exact ⟨_, a₁, w₁, hq, .of_steps (.one h0 stepR_scope) harr⟩
  | outgrown => exact ⟨_, a₁, w₁, hq, .of_steps (.one h0 stepR_scope) harr⟩

def thenM (S : SC) (m : Nat) (b : AC) (Q : Ex → Tm → Heap → Prop) : Ex → Tm → Heap → Prop
  | .normal, T, H => MC S m b T H Q
  | e, T, H => Q e T H

theorem MC.seq {x y : AC} {Q : Ex → Tm → Heap → Prop} (hnx : x ≠ .skip) (h : MC S m x T H (thenM S m y Q)) : MC S m (.seq x y) T H Q := by
  intro hm c nt hc F hF hR ρ a w hT hn hH
  have hR2 : F.round.isSome = true → noR x = true ∧ noR y = true := fun h => by have := hR h; simpa [noR] using this
  cases c with
  | seq cx cy =>
    simp only [compC] at hc
    split at hc
    · rename_i ax ay hx hy
      simp only [Option.some.injEq, AC.seq.injEq] at hc
      obtain ⟨rfl, rfl⟩ := hc
      refine wpIn_seq (wpIn_mono (h hm cx nt hx F hF (fun h => (hR2 h).1) ρ a w hT hn hH) ?_)
      rintro e a1 w1 ⟨ex, T1, H1, hq, hp⟩
      cases ex with
      | normal =>
        obtain ⟨h0, ρ1, ds, h1, h2, h3, h4, h5, h6⟩ := hp
        simp only at h0; subst h0
        show cy.wpIn F 0 S.C.P _ a1 w1
        refine wpIn_mono (hq h4.nn cy nt hy F hF (fun h => (hR2 h).2) ρ1 a1 w1 h1 (h2.trans hn) h3) ?_
        rintro e a2 w2 ⟨ex2, T2, H2, hq2, hp2⟩
        exact ⟨ex2, T2, H2, hq2, hp2.transB (Nat.le_refl _) h2 h4 h5 h6⟩
      | exit id =>
        have h0 := hp.1
        simp only at h0; subst h0
        exact ⟨_, T1, H1, hq, hp⟩
      | ret =>
        have h0 := hp.1
        simp only at h0; subst h0
        exact ⟨_, T1, H1, hq, hp⟩
    · cases hc
  | scope cx =>
    simp only [compC] at hc
    obtain ⟨ax, hx', he⟩ := Option.map_eq_some_iff.1 hc
    simp only [AC.seq.injEq] at he
    exact absurd he.1.symm hnx
  | region id ops draw => simp only [compC] at hc; split at hc <;> (try split at hc) <;> (try split at hc) <;> cases hc
  | cond c x y => simp only [compC] at hc; split at hc <;> cases hc
  | rangeFunc f ps x y => simp only [compC] at hc; split at hc <;> (try split at hc) <;> cases hc
  | _ => simp [compC] at hc
theorem MC.skip_seq {y : AC} {Q : Ex → Tm → Heap → Prop} (h : MC S m y T H Q) : MC S m (.seq .skip y) T H Q := by
  intro hm c nt hc F hF hR ρ a w hT hn hH
  have hR2 : F.round.isSome = true → noR y = true := fun h => by have := hR h; simpa [noR] using this
  cases c with
  | seq cx cy =>
    simp only [compC] at hc
    split at hc
    · rename_i ax ay hx hy
      simp only [Option.some.injEq, AC.seq.injEq] at hc
      obtain ⟨rfl, rfl⟩ := hc
      have h0 : MC S m .skip T H (thenM S m ay Q) := MC.skip h
      refine wpIn_seq (wpIn_mono (h0 hm cx nt hx F hF (fun _ => rfl) ρ a w hT hn hH) ?_)
      rintro e a1 w1 ⟨ex, T1, H1, hq, hp⟩
      cases ex with
      | normal =>
        obtain ⟨h0, ρ1, ds, h1, h2, h3, h4, h5, h6⟩ := hp
        simp only at h0; subst h0
        show cy.wpIn F 0 S.C.P _ a1 w1
        refine wpIn_mono (hq h4.nn cy nt hy F hF hR2 ρ1 a1 w1 h1 (h2.trans hn) h3) ?_
        rintro e a2 w2 ⟨ex2, T2, H2, hq2, hp2⟩
        exact ⟨ex2, T2, H2, hq2, hp2.transB (Nat.le_refl _) h2 h4 h5 h6⟩
      | exit id =>
        have h0 := hp.1
        simp only at h0; subst h0
        exact ⟨_, T1, H1, hq, hp⟩
      | ret =>
        have h0 := hp.1
        simp only at h0; subst h0
        exact ⟨_, T1, H1, hq, hp⟩
    · cases hc
  | scope cx =>
    simp only [compC] at hc
    obtain ⟨ax, hx, he⟩ := Option.map_eq_some_iff.1 hc
    simp only [AC.seq.injEq] at he
    obtain ⟨-, rfl⟩ := he
    refine wpIn_scope (h hm cx nt hx F hF hR2 ρ a w hT hn hH) ?_
    rintro l a1 w1 ⟨ex, T1, H1, hq, hp⟩
    have := hp.1
    cases ex <;> cases this
  | region id ops draw => simp only [compC] at hc; split at hc <;> (try split at hc) <;> (try split at hc) <;> cases hc
  | cond c x y => simp only [compC] at hc; split at hc <;> cases hc
  | rangeFunc f ps x y => simp only [compC] at hc; split at hc <;> (try split at hc) <;> cases hc
  | _ => simp [compC] at hc

theorem MC.cond {x : Opd} {p q : AC} {Q : Ex → Tm → Heap → Prop} (b : Bool) (hb : x.ev T = .one (.bool b)) (hok : S.Ok) (h : MC S m (if b then p else q) T H Q) : MC S m (.cond x p q) T H Q := by
  intro hm c nt hc F hF hR ρ a w hT hn hH
  have hR2 : F.round.isSome = true → noR p = true ∧ noR q = true := fun h => by have := hR h; simpa [noR] using this
  cases c with
  | cond cx cp cq =>
    simp only [compC] at hc
    split at hc
    · rename_i cc ax ay hcc hx hy
      simp only [Option.some.injEq, AC.cond.injEq] at hc
      obtain ⟨rfl, rfl, rfl⟩ := hc
      have hv := opd_rel hok hT hn hcc
      rw [hb] at hv
      cases b with
      | true => exact wpIn_cond_true hv.one (h hm cp nt hx F hF (fun h => (hR2 h).1) ρ a w hT hn hH)
      | false => exact wpIn_cond_false hv.one (h hm cq nt hy F hF (fun h => (hR2 h).2) ρ a w hT hn hH)
    · cases hc
  | region id ops draw => simp only [compC] at hc; split at hc <;> (try split at hc) <;> (try split at hc) <;> cases hc
  | seq x y => simp only [compC] at hc; split at hc <;> cases hc
  | rangeFunc f ps x y => simp only [compC] at hc; split at hc <;> (try split at hc) <;> cases hc
  | _ => simp [compC] at hc

theorem MC.block {id : Nat} {x : AC} {Q : Ex → Tm → Heap → Prop} (h : MC S m x T H fun e T' H' => match e with | .exit id' => if id' = id then Q .normal T' H' else Q (.exit id') T' H' | e => Q e T' H') : MC S m (.block id x) T H Q := by
  intro hm c nt hc F hF hR ρ a w hT hn hH
  cases c with
  | block id' cx =>
    simp only [compC] at hc
    obtain ⟨ax, hx, he⟩ := Option.map_eq_some_iff.1 hc
    simp only [AC.block.injEq] at he
    obtain ⟨rfl, rfl⟩ := he
    refine wpIn_block (wpIn_mono (h hm cx nt hx F hF hR ρ a w hT hn hH) ?_)
    rintro e a1 w1 ⟨ex, T1, H1, hq, hp⟩
    have h0 := hp.1
    cases ex with
    | normal => simp only at h0; subst h0; exact ⟨_, T1, H1, hq, hp⟩
    | exit i =>
      simp only at h0; subst h0
      show if i = id' then _ else _
      simp only at hq
      by_cases hi : i = id'
      · rw [if_pos hi] at hq ⊢
        exact ⟨.normal, T1, H1, hq, rfl, hp.2⟩
      · rw [if_neg hi] at hq ⊢
        exact ⟨_, T1, H1, hq, hp⟩
    | ret => simp only at h0; subst h0; exact ⟨_, T1, H1, hq, hp⟩
  | region id ops draw => simp only [compC] at hc; split at hc <;> (try split at hc) <;> (try split at hc) <;> cases hc
  | seq x y => simp only [compC] at hc; split at hc <;> cases hc
  | cond c x y => simp only [compC] at hc; split at hc <;> cases hc
  | rangeFunc f ps x y => simp only [compC] at hc; split at hc <;> (try split at hc) <;> cases hc
  | _ => simp [compC] at hc

/-- A loop: an invariant with a bound of the rounds to come. -/
theorem MC.loop {x : AC} {Q : Ex → Tm → Heap → Prop} (Inv : Nat → Tm → Heap → Prop)
    (h : ∀ k T H, Inv k T H → MC S m x T H fun e T' H' => match e with | .normal => ∃ k', k' < k ∧ Inv k' T' H' | e => Q e T' H') {k : Nat} (hi : Inv k T H) : MC S m (.loop x) T H Q := by
  intro hm c nt hc F hF hR ρ a w hT hn hH
  cases c with
  | loop cx =>
    simp only [compC] at hc
    obtain ⟨ax, hx, he⟩ := Option.map_eq_some_iff.1 hc
    simp only [AC.loop.injEq] at he
    subst he
    have key : ∀ n k T H, k < n → Inv k T H → m ≤ H.n → ∀ (ρ : Rho) (a : Act) (w : World), TRel S ρ H.n T a.tmps → a.tmps.size = nt → HRel S H ρ w →
        Code.roundsIn F 0 S.C.P cx (fun e a' w' => ∃ ex T' H', Q ex T' H' ∧ PostB S m H ρ w a ex T' H' e a' w') n a w := by
      intro n
      induction n with
      | zero => intro k T H hk; omega
      | succ n ih =>
        intro k T H hk hi hm ρ a w hT hn hH
        rw [roundsIn_succ]
        refine wpIn_mono (h k T H hi hm cx nt hx F hF hR ρ a w hT hn hH) ?_
        rintro e a1 w1 ⟨ex, T1, H1, hq, hp⟩
        have h0 := hp.1
        cases ex with
        | normal =>
          simp only at h0; subst h0
          obtain ⟨k', hk', hi'⟩ := hq
          obtain ⟨_, ρ1, ds, h1, h2, h3, h4, h5, h6⟩ := hp
          have hq2 : ∀ {e a2 w2}, (∃ ex T' H', Q ex T' H' ∧ PostB S m H1 ρ1 w1 a1 ex T' H' e a2 w2) → ∃ ex T' H', Q ex T' H' ∧ PostB S m H ρ w a ex T' H' e a2 w2 := by
            rintro e a2 w2 ⟨ex2, T2, H2, hq2, hp2⟩
            exact ⟨ex2, T2, H2, hq2, hp2.transB (Nat.le_refl _) h2 h4 h5 h6⟩
          have hr := ih k' T1 H1 (by omega) hi' h4.nn ρ1 a1 w1 h1 (h2.trans hn) h3
          exact roundsIn_mono (fun e a2 w2 => hq2) hr
        | exit id => simp only at h0; subst h0; exact ⟨_, T1, H1, hq, hp⟩
        | ret => simp only at h0; subst h0; exact ⟨_, T1, H1, hq, hp⟩
    exact wpIn_loop_rounds (k + 1) (key (k + 1) k T H (by omega) hi hm ρ a w hT hn hH)
  | region id ops draw => simp only [compC] at hc; split at hc <;> (try split at hc) <;> (try split at hc) <;> cases hc
  | seq x y => simp only [compC] at hc; split at hc <;> cases hc
  | cond c x y => simp only [compC] at hc; split at hc <;> cases hc
  | rangeFunc f ps x y => simp only [compC] at hc; split at hc <;> (try split at hc) <;> cases hc
  | _ => simp [compC] at hc
end
end Go.EA
