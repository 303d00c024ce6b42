/- Ranges over functions, by the model itself. Conditions: none. -/
import Derived.Test.YtngcpifknomecaaDoorEM2
set_option linter.unusedVariables false
set_option linter.unusedSimpArgs false
namespace Go.EA
section
variable {S : SC} {X : Cx} {m : Nat} {T : Tm} {H : Heap}

/-- A call of a loop's yield. -/
theorem MCall.yld {l : Nat} {xs : List AV} {Q : AV → Heap → Prop} {pend : Option Ex} {ps : List Nat} {as bd : AC} (hol : H.o l = .loop .ready pend T ps as bd) (hlen : xs.length = ps.length)
    (h : MC S H.n as (setPs T ps xs) H fun e T1 H1 => e = .normal ∧ ∃ pend1 T0 ps1 as1 bd1, H1.o l = .loop .ready pend1 T0 ps1 as1 bd1 ∧ MC S H.n bd T1 (H1.set l (.loop .busy pend1 T0 ps1 as1 bd1)) fun e _ H2 => ∃ pend2 T2 ps2 as2 bd2, H2.o l = .loop .busy pend2 T2 ps2 as2 bd2 ∧
      (match e with | .normal => Q (.one (.bool true)) (H2.set l (.loop .ready none T2 ps2 as2 bd2)) | e => Q (.one (.bool false)) (H2.set l (.loop .done (some e) T2 ps2 as2 bd2)))) : MCall S (.one (.yld l)) xs H Q := by
  intro ρ w fval vs hf hvs hH
  obtain ⟨hl, rfl⟩ := hf.one
  refine ⟨{ target := .fn (.yield (ρ l).g) #[], args := vs.toArray }, by simp [Deferred.ofValue], ?_⟩
  simp only [invoke]
  have hob := hH.obj l hl
  rw [hol] at hob
  obtain ⟨r, r1, r2, r3, r4, r5, r6, r7, r8, r9⟩ := hob
  have hget : (Instr.getLoop (ρ l).g).run S.C.P w = .ok r w := by simp [Instr.getLoop, getObj, Sem.run, r1]
  have hps : ps.length = r.params.size := by rw [← r5]; simp
  have hset := setPs_rel (ps := ps) r4 hvs hlen
  have hfold : (r.params.zip vs.toArray).foldl (fun tmps (p : Tmp × Value) => tmps.setIfInBounds p.1 p.2) r.tmps = (ps.zip vs).foldl (fun tmps (p : Nat × Value) => tmps.setIfInBounds p.1 p.2) r.tmps := by
    rw [← Array.foldl_toList, Array.toList_zip, r5]
  refine .inr (.inr ⟨(ρ l).g, r.fn, (ps.zip vs).foldl (fun tmps (p : Nat × Value) => tmps.setIfInBounds p.1 p.2) r.tmps, r.assign, r.body, ?_, ?_⟩)
  · have hsz : vs.toArray.size = r.params.size := by have := hvs.1; simp; omega
    simp only [Array.append_empty, Instr.yield, Sem.run_bind, hget, Result.andThen_ok, hsz]
    rw [← hfold]
    simp
  · refine roundIn_of_wpIn trivial ?_
    refine wpIn_mono (h (Nat.le_refl _) r.assign r.tmps.size r6 (Fence.wide.inRound (ρ l).g) (.inr ⟨_, rfl⟩) (fun _ => r8) ρ _ w hset.1 hset.2 hH) ?_
    rintro e a1 w1 ⟨ex, T1, H1, ⟨rfl, pend1, T0, ps1, as1, bd1, hol1, hbd⟩, hp⟩
    obtain ⟨h0, ρ1, ds1, h1, h2, h3, h4, h5, h6⟩ := hp
    simp only at h0; subst h0
    have hl1 : l < H1.n := Nat.lt_of_lt_of_le hl h4.nn
    have hρ1 : ρ1 l = ρ l := h4.rho l hl
    have hob1 := h3.obj l hl1
    rw [hol1, hρ1] at hob1
    obtain ⟨q, q1, q2, q3, q4, q5, q6, q7, q8, q9⟩ := hob1
    have hget1 : (Instr.getLoop (ρ l).g).run S.C.P w1 = .ok q w1 := by simp [Instr.getLoop, getObj, Sem.run, q1]
    have hlt1 : (ρ l).g < w1.heap.size := (Array.getElem?_eq_some_iff.1 q1).1
    obtain ⟨t1, t2⟩ := h3.turn (b := l) (x := .loop .busy pend1 T0 ps1 as1 bd1) (w' := { w1 with heap := w1.heap.setIfInBounds (ρ l).g (.loop { q with state := .busy }) }) hl1 (by rw [hol1]; rfl)
      (by rw [hρ1]; exact ⟨{ q with state := .busy }, by simp [hlt1], rfl, q3, q4, q5, q6, q7, q8, q9⟩) rfl (by simp) rfl rfl rfl (fun j hj => by rw [hρ1] at hj; simp [Array.getElem?_setIfInBounds, Ne.symm hj])
    refine ⟨{ w1 with heap := w1.heap.setIfInBounds (ρ l).g (.loop { q with state := .busy }) }, ?_, ?_⟩
    · simp only [Instr.beginRound, Sem.run_bind, hget1, Result.andThen_ok]
      rw [q2]
      simp [setObj, Sem.run, q1, stOf]
    · refine wpIn_mono (hbd h4.nn r.body r.tmps.size ?_ (Fence.wide.inRound (ρ l).g) (.inr ⟨_, rfl⟩) (fun _ => r9) ρ1 a1 _ h1 (h2.trans hset.2) t1) ?_
      · exact r7
      rintro e a2 w2 ⟨ex, T2, H2, ⟨pend2, T02, ps2, as2, bd2, hol2, hq⟩, hp⟩
      obtain ⟨g0, ρ2, ds2, g1, g2, g3, g4, g5, g6⟩ := hp
      have hl2 : l < H2.n := Nat.lt_of_lt_of_le hl g4.nn
      have hρ2 : ρ2 l = ρ l := (g4.rho l hl).trans hρ1
      have hob2 := g3.obj l hl2
      rw [hol2, hρ2] at hob2
      obtain ⟨s, s1, s2, s3, s4, s5, s6, s7, s8, s9⟩ := hob2
      have hget2 : (Instr.getLoop (ρ l).g).run S.C.P w2 = .ok s w2 := by simp [Instr.getLoop, getObj, Sem.run, s1]
      have hlt2 : (ρ l).g < w2.heap.size := (Array.getElem?_eq_some_iff.1 s1).1
      -- the round's end
      have fin : ∀ (j : Option Code) (st : LSt) (pd : Option Ex) (b : Bool), stOf st = (if j.isNone then .ready else .done) → j = pd.map pendOf → b = j.isNone → Q (.one (.bool b)) (H2.set l (.loop st pd T02 ps2 as2 bd2)) →
          ∃ v' w', (Instr.endRound (ρ l).g j).run S.C.P w2 = .ok v' w' ∧ RetM S H ρ w Q (.returned v') w' := by
        intro j st pd b hst hj hb hq
        obtain ⟨u1, u2⟩ := g3.turn (b := l) (x := .loop st pd T02 ps2 as2 bd2) (w' := { w2 with heap := w2.heap.setIfInBounds (ρ l).g (.loop { s with state := if j.isNone then .ready else .done, pending := j }) }) hl2 (by rw [hol2]; rfl)
          (by rw [hρ2]; exact ⟨{ s with state := if j.isNone then .ready else .done, pending := j }, by simp [hlt2], hst.symm, hj, s4, s5, s6, s7, s8, s9⟩) rfl (by simp) rfl rfl rfl (fun j hj => by rw [hρ2] at hj; simp [Array.getElem?_setIfInBounds, Ne.symm hj])
        refine ⟨.bool j.isNone, { w2 with heap := w2.heap.setIfInBounds (ρ l).g (.loop { s with state := if j.isNone then .ready else .done, pending := j }) }, ?_, _, _, hq, .bool j.isNone, ρ2, rfl, u1, ?_, ?_⟩
        · simp [Instr.endRound, hget2, setObj, Sem.run, s1]
        · have k1 : FrmB H.n H ρ w H1 ρ1 w1 := h4
          have k2 := k1.transB t2 h4.nn
          have k3 := k2.transB g4 (Nat.le_refl _)
          exact k3.transB u2 (by have := g4.nn; exact this)
        · rw [hb]; rfl
      cases ex with
      | normal => simp only at g0; subst g0; exact fin none .ready none true rfl rfl rfl hq
      | exit id => simp only at g0; subst g0; exact fin (some (.exit id)) .done (some (.exit id)) false rfl rfl rfl hq
      | ret => simp only at g0; subst g0; exact fin (some .ret) .done (some .ret) false rfl rfl rfl hq

/-- A range over a function. -/
theorem MC.rangeF (hok : S.Ok) {f : Opd} {ps : List Nat} {as bd : AC} {Q : Ex → Tm → Heap → Prop} {i : Nat} {cap : List (Nat × Nat × Nat)} (hfv : f.ev T = .one (.fn i cap))
    (h : MF S i cap [.one (.yld H.n)] (H.push (.loop .ready none T ps as bd)) fun _ H' => ∃ st pend T0 ps0 as0 bd0, H'.o H.n = .loop st pend T0 ps0 as0 bd0 ∧ st ≠ .busy ∧
      (match pend with | none => Q .normal T (H'.set H.n .dead) | some e => Q e T (H'.set H.n .dead))) : MC S m (.rangeF f ps as bd) T H Q := by
  intro hm c nt hc F hF hR ρ a w hT hn hH
  cases c with
  | rangeFunc fo psA asC bdC =>
    simp only [compC] at hc
    split at hc
    case h_2 => cases hc
    rename_i f' as' bd' hf has hbd
    by_cases hcond : (psA.toList.all (· < nt) && noR as' && noR bd') = true
    case neg => rw [if_neg hcond] at hc; cases hc
    rw [if_pos hcond] at hc
    simp only [Option.some.injEq, AC.rangeF.injEq] at hc
    obtain ⟨rfl, rfl, rfl, rfl⟩ := hc
    simp only [Bool.and_eq_true] at hcond
    have hFw : F = Fence.wide := by
      rcases hF with h | ⟨l, rfl⟩
      · exact h
      · exact absurd (hR rfl) (by simp [noR])
    subst hFw
    -- the record
    obtain ⟨u1, u2⟩ := hH.untracked (.deferred (some []))
    refine wpIn_rangeFunc fun fn _ => ?_
    obtain ⟨v1, v2⟩ := u1.push (L := ⟨w.heap.size + 1, 0, 0, 0⟩) (x := .loop .ready none T psA.toList as' bd') (ob := .loop { state := .ready, pending := none, fn := fn, tmps := a.tmps, params := psA, assign := asC, body := bdC, defers := w.heap.size }) (by simp)
      ⟨_, rfl, rfl, rfl, hT.mono (Ext.put ρ H.n _), rfl, by rw [hn]; exact has, by rw [hn]; exact hbd, hcond.1.2, hcond.2⟩
    have hfr := u2.trans v2
    have hfrel := (opd_rel hok hT hn hf).mono (Ext.put ρ H.n ⟨w.heap.size + 1, 0, 0, 0⟩)
    rw [hfv] at hfrel
    obtain ⟨hcap, hfval⟩ := hfrel.one
    have hyv : VRel S (ρ.put H.n ⟨w.heap.size + 1, 0, 0, 0⟩) (H.n + 1) (.one (.yld H.n)) (.func (.yield (w.heap.size + 1)) #[] #[]) := by
      refine ⟨by omega, ?_⟩
      rw [rput_self]
    obtain ⟨g1, g2⟩ := h (ρ.put H.n ⟨w.heap.size + 1, 0, 0, 0⟩) _ _ hcap (All2.cons hyv All2.nil) v1
    refine ⟨w.heap.size + 1, [{ target := .collected w.heap.size, args := #[] }], ((w.alloc (.deferred (some []))).alloc (.loop { state := .ready, pending := none, fn := fn, tmps := a.tmps, params := psA, assign := asC, body := bdC, defers := w.heap.size })), { target := .fn (.func (S.re i)) (cap.map (capAddr (ρ.put H.n ⟨w.heap.size + 1, 0, 0, 0⟩))).toArray, args := #[.func (.yield (w.heap.size + 1)) #[] #[]] }, ((w.alloc (.deferred (some []))).alloc (.loop { state := .ready, pending := none, fn := fn, tmps := a.tmps, params := psA, assign := asC, body := bdC, defers := w.heap.size })), S.re i, _, _, ?_, ?_, fun _ _ => trivial, g1, by simp [Fence.wide], ?_⟩
    · show (Instr.enterLoop fn a.tmps psA asC bdC none).run S.C.P w = _
      simp [Instr.enterLoop]
    · simp only [resolve, rangeCall]
      rw [hfval]
      simp [Deferred.ofValue, Act.eval]
    · refine g2.mono fun e w3 hret => ?_
      obtain ⟨_, H1, ⟨st, pend, T0, ps1, as1, bd1, hol, hst, hq⟩, u, ρ3, rfl, h1, h2, h3⟩ := hret
      have hlt : H.n < H1.n := Nat.lt_of_lt_of_le (show H.n < H.n + 1 by omega) h2.nn
      have hρ3 : ρ3 H.n = ⟨w.heap.size + 1, 0, 0, 0⟩ := by rw [h2.rho H.n (by show H.n < H.n + 1; omega), rput_self]
      have hob := h1.obj H.n hlt
      rw [hol, hρ3] at hob
      obtain ⟨r, r1, r2, r3, r4, r5, r6, r7, r8, r9⟩ := hob
      have hget : (Instr.getLoop (w.heap.size + 1)).run S.C.P w3 = .ok r w3 := by simp [Instr.getLoop, getObj, Sem.run, r1]
      have hlt3 : w.heap.size + 1 < w3.heap.size := (Array.getElem?_eq_some_iff.1 r1).1
      obtain ⟨t1, t2⟩ := h1.turn (b := H.n) (x := .loop .exhausted pend T0 ps1 as1 bd1) (w' := { w3 with heap := w3.heap.setIfInBounds (w.heap.size + 1) (.loop { r with state := .exhausted }) }) hlt (by rw [hol]; rfl)
        (by rw [hρ3]; exact ⟨{ r with state := .exhausted }, by simp [hlt3], rfl, r3, r4, r5, r6, r7, r8, r9⟩) rfl (by simp) rfl rfl rfl (fun j hj => by rw [hρ3] at hj; simp [Array.getElem?_setIfInBounds, Ne.symm hj])
      obtain ⟨k1, k2⟩ := t1.kill H.n
      have hdead : (H1.set H.n (.loop .exhausted pend T0 ps1 as1 bd1)).set H.n .dead = H1.set H.n .dead := by
        simp only [Heap.set]
        congr 1
        funext j
        unfold EA.put
        split <;> rfl
      rw [hdead] at k1 k2
      have hall : Frm H ρ w (H1.set H.n .dead) ρ3 { w3 with heap := w3.heap.setIfInBounds (w.heap.size + 1) (.loop { r with state := .exhausted }) } := (hfr.trans h2).trans (t2.trans k2)
      have hDw : ((w.alloc (.deferred (some []))).alloc (.loop { state := .ready, pending := none, fn := fn, tmps := a.tmps, params := psA, assign := asC, body := bdC, defers := w.heap.size })).heap[w.heap.size]? = some (.deferred (some [])) := by
        rw [heap_alloc, if_neg (by simp), heap_alloc, if_pos rfl]
      have hDn : NotImg (H.push (.loop .ready none T psA.toList as' bd')) (ρ.put H.n ⟨w.heap.size + 1, 0, 0, 0⟩) w.heap.size := by
        intro j hj hoj
        have hj' : j < H.n + 1 := hj
        rcases Nat.lt_or_ge j H.n with hl | hl
        · have e1 : ρ.put H.n ⟨w.heap.size + 1, 0, 0, 0⟩ j = ρ j := rput_ne _ _ (by omega)
          have e2 : (H.push (.loop .ready none T psA.toList as' bd')).o j = H.o j := by simp only [Heap.push, EA.put]; rw [if_neg (by omega)]
          rw [e1]; rw [e2] at hoj
          have := hH.lt hl hoj
          omega
        · have : j = H.n := by omega
          subst this
          rw [rput_self]; simp
      have f2 := h2.trans (t2.trans k2)
      obtain ⟨d1, d2⟩ := f2.keep w.heap.size (Array.getElem?_eq_some_iff.1 hDw).1 hDn
      refine ⟨pend.map pendOf, { w3 with heap := w3.heap.setIfInBounds (w.heap.size + 1) (.loop { r with state := .exhausted }) }, ?_, ?_⟩
      · have hnb : ¬ r.state = .busy := by
          rw [r2]
          cases st
          case busy => exact absurd rfl hst
          all_goals simp [stOf]
        rw [← r3]
        simp [Instr.endLoop, hget, hnb, setObj, Sem.run, r1]
      · have post : ∀ {ex' : Ex}, Q ex' T (H1.set H.n .dead) → ∃ ex T' H', Q ex T' H' ∧ PostB S m H ρ w a ex T' H' (match ex' with | .normal => .normal | .exit id => .exit id | .ret => .ret) { a with defers := [{ target := .collected w.heap.size, args := #[] }] ++ a.defers } { w3 with heap := w3.heap.setIfInBounds (w.heap.size + 1) (.loop { r with state := .exhausted }) } := by
          intro ex' hq
          exact ⟨ex', T, _, hq, by cases ex' <;> rfl, ρ3, [{ target := .collected w.heap.size, args := #[] }], hT.mono hall.ext, rfl, k1, hall.weak hm, rfl,
            ⟨by simp, fun d hd => by simp at hd; exact ⟨w.heap.size, hd, Nat.le_refl _, d1.trans hDw, d2⟩⟩⟩
        cases pend with
        | none => exact post (ex' := .normal) hq
        | some x =>
          have hp := post (ex' := x) hq
          cases x with
          | normal => exact wpIn_skip hp
          | exit id => exact wpIn_exit hp
          | ret => exact wpIn_ret hp
  | region id ops draw => simp only [compC] at hc; split at hc <;> (try split at hc) <;> (try split at hc) <;> cases hc
  | seq x y => simp only [compC] at hc; split at hc <;> cases hc
  | cond c x y => simp only [compC] at hc; split at hc <;> cases hc
  | _ => simp [compC] at hc
end
end Go.EA
