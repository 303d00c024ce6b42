/- What operations, calls, functions come to, by the model itself. Conditions: none. -/
import Derived.Test.YtngcpifknomecaaDoorEM1
set_option linter.unusedVariables false
set_option linter.unusedSimpArgs false
namespace Go.EA
def callOp : AOp → Bool
  | .call _ _ => true
  | _ => false
theorem uponIn_mono {F : Fence} {n : Nat} {P : Program} {o : Oper} {a : Act} {nx nx' : Act → World → Prop} {Q Q' : Exit → Act → World → Prop} (hn : ∀ a w, nx a w → nx' a w) (hq : ∀ e a w, Q e a w → Q' e a w) {r : Result Next} (h : o.uponIn F n P a nx Q r) : o.uponIn F n P a nx' Q' r := by
  unfold Oper.uponIn at h ⊢
  split at h
  · exact hn _ _ h
  · exact hn _ _ h
  · exact hn _ _ h
  · refine ⟨h.1, h.2.mono fun e w' he => ?_⟩
    cases e with
    | returned v => exact hn _ _ he
    | panicked ch => exact hq _ _ _ he
    | outgrown => obtain ⟨a, w, h⟩ := he; exact ⟨a, w, hq _ _ _ h⟩
  · exact ⟨h.1, h.2.mono fun v w' he => hn _ _ he⟩
  · refine ⟨h.1, h.2.mono fun e w' he => ?_⟩
    cases e with
    | returned v => exact hn _ _ he
    | panicked ch => exact hq _ _ _ he
    | outgrown => obtain ⟨a, w, h⟩ := he; exact ⟨a, w, hq _ _ _ h⟩
  · exact hq _ _ _ h
  · exact h.elim
theorem wpOpsIn_mono {F : Fence} {n : Nat} {P : Program} {ops : Array Oper} {Q Q' : Exit → Act → World → Prop} (hq : ∀ e a w, Q e a w → Q' e a w) : ∀ (l : List Nat) (a : Act) (w : World), wpOpsIn F n P ops Q l a w → wpOpsIn F n P ops Q' l a w
  | [], a, w, h => hq _ _ _ h
  | i :: rest, a, w, h => by
    simp only [wpOpsIn] at h ⊢
    split
    · rename_i ho; rw [ho] at h; exact wpOpsIn_mono hq rest _ _ h
    · rename_i o ho
      rw [ho] at h
      simp only at h
      split
      · rename_i hw
        rw [if_pos hw] at h
        exact ⟨h.1, uponIn_mono (fun a w h => wpOpsIn_mono hq rest a w h) hq h.2⟩
      · rename_i hw
        rw [if_neg hw] at h
        exact ⟨h.1, wpOpsIn_mono hq rest _ _ h.2⟩
section
variable {S : SC} {X : Cx} {m : Nat} {T : Tm} {H : Heap}

/-! ### Operations -/
theorem MO.nil {Q : Tm → Heap → Prop} (h : Q T H) : MO S m [] T H Q := by
  intro hm ops nt ais l hc hl F hF ρ a w hT hn hH
  induction l with
  | nil => exact ⟨T, H, h, PostB.refl hm hT hH .normal⟩
  | cons i rest ih =>
    obtain ⟨hsome, hnone⟩ := compIs_get hc i
    simp only [wpOpsIn]
    cases ho : ops[i]? with
    | none =>
      have h0 : ais[i]? = none := hnone (by simpa using ho)
      exact ih (by rw [← hl]; simp [opsAt, h0])
    | some o =>
      obtain ⟨ai, hai, hci⟩ := hsome o (by simpa using ho)
      simp [opsAt, hai] at hl

theorem MO.cons (hok : S.Ok) {i : AI} {r : List AI} {Q : Tm → Heap → Prop} (hkn : known T i.gd = true)
    (hh : (wanted T i.gd = false ∧ MO S m r (putT T i.dst und) H Q) ∨
      (wanted T i.gd = true ∧ callOp i.op = false ∧ ∃ v H1, evOp T H i.op = some (v, H1) ∧ MO S m r (putT T i.dst v) H1 Q) ∨
      (wanted T i.gd = true ∧ ∃ f xs, i.op = .call f xs ∧ MCall S (f.ev T) (xs.map (·.ev T)) H fun v H1 => MO S m r (putT T i.dst v) H1 Q)) : MO S m (i :: r) T H Q := by
  intro hm ops nt ais l hc hl F hF ρ a w hT hn hH
  induction l with
  | nil => simp [opsAt] at hl
  | cons q rest ih =>
    obtain ⟨hsome, hnone⟩ := compIs_get hc q
    simp only [wpOpsIn]
    cases ho : ops[q]? with
    | none =>
      have h0 : ais[q]? = none := hnone (by simpa using ho)
      exact ih (by rw [← hl]; simp [opsAt, h0])
    | some o =>
      obtain ⟨ai, hai, hci⟩ := hsome o (by simpa using ho)
      have hcons : opsAt ais (q :: rest) = ai :: opsAt ais rest := by simp [opsAt, hai]
      rw [hcons] at hl
      simp only [List.cons.injEq] at hl
      obtain ⟨rfl, hl⟩ := hl
      obtain ⟨hdst, hop, hgd⟩ := compI_parts hci
      have hw := wanted_rel (S := S) hkn hgd hT hn
      simp only [hw]
      have next : ∀ {v : AV} {u : Value} {H1 : Heap} {ρ1 : Rho} {w1 : World}, MO S m r (putT T ai.dst v) H1 Q → HRel S H1 ρ1 w1 → Frm H ρ w H1 ρ1 w1 → VRel S ρ1 H1.n v u →
          wpOpsIn F 0 S.C.P ops (fun e a' w' => ∃ T' H', Q T' H' ∧ PostB S m H ρ w a .normal T' H' e a' w') rest (a.put o.dst u) w1 := by
        intro v u H1 ρ1 w1 h1 hH1 hf1 hv1
        rw [hdst] at h1
        have := h1 (Nat.le_trans hm hf1.nn) ops nt ais rest hc hl F hF ρ1 (a.put o.dst u) w1 (putT_rel (hT.mono hf1.ext) hv1) ((put_size _ _ _).1.trans hn) hH1
        refine wpOpsIn_mono ?_ rest _ _ this
        rintro e a' w' ⟨T', H', hq, hp⟩
        exact ⟨T', H', hq, hp.transB (Nat.le_refl _) (ds := []) (put_size _ _ _).1 (hf1.weak hm) (put_size _ _ _).2 DOk.nil⟩
      have hnd : ∀ c, o.op ≠ .defer c := by intro c hc; simp [compOp, hc] at hop
      have hd0 : F.depth.isSome = true → 1 ≤ 0 := by rw [hF.depth]; simp
      rcases hh with ⟨hwt, hnext⟩ | ⟨hwt, hnc, v, H1, he, hnext⟩ | ⟨hwt, f, xs, hao, hcall⟩
      · rw [hwt]
        simp only [Bool.false_eq_true, if_false]
        exact ⟨fun f _ => hF.fn f, next hnext hH (Frm.refl _ _ _) und_rel⟩
      · rw [hwt]
        simp only [if_true]
        unfold Oper.wpIn
        refine ⟨fun f _ => hF.fn f, ?_⟩
        rw [Oper.semAt_eq _ _ _ hnd]
        obtain ⟨ρ', w', h1, h2, h3⟩ := op_sound ⟨hok, hT, hn, hH⟩ hop he
        rcases h3 with ⟨u, hr, hv⟩ | ⟨hr, rfl⟩
        · rw [hr]; exact next hnext h1 h2 hv
        · rw [hr]; exact next hnext h1 h2 und_rel
      · rw [hwt]
        simp only [if_true]
        unfold Oper.wpIn
        refine ⟨fun f _ => hF.fn f, ?_⟩
        rw [Oper.semAt_eq _ _ _ hnd]
        rw [hao] at hop
        obtain ⟨c, x, hoc, hcal, hfx, hxs⟩ := isCall hop
        have p : Pre S H ρ w nt T a := ⟨hok, hT, hn, hH⟩
        obtain ⟨d, hd, hinv⟩ := hcall ρ w _ _ (p.opd hfx) (p.opds hxs) hH
        have hexec : (execOp a.eval o).run S.C.P w = (invoke d.target d.args).run S.C.P w := by
          have harr : (c.args.toList.map a.eval).toArray = c.args.map a.eval := by rw [← Array.toList_inj]; simp
          rw [harr] at hd
          simp only [execOp, hoc, resolve, hcal, Sem.run_bind, hd, Result.andThen_ok]
        rw [hexec]
        rcases hinv with ⟨u, w', hr, v, H1, hq, hret⟩ | ⟨f', args, w1, ρ1, hr, rfl, rfl, hcalls⟩ | ⟨l', f', tmps, as, bd, hr, hround⟩
        · rw [hr]
          obtain ⟨u', ρ', e1, h1, h2, h3⟩ := hret
          cases e1
          exact next hq h1 h2 h3
        · rw [hr]
          simp only [Oper.uponIn]
          refine ⟨hd0, ?_⟩
          have hcin : CallsIn F 0 S.C.P f' args w1 (RetM S H ρ1 w1 fun v H1 => MO S m r (putT T ai.dst v) H1 Q) := by rcases hF with rfl | ⟨l', rfl⟩; exact hcalls; exact hcalls.inRound l'
          refine hcin.mono fun e w' hret => ?_
          obtain ⟨v, H1, hq, u', ρ', rfl, h1, h2, h3⟩ := hret
          exact next hq h1 h2 h3
        · rw [hr]
          simp only [Oper.uponIn]
          refine ⟨hd0, ?_⟩
          have hrin : RoundIn F 0 S.C.P l' f' tmps as bd w (RetM S H ρ w fun v H1 => MO S m r (putT T ai.dst v) H1 Q) := by rcases hF with rfl | ⟨l'', rfl⟩; exact hround; exact hround
          refine hrin.mono fun e w' hret => ?_
          obtain ⟨v, H1, hq, u', ρ', rfl, h1, h2, h3⟩ := hret
          exact next hq h1 h2 h3

theorem MC.reg {ops : List AI} {Q : Ex → Tm → Heap → Prop} (h : MO S m ops T H (Q .normal)) : MC S m (.reg ops) T H Q := by
  intro hm c nt hc F hF hR ρ a w hT hn hH
  cases c with
  | region id oa draw =>
    simp only [compC] at hc
    split at hc
    case h_2 => cases hc
    rename_i ais hais
    have hlen : ais.length = oa.size := by have := compIs_len hais; simpa using this
    cases draw with
    | false =>
      simp only [Bool.false_eq_true, if_false, Option.some.injEq, AC.reg.injEq] at hc
      subst hc
      refine wpIn_region ?_
      have := h hm oa nt ais _ hais (opsAt_range ais) F hF ρ a w hT hn hH
      rw [hlen] at this
      refine wpOpsIn_mono ?_ _ _ _ this
      rintro e a' w' ⟨T', H', hq, hp⟩
      exact ⟨_, T', H', hq, hp⟩
    | true =>
      simp only [if_true] at hc
      split at hc <;> cases hc
  | seq x y => simp only [compC] at hc; split at hc <;> cases hc
  | cond c x y => simp only [compC] at hc; split at hc <;> cases hc
  | rangeFunc f ps x y => simp only [compC] at hc; split at hc <;> (try split at hc) <;> cases hc
  | _ => simp [compC] at hc

/-- Calls of functions with a given meaning alone. -/
def callP (X : Cx) : AV → List AV → Heap → Option (AV × Heap) := callV X fun _ _ _ => none
theorem callP_ok (hS : S.Good X) : CallOk S (callP X) := by
  intro fv xs H v H' he ρ w fval vs hf hvs hH
  cases fv with
  | agg cs => simp [callP, callV] at he
  | tup vs => simp [callP, callV] at he
  | one x =>
    cases x
    case fn f cap =>
      obtain ⟨hcap, rfl⟩ := hf.one
      refine ⟨{ target := .fn (.func (S.re f)) (cap.map (capAddr ρ)).toArray, args := vs.toArray }, by simp [Deferred.ofValue], ?_⟩
      simp only [invoke]
      cases hpr : X.pr f with
      | some p =>
        simp only [callP, callV, hpr] at he
        split at he
        · rename_i hce
          have : cap = [] := by simpa using hce
          subst this
          have := hS.prs f p hpr xs H v H' he ρ w vs hvs hH
          simpa using this
        · cases he
      | none =>
        simp only [callP, callV, hpr] at he
        split at he
        · split at he <;> cases he
        · cases he
    case yld l =>
      simp only [callP, callV] at he
      split at he
      · split at he <;> cases he
      · cases he
    all_goals simp [callP, callV] at he

/-- A region whose operations may come in any order. -/
theorem MC.dreg (hS : S.Good X) {ops : List AI} {Q : Ex → Tm → Heap → Prop} {T' : Tm} {H' : Heap} (he : evOps (callP X) ops T H = some (T', H')) (hq : Q .normal T' H') : MC S m (.dreg ops) T H Q := by
  intro hm c nt hc F hF hR ρ a w hT hn hH
  cases c with
  | region id oa draw =>
    simp only [compC] at hc
    split at hc
    case h_2 => cases hc
    rename_i ais hais
    cases draw with
    | false => simp only [Bool.false_eq_true, if_false, Option.some.injEq] at hc; cases hc
    | true =>
      simp only [if_true] at hc
      by_cases hdr : S.dr oa ais = true
      case neg => rw [if_neg hdr] at hc; cases hc
      rw [if_pos hdr] at hc
      simp only [Option.some.injEq, AC.dreg.injEq] at hc
      subst hc
      refine wpIn_region_draw fun t => ?_
      refine ops_sound hS.ok (callP_ok hS) hais hF _ T H T' H' ρ a _ (hS.draws nt oa ais t hdr hais T H _ he) hT hn hH.drew fun e a' w' hp => ?_
      exact ⟨_, T', H', hq, PostB.transB (ds := []) (a1 := a) hm rfl ((FrmB.weak Frm.drew hm : FrmB m H ρ w H ρ w.drew)) rfl DOk.nil hp⟩
  | seq x y => simp only [compC] at hc; split at hc <;> cases hc
  | cond c x y => simp only [compC] at hc; split at hc <;> cases hc
  | rangeFunc f ps x y => simp only [compC] at hc; split at hc <;> (try split at hc) <;> cases hc
  | _ => simp [compC] at hc

/-! ### Calls -/
/-- The function has this code. -/
def SC.has (S : SC) (i : Nat) (af : AF) : Prop := ∃ fn, S.C.P.funcs[S.re i]? = some fn ∧ compF S.C S.dr fn = some af ∧ (fn.name == "runtime.NumGoroutine") = false

theorem MF.of {f : Nat} {cap : List (Nat × Nat × Nat)} {xs : List AV} {af : AF} {Q : AV → Heap → Prop} (hf : S.has f af) (hl : xs.length + cap.length = af.np)
    (h : MC S H.n af.body (args0 (xs ++ cap.map fun c => AV.one (.ptr c.1 c.2.1 c.2.2))) H fun ex T' H' => (ex = .ret ∨ ex = .normal) ∧ ∃ v, evRes T' H' af.res = some v ∧ Q v H') : MF S f cap xs H Q := by
  intro ρ w vs hcap hvs hH
  obtain ⟨fn, hfn, hcf, hname⟩ := hf
  unfold compF at hcf
  split at hcf
  case h_2 => cases hcf
  rename_i c hbody
  split at hcf
  case h_2 => cases hcf
  rename_i ac rs hcc hres
  by_cases hle : fn.params.size + fn.nfree ≤ fn.ntmps
  case neg => rw [if_neg hle] at hcf; cases hcf
  rw [if_pos hle] at hcf
  simp only [Option.some.injEq] at hcf
  subst hcf
  simp only at hl h
  have hall : All2 (VRel S ρ H.n) (xs ++ cap.map fun c => AV.one (.ptr c.1 c.2.1 c.2.2)) (vs ++ cap.map (capAddr ρ)) := by
    refine hvs.append ⟨by simp, fun i x y hx hy => ?_⟩
    simp only [List.getElem?_map, Option.map_eq_some_iff] at hx hy
    obtain ⟨c, hc, rfl⟩ := hx
    obtain ⟨c', hc', rfl⟩ := hy
    rw [hc] at hc'; cases hc'
    exact ⟨hcap c (List.mem_of_getElem? hc), rfl⟩
  have hargs : vs.toArray ++ (cap.map (capAddr ρ)).toArray = (vs ++ cap.map (capAddr ρ)).toArray := by simp
  have hsz : (vs ++ cap.map (capAddr ρ)).toArray.size = fn.params.size + fn.nfree := by
    have := hvs.1
    simp; omega
  rw [hargs]
  refine ⟨?_, ?_⟩
  · simp only [callFunc, Sem.run_bind, run_program, Result.andThen_ok, hfn, hname, hbody]
    simp
  · refine callsIn_of_wp_marks hfn hbody trivial ?_
    refine wpIn_mono (h (Nat.le_refl _) c fn.ntmps hcc Fence.wide (.inl rfl) (by simp [Fence.wide]) ρ _ w (args_rel hall _) (by simp only [Array.size_append, Array.size_replicate]; omega) hH) ?_
    rintro e a' w' ⟨ex, T', H1, ⟨hex, v', hv', hq⟩, hp⟩
    obtain ⟨h0, ρ', ds, h1, h2, h3, h4, h5, h6⟩ := hp
    simp only [List.append_nil] at h5
    have hsz2 : a'.tmps.size = fn.ntmps := by rw [h2]; simp only [Array.size_append, Array.size_replicate]; omega
    have leave : LeavesInM Fence.wide 0 S.C.P fn a'.tmps (RetM S H ρ w Q) a'.defers .returning w' := by
      rw [h5]
      refine leaves_ok (z := w.heap.size) (fun k ob hk => (Array.getElem?_eq_some_iff.1 (hH.fx k ob hk).1).1) ds w' h3 h6 fun wf hw hsz3 hos htp hout hk => ?_
      obtain ⟨u, hu, hru⟩ := res_run (fn := fn) h1 hsz2 hw hres hv'
      refine ⟨u, hu, v', H1, hq, u, ρ', rfl, hw, ⟨by have := h4.sz; omega, hos.trans h4.os, htp.trans h4.tape, hout.trans h4.output, h4.nn, h4.rho, fun j hj hni => ?_, h4.fz, h4.fn⟩, hru⟩
      obtain ⟨k1, k2⟩ := h4.keep j hj hni
      exact ⟨(hk j (.inl hj)).trans k1, k2⟩
    rcases hex with rfl | rfl
    · simp only at h0; subst h0; exact leave
    · simp only at h0; subst h0; exact leave

theorem MCall.fn {f : Nat} {cap : List (Nat × Nat × Nat)} {xs : List AV} {Q : AV → Heap → Prop} (h : MF S f cap xs H Q) : MCall S (.one (.fn f cap)) xs H Q := by
  intro ρ w fval vs hf hvs hH
  obtain ⟨hcap, rfl⟩ := hf.one
  refine ⟨{ target := .fn (.func (S.re f)) (cap.map (capAddr ρ)).toArray, args := vs.toArray }, by simp [Deferred.ofValue], ?_⟩
  simp only [invoke]
  obtain ⟨h1, h2⟩ := h ρ w vs hcap hvs hH
  exact .inr (.inl ⟨_, _, w, ρ, h1, rfl, rfl, h2⟩)
theorem MCall.pr {f : Nat} {p : List AV → Heap → Option (AV × Heap)} (hp : PrOk S f p) {xs : List AV} {v : AV} {H' : Heap} (he : p xs H = some (v, H')) {Q : AV → Heap → Prop} (hq : Q v H') : MCall S (.one (.fn f [])) xs H Q := by
  intro ρ w fval vs hf hvs hH
  obtain ⟨hcap, rfl⟩ := hf.one
  refine ⟨{ target := .fn (.func (S.re f)) #[], args := vs.toArray }, by simp [Deferred.ofValue], ?_⟩
  simp only [invoke]
  have := hp xs H v H' he ρ w vs hvs hH
  have lift : ∀ {e w'}, RetOk S H ρ w v H' e w' → RetM S H ρ w Q e w' := fun h => ⟨v, H', hq, h⟩
  simp only [Array.append_empty]
  rcases this with ⟨u, w', hr, hret⟩ | ⟨f', args, w1, ρ1, hr, e1, e2, hcalls⟩ | ⟨l', f', tmps, as, bd, hr, hround⟩
  · exact .inl ⟨u, w', hr, lift hret⟩
  · exact .inr (.inl ⟨f', args, w1, ρ1, hr, e1, e2, hcalls.mono fun e w' h => lift h⟩)
  · exact .inr (.inr ⟨l', f', tmps, as, bd, hr, hround.mono fun e w' h => lift h⟩)
end
end Go.EA
