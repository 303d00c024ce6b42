/- Code, calls, rounds: what the abstract evaluation answers, the model's steps do. Conditions: none. -/
import Derived.Test.YtngcpifknomecaaDoorESound1
set_option linter.unusedVariables false
set_option linter.unusedSimpArgs false
namespace Go.EA

/-- A function with a given meaning. -/
def PrOk (S : SC) (i : Nat) (p : List AV → Heap → Option (AV × Heap)) : Prop :=
  ∀ xs H v H', p xs H = some (v, H') → ∀ ρ w vs, All2 (VRel S ρ H.n) xs vs → HRel S H ρ w → InvOk S H ρ w v H' ((callFunc (S.re i) vs.toArray).run S.C.P w)

/-- The abstract program is the program's. -/
structure SC.Good (S : SC) (X : Cx) : Prop where
  ok : S.Ok
  fns : ∀ i af, X.ap i = some af → ∃ fn, S.C.P.funcs[S.re i]? = some fn ∧ compF S.C S.dr fn = some af ∧ (fn.name == "runtime.NumGoroutine") = false
  prs : ∀ i p, X.pr i = some p → PrOk S i p
  draws : ∀ nt ops ais t, S.dr ops ais = true → compIs S.C nt ops ops.toList = some ais → ∀ T H r, evOps (callV X (fun _ _ _ => none)) ais T H = some r →
    evOps (callV X (fun _ _ _ => none)) (opsAt ais (Region.schedule (S.C.P.follows .mixedOrders) ops t)) T H = some r

section
variable {S : SC}

theorem opsAt_range (ais : List AI) : opsAt ais (List.range ais.length) = ais := by
  have key : ∀ (l pre : List AI), (List.range' pre.length l.length).filterMap ((pre ++ l)[·]?) = l := by
    intro l
    induction l with
    | nil => intro pre; simp
    | cons x l ih =>
      intro pre
      rw [List.length_cons, List.range'_succ, List.filterMap_cons]
      have h0 : (pre ++ x :: l)[pre.length]? = some x := by simp
      rw [h0]
      have := ih (pre ++ [x])
      simp only [List.length_append, List.length_cons, List.length_nil, List.append_assoc, List.cons_append, List.nil_append, Nat.zero_add] at this
      rw [this]
  have := key ais []
  simpa [opsAt, List.range_eq_range'] using this

theorem compIs_len {nt : Nat} {ops : Array Oper} : ∀ {l : List Oper} {ais : List AI}, compIs S.C nt ops l = some ais → ais.length = l.length
  | [], ais, h => by simp [compIs] at h; subst h; rfl
  | o :: r, ais, h => by
    simp only [compIs] at h
    split at h
    · rename_i ai l' h1 h2
      simp at h; subst h
      simp [compIs_len h2]
    · cases h

/-- What lies at an unheld place may change. -/
theorem HRel.untracked {H : Heap} {ρ : Rho} {w : World} (h : HRel S H ρ w) (ob : Obj) : HRel S H ρ (w.alloc ob) ∧ Frm H ρ w H ρ (w.alloc ob) := by
  refine HRel.mk2 h (fun i hi => ?_) h.ap ⟨by simp, rfl, rfl, rfl, Nat.le_refl _, fun _ _ => rfl, fun k hk hni => ⟨by rw [heap_alloc, if_neg (by omega)], hni⟩, fun _ _ h => h, fun _ _ _ => rfl⟩
  cases hd : live (H.o i) with
  | false =>
    have : H.o i = .dead := by revert hd; cases H.o i <;> simp [live]
    rw [this]; trivial
  | true =>
    rw [heap_alloc, if_neg (by have := h.lt' hi hd; omega)]
    exact h.obj i hi

theorem HRel.shut {H : Heap} {ρ : Rho} {w : World} (h : HRel S H ρ w) {D : Nat} {x y : Option (List Deferred)} (hD : w.heap[D]? = some (.deferred x)) (hnf : S.fx D = none) :
    HRel S H ρ { w with heap := w.heap.setIfInBounds D (.deferred y) } := by
  refine ⟨fun i hi => ?_, h.ap, fun k ob hk => ⟨?_, (h.fx k ob hk).2⟩, fun k ob hk => ⟨(h.fz k ob hk).1, ?_, (h.fz k ob hk).2.2⟩⟩
  rotate_left 2
  · show (w.heap.setIfInBounds D _)[k]? = _
    rw [Array.getElem?_setIfInBounds_ne ?_]
    · exact (h.fz k ob hk).2.1
    · rintro rfl
      obtain ⟨⟨C, ty, fr, rfl⟩, h2, _⟩ := h.fz _ _ hk
      rw [hD] at h2; cases h2
  rotate_left
  · show (w.heap.setIfInBounds D _)[k]? = _
    rw [Array.getElem?_setIfInBounds_ne (by rintro rfl; rw [hnf] at hk; cases hk)]
    exact (h.fx k ob hk).1
  have ho := h.obj i hi
  show ORel S ρ H.n (ρ i) (H.o i) ((w.heap.setIfInBounds D (.deferred y))[(ρ i).g]?)
  by_cases e : (ρ i).g = D
  · rw [e] at ho ⊢
    rw [hD] at ho
    cases hx : H.o i with
    | dead => trivial
    | blk s els o => rw [hx] at ho; obtain ⟨_, C, ty, fr, h1, _⟩ := ho; cases h1
    | map es => rw [hx] at ho; obtain ⟨E, clk, h1, _⟩ := ho; cases h1
    | siter s pos => rw [hx] at ho; obtain ⟨h1, _⟩ := ho; cases h1
    | bld s => rw [hx] at ho; exact ho.elim
    | loop st pend T ps as bd => rw [hx] at ho; obtain ⟨r, h1, _⟩ := ho; cases h1
  · rw [Array.getElem?_setIfInBounds_ne (fun h => e h.symm)]
    exact ho

/-! ### Results -/
def resOne (tmps : Array Value) : ResultVar → Sem Value
  | .tmp t => pure (tmps.getD t undef)
  | .cell a t => do loadVar t (← asAddr (tmps.getD a undef))
theorem results_eq (fn : Func) (tmps : Array Value) : results fn tmps = (do let vs ← fn.results.mapM (resOne tmps); pure (if h : vs.size = 1 then vs[0] else .tuple vs)) := by
  unfold results
  congr 1
theorem resL_run {H : Heap} {ρ : Rho} {w : World} {nt : Nat} {T : Tm} {tmps : Array Value} (hT : TRel S ρ H.n T tmps) (hn : tmps.size = nt) (hH : HRel S H ρ w) :
    ∀ {rs : List ResultVar} {as : List ARes} {vs : List AV}, compRes S.C.P nt rs = some as → evResL T H as = some vs →
      ∃ us, (rs.mapM (resOne tmps)).run S.C.P w = .ok us w ∧ All2 (VRel S ρ H.n) vs us
  | [], as, vs, hc, he => by
    simp [compRes] at hc; subst hc
    simp [evResL] at he; subst he
    exact ⟨[], by simp, All2.nil⟩
  | r :: rs, as, vs, hc, he => by
    have look : ∀ t, t < nt → VRel S ρ H.n (T t) (tmps.getD t undef) := fun t ht => by
      refine hT t _ ?_
      rw [Array.getD_eq_getD_getElem?, Array.getElem?_eq_getElem (by omega : t < tmps.size)]; rfl
    cases r with
    | tmp t =>
      simp only [compRes] at hc
      split at hc
      · rename_i l hl
        by_cases ht : t < nt
        · rw [if_pos ht] at hc
          simp only [Option.some.injEq] at hc; subst hc
          simp only [evResL, evRes1] at he
          split at he
          · rename_i v vs' hv hvs
            simp only [Option.some.injEq] at he hv; subst he; subst hv
            obtain ⟨us, h1, h2⟩ := resL_run hT hn hH hl hvs
            exact ⟨_ :: us, by simp only [List.mapM_cons, resOne, Sem.run_bind, Sem.run_pure, Result.andThen_ok, h1], All2.cons (look t ht) h2⟩
          · cases he
        · rw [if_neg ht] at hc; cases hc
      · cases hc
    | cell ad t =>
      simp only [compRes] at hc
      split at hc
      · rename_i l g n hl hg hsz
        by_cases ht : ad < nt
        · rw [if_pos ht] at hc
          simp only [Option.some.injEq] at hc; subst hc
          simp only [evResL, evRes1] at he
          split at he
          · rename_i v vs' hv hvs
            simp only [Option.some.injEq] at he; subst he
            split at hv
            · rename_i b i j hTa
              have hl2 := look ad ht
              rw [hTa] at hl2
              obtain ⟨hb, had⟩ := hl2.one
              obtain ⟨u, hu, hru⟩ := load_ok (P := S.C.P) hg hsz hH hb hv
              obtain ⟨us, h1, h2⟩ := resL_run hT hn hH hl hvs
              refine ⟨u :: us, ?_, All2.cons hru h2⟩
              simp only [List.mapM_cons, resOne, Sem.run_bind, Sem.run_pure, Result.andThen_ok, had, asAddr, hu, h1]
            · cases hv
          · cases he
        · rw [if_neg ht] at hc; cases hc
      · cases hc

theorem res_run {H : Heap} {ρ : Rho} {w : World} {nt : Nat} {T : Tm} {tmps : Array Value} {fn : Func} {as : List ARes} {v : AV} (hT : TRel S ρ H.n T tmps) (hn : tmps.size = nt) (hH : HRel S H ρ w)
    (hc : compRes S.C.P nt fn.results.toList = some as) (he : evRes T H as = some v) : ∃ u, (results fn tmps).run S.C.P w = .ok u w ∧ VRel S ρ H.n v u := by
  unfold evRes at he
  have core : ∀ {vs : List AV}, evResL T H as = some vs → ∃ us : List Value, (results fn tmps).run S.C.P w = .ok (if h : us.toArray.size = 1 then us.toArray[0] else .tuple us.toArray) w ∧ All2 (VRel S ρ H.n) vs us := by
    intro vs hvs
    obtain ⟨us, h1, h2⟩ := resL_run hT hn hH hc hvs
    refine ⟨us, ?_, h2⟩
    rw [results_eq, Array.mapM_eq_mapM_toList]
    simp only [Sem.run_bind, Sem.run_map]
    rw [h1]
    simp [Sem.run_pure]
  split at he
  · rename_i x hvs
    simp only [Option.some.injEq] at he; subst he
    obtain ⟨us, h1, h2⟩ := core hvs
    obtain ⟨u, us', rfl, hu, ht⟩ := h2.cons_inv
    obtain rfl := ht.nil_inv
    exact ⟨u, by simpa using h1, hu⟩
  · rename_i vs hnot hvs
    split at he
    · rename_i hall
      simp only [Option.some.injEq] at he; subst he
      obtain ⟨us, h1, h2⟩ := core hvs
      have hne : us.length ≠ 1 := by
        intro hl
        rw [← h2.1] at hl
        obtain ⟨x, hx⟩ := List.length_eq_one_iff.1 hl
        exact hnot x (by rw [hx])
      refine ⟨.tuple us.toArray, by simpa [hne] using h1, .inr ⟨us.toArray, rfl, h2.1, fun i x y hx hy => ?_⟩⟩
      have hr := h2.2 i x y hx (by simpa using hy)
      have hx' : x.isVal = true := List.all_eq_true.1 hall x (List.mem_of_getElem? hx)
      cases x with
      | one x => exact hr
      | agg cs => exact hr
      | tup vs => cases hx'
    · cases he
  · cases he

/-! ### Leaving -/
theorem leaves_ok {H : Heap} {ρ : Rho} {z : Nat} (hz : ∀ k ob, S.fx k = some ob → k < z) {fn : Func} {tmps : Array Value} {R : Ending → World → Prop} : ∀ (ds : List Deferred) (w : World), HRel S H ρ w → DOk H ρ w z ds →
    (∀ w', HRel S H ρ w' → w'.heap.size = w.heap.size → w'.os = w.os → w'.tape = w.tape → w'.output = w.output → (∀ k, (k < z ∨ ¬ NotImg H ρ k) → w'.heap[k]? = w.heap[k]?) → ∃ v, (results fn tmps).run S.C.P w' = .ok v w' ∧ R (.returned v) w') →
    LeavesInM Fence.wide 0 S.C.P fn tmps R ds .returning w := by
  intro ds
  induction ds with
  | nil =>
    intro w hH _ h
    obtain ⟨v, h1, h2⟩ := h w hH rfl rfl rfl rfl fun _ _ => rfl
    exact ⟨v, h1, h2⟩
  | cons d ds ih =>
    intro w hH hd h
    obtain ⟨D, h1, h2, h3, h4⟩ := hd.2 d (by simp)
    have hp := List.pairwise_cons.1 hd.1
    refine ⟨by simp, .inl ⟨D, { w with heap := w.heap.setIfInBounds D (.deferred none) }, by rw [h1], ?_, ?_⟩⟩
    · simp [Instr.takeDeferred, getObj, setObj, Sem.run, h3]
    · refine ih _ (hH.shut h3 (by cases hfx : S.fx D with | none => rfl | some ob => have := hz D ob hfx; omega)) ⟨hp.2, fun e he => ?_⟩ fun w' hw hsz hos htp hout hk => ?_
      · obtain ⟨E, e1, e2, e3, e4⟩ := hd.2 e (by simp [he])
        refine ⟨E, e1, e2, ?_, e4⟩
        have hne : D ≠ E := hp.1 e he D E (by rw [h1]) (by rw [e1])
        show (w.heap.setIfInBounds D _)[E]? = _
        rw [Array.getElem?_setIfInBounds_ne hne]
        exact e3
      · refine h w' hw (by rw [hsz]; simp) hos htp hout fun k hk' => ?_
        rw [hk k hk']
        show (w.heap.setIfInBounds D _)[k]? = _
        rw [Array.getElem?_setIfInBounds_ne ?_]
        rintro rfl
        rcases hk' with h | h
        · omega
        · exact h h4

/-! ### Arguments -/
theorem args_rel {ρ : Rho} {n : Nat} : ∀ {xs : List AV} {vs : List Value}, All2 (VRel S ρ n) xs vs → ∀ m, TRel S ρ n (args0 xs) (vs.toArray ++ Array.replicate m undef)
  | [], vs, h, m => by
    obtain rfl := h.nil_inv
    intro k v hk
    have : v = undef := by
      have h1 : (#[] ++ Array.replicate m undef : Array Value)[k]? = some v := hk
      rw [Array.empty_append, Array.getElem?_replicate] at h1
      split at h1
      · exact (Option.some.inj h1).symm
      · cases h1
    subst this
    exact und_rel
  | x :: xs, vs, h, m => by
    obtain ⟨u, us, rfl, hu, ht⟩ := h.cons_inv
    intro k v hk
    cases k with
    | zero =>
      have : v = u := by
        rw [← Array.getElem?_toList] at hk
        simpa using hk.symm
      subst this
      exact hu
    | succ k =>
      refine args_rel ht m k v ?_
      rw [← Array.getElem?_toList] at hk ⊢
      simpa using hk

theorem setPs_rel {ρ : Rho} {n : Nat} : ∀ {ps : List Nat} {xs : List AV} {vs : List Value} {T : Tm} {tmps : Array Value}, TRel S ρ n T tmps → All2 (VRel S ρ n) xs vs → xs.length = ps.length →
    TRel S ρ n (setPs T ps xs) ((ps.zip vs).foldl (fun tmps (p : Nat × Value) => tmps.setIfInBounds p.1 p.2) tmps) ∧ ((ps.zip vs).foldl (fun tmps (p : Nat × Value) => tmps.setIfInBounds p.1 p.2) tmps).size = tmps.size
  | [], xs, vs, T, tmps, hT, hx, hl => by
    have : xs = [] := List.eq_nil_of_length_eq_zero (by simpa using hl)
    subst this
    exact ⟨hT, rfl⟩
  | p :: ps, xs, vs, T, tmps, hT, hx, hl => by
    cases xs with
    | nil => simp at hl
    | cons x xs =>
      obtain ⟨u, us, rfl, hu, ht⟩ := hx.cons_inv
      have := setPs_rel (ps := ps) (hT.put (d := p) hu) ht (by simpa using hl)
      simpa [setPs] using this
end
end Go.EA
