/- Regions: the operations one behind the other, calls included. Conditions: none. -/
import Derived.Test.YtngcpifknomecaaDoorEOps12
import Derived.RangeFuncLeaves
import Derived.LoopNIn
import Derived.RangeFuncCalls
set_option linter.unusedVariables false
set_option linter.unusedSimpArgs false
namespace Go.EA

/-- A fence that lets everything in, perhaps within a round. -/
def WideF (F : Fence) : Prop := F = Fence.wide ∨ ∃ l, F = Fence.wide.inRound l
theorem WideF.fn {F : Fence} (h : WideF F) (f : FuncId) : F.fn f := by rcases h with rfl | ⟨l, rfl⟩ <;> trivial
theorem WideF.depth {F : Fence} (h : WideF F) : F.depth = none := by rcases h with rfl | ⟨l, rfl⟩ <;> rfl

/-- The marks that ranges over functions have left on an activation. -/
def DOk (H : Heap) (ρ : Rho) (w : World) (z : Nat) (ds : List Deferred) : Prop :=
  ds.Pairwise (fun d e => ∀ D E, d.target = .collected D → e.target = .collected E → D ≠ E) ∧
  ∀ d ∈ ds, ∃ D, d = { target := .collected D, args := #[] } ∧ z ≤ D ∧ w.heap[D]? = some (.deferred (some [])) ∧ NotImg H ρ D

theorem DOk.nil {H : Heap} {ρ : Rho} {w : World} {z : Nat} : DOk H ρ w z [] := ⟨List.Pairwise.nil, by simp⟩
theorem DOk.frm {m : Nat} {H H' : Heap} {ρ ρ' : Rho} {w w' : World} {z : Nat} {ds : List Deferred} (h : DOk H ρ w z ds) (f : FrmB m H ρ w H' ρ' w') : DOk H' ρ' w' z ds :=
  ⟨h.1, fun d hd => let ⟨D, h1, h2, h3, h4⟩ := h.2 d hd; let k := f.keep D (Array.getElem?_eq_some_iff.1 h3).1 h4; ⟨D, h1, h2, k.1.trans h3, k.2⟩⟩
theorem DOk.app {m : Nat} {H H' : Heap} {ρ ρ' : Rho} {w w' : World} {z : Nat} {ds es : List Deferred} (h : DOk H ρ w z ds) (f : FrmB m H ρ w H' ρ' w') (hz : z ≤ w.heap.size) (h' : DOk H' ρ' w' w.heap.size es) : DOk H' ρ' w' z (es ++ ds) := by
  have hf := h.frm f
  refine ⟨List.pairwise_append.2 ⟨h'.1, h.1, fun d hd e he D E h1 h2 => ?_⟩, fun d hd => ?_⟩
  · obtain ⟨D', hd1, hd2, _⟩ := h'.2 d hd
    obtain ⟨E', he1, _, he3, _⟩ := h.2 e he
    rw [hd1] at h1; rw [he1] at h2
    cases h1; cases h2
    have := (Array.getElem?_eq_some_iff.1 he3).1
    omega
  · rcases List.mem_append.1 hd with h1 | h1
    · obtain ⟨D, a, b, c, d⟩ := h'.2 d h1
      exact ⟨D, a, by omega, c, d⟩
    · exact hf.2 d h1

/-- What a call leaves. -/
def RetOk (S : SC) (H : Heap) (ρ : Rho) (w : World) (v : AV) (H' : Heap) : Ending → World → Prop :=
  fun e w' => ∃ u ρ', e = .returned u ∧ HRel S H' ρ' w' ∧ Frm H ρ w H' ρ' w' ∧ VRel S ρ' H'.n v u

/-- What 'invoke' must bring. -/
def InvOk (S : SC) (H : Heap) (ρ : Rho) (w : World) (v : AV) (H' : Heap) (r : Result Next) : Prop :=
  (∃ u w', r = .ok (.value u) w' ∧ RetOk S H ρ w v H' (.returned u) w') ∨
  (∃ f args w1 ρ1, r = .ok (.enter f args) w1 ∧ w1 = w ∧ ρ1 = ρ ∧ CallsIn Fence.wide 0 S.C.P f args w (RetOk S H ρ w v H')) ∨
  (∃ l f tmps as bd, r = .ok (.round l f tmps as bd) w ∧ RoundIn Fence.wide 0 S.C.P l f tmps as bd w (RetOk S H ρ w v H'))

/-- A call of a function value, as the abstract evaluation makes it. -/
def CallOk (S : SC) (call : AV → List AV → Heap → Option (AV × Heap)) : Prop :=
  ∀ fv xs H v H', call fv xs H = some (v, H') → ∀ ρ w fval vs, VRel S ρ H.n fv fval → All2 (VRel S ρ H.n) xs vs → HRel S H ρ w →
    ∃ d, (Deferred.ofValue fval vs.toArray).run S.C.P w = .ok d w ∧ InvOk S H ρ w v H' ((invoke d.target d.args).run S.C.P w)

/-- What code leaves; the first m objects keep their numbers. -/
def PostB (S : SC) (m : Nat) (H : Heap) (ρ : Rho) (w : World) (a : Act) (ex : Ex) (T' : Tm) (H' : Heap) (e : Exit) (a' : Act) (w' : World) : Prop :=
  (match ex with | .normal => e = .normal | .exit id => e = .exit id | .ret => e = .ret) ∧
  ∃ ρ' ds, TRel S ρ' H'.n T' a'.tmps ∧ a'.tmps.size = a.tmps.size ∧ HRel S H' ρ' w' ∧ FrmB m H ρ w H' ρ' w' ∧ a'.defers = ds ++ a.defers ∧ DOk H' ρ' w' w.heap.size ds
abbrev Post (S : SC) (H : Heap) (ρ : Rho) (w : World) (a : Act) (ex : Ex) (T' : Tm) (H' : Heap) (e : Exit) (a' : Act) (w' : World) : Prop := PostB S H.n H ρ w a ex T' H' e a' w'

theorem PostB.refl {S : SC} {m : Nat} {H : Heap} {ρ : Rho} {w : World} {a : Act} {T : Tm} (hm : m ≤ H.n) (hT : TRel S ρ H.n T a.tmps) (hH : HRel S H ρ w) (ex : Ex) : PostB S m H ρ w a ex T H (match ex with | .normal => .normal | .exit id => .exit id | .ret => .ret) a w :=
  ⟨by cases ex <;> rfl, ρ, [], hT, rfl, hH, (Frm.refl _ _ _).weak hm, rfl, DOk.nil⟩
theorem Post.refl {S : SC} {H : Heap} {ρ : Rho} {w : World} {a : Act} {T : Tm} (hT : TRel S ρ H.n T a.tmps) (hH : HRel S H ρ w) (ex : Ex) : Post S H ρ w a ex T H (match ex with | .normal => .normal | .exit id => .exit id | .ret => .ret) a w :=
  PostB.refl (Nat.le_refl _) hT hH ex

theorem PostB.transB {S : SC} {m m' : Nat} {H H1 H2 : Heap} {ρ ρ1 : Rho} {w w1 w2 : World} {a a1 a2 : Act} {ex : Ex} {T2 : Tm} {e : Exit} {ds : List Deferred}
    (hm : m ≤ m') (hs : a1.tmps.size = a.tmps.size) (f : FrmB m H ρ w H1 ρ1 w1) (hd : a1.defers = ds ++ a.defers) (hok : DOk H1 ρ1 w1 w.heap.size ds) (h : PostB S m' H1 ρ1 w1 a1 ex T2 H2 e a2 w2) : PostB S m H ρ w a ex T2 H2 e a2 w2 := by
  obtain ⟨h0, ρ2, es, h1, h2, h3, h4, h5, h6⟩ := h
  exact ⟨h0, ρ2, es ++ ds, h1, h2.trans hs, h3, f.transB h4 hm, by rw [h5, hd, List.append_assoc], hok.app h4 f.sz h6⟩
theorem PostB.trans {S : SC} {H H1 H2 : Heap} {ρ ρ1 : Rho} {w w1 w2 : World} {a a1 a2 : Act} {ex : Ex} {T2 : Tm} {e : Exit} {ds : List Deferred}
    (hs : a1.tmps.size = a.tmps.size) (f : Frm H ρ w H1 ρ1 w1) (hd : a1.defers = ds ++ a.defers) (hok : DOk H1 ρ1 w1 w.heap.size ds) (h : Post S H1 ρ1 w1 a1 ex T2 H2 e a2 w2) : Post S H ρ w a ex T2 H2 e a2 w2 :=
  PostB.transB f.nn hs f hd hok h

section
variable {S : SC}

theorem compIs_get {nt : Nat} {ops : Array Oper} : ∀ {l : List Oper} {ais : List AI}, compIs S.C nt ops l = some ais → ∀ i : Nat, (∀ o, l[i]? = some o → ∃ ai, ais[i]? = some ai ∧ compI S.C nt ops o = some ai) ∧ (l[i]? = none → ais[i]? = none)
  | [], ais, h, i => by simp [compIs] at h; subst h; simp
  | o :: r, ais, h, i => by
    simp only [compIs] at h
    split at h
    · rename_i ai l' h1 h2
      simp at h; subst h
      cases i with
      | zero => exact ⟨fun o' ho => by simp at ho; subst ho; exact ⟨ai, rfl, h1⟩, by simp⟩
      | succ i => simpa using compIs_get h2 i
    · cases h

theorem wanted_rel {nt : Nat} {ops : Array Oper} {o : Oper} {g : Option (Nat × Bool)} {ρ : Rho} {n : Nat} {T : Tm} {tmps : Array Value} (hkn : known T g = true) (h : compGuard ops nt o.guard = some g) (hT : TRel S ρ n T tmps) (hsz : tmps.size = nt) :
    Region.wanted o (yielded ops tmps) = wanted T g := by
  unfold compGuard at h
  unfold Region.wanted
  split at h
  · rename_i hg
    simp only [Option.some.injEq] at h; subst h
    simp [hg, wanted]
  · rename_i j b hg
    split at h
    · rename_i d hd
      by_cases hlt : d < nt
      · rw [if_pos hlt] at h
        simp only [Option.some.injEq] at h; subst h
        simp only [hg, wanted, yielded, hd, Option.bind_some]
        have hlt' : d < tmps.size := by rw [hsz]; exact hlt
        rw [Array.getElem?_eq_getElem hlt']
        have hr := hT d _ (Array.getElem?_eq_getElem hlt')
        generalize tmps[d] = v at hr
        cases hTd : T d with
        | one x =>
          rw [hTd] at hr
          have hr := hr.one
          cases x <;> simp only [LRel] at hr
          case bool y => subst hr; cases y <;> cases b <;> rfl
          case int k m => subst hr; rfl
          case str s => subst hr; rfl
          case ptr => obtain ⟨_, rfl⟩ := hr; rfl
          case nilp => subst hr; rfl
          case sl => obtain ⟨_, _, _, rfl, _⟩ := hr; rfl
          case slz => obtain ⟨_, rfl⟩ := hr; rfl
          case nils => subst hr; rfl
          case fn => obtain ⟨_, rfl⟩ := hr; rfl
          case yld => obtain ⟨_, rfl⟩ := hr; rfl
          case nilf => subst hr; rfl
          case mp => obtain ⟨_, rfl⟩ := hr; rfl
          case nilm => subst hr; rfl
          case nili => subst hr; rfl
          case vrow => simp only [CRel] at hr; obtain ⟨_, _, rfl, _⟩ := hr; rfl
          case vptr => simp only [CRel] at hr; obtain ⟨_, _, _, _, _, rfl, _⟩ := hr; rfl
        | agg cs => rw [hTd] at hr; obtain ⟨arr, rfl, _⟩ := hr; rfl
        | tup vs =>
          rw [hTd] at hr
          have hj : (AV.tup vs).isJ = false := by simpa [known, hTd] using hkn
          obtain ⟨arr, rfl, _⟩ := VRel.tup hj hr; rfl
      · rw [if_neg hlt] at h; cases h
    · cases h

def opsAt (ais : List AI) (l : List Nat) : List AI := l.filterMap (ais[·]?)

theorem putT_rel {ρ : Rho} {n : Nat} {T : Tm} {a : Act} {d : Option Nat} {v : AV} {u : Value} (hT : TRel S ρ n T a.tmps) (hv : VRel S ρ n v u) : TRel S ρ n (putT T d v) (a.put d u).tmps := by
  cases d with
  | none => exact hT
  | some d => exact hT.put hv
theorem put_size (a : Act) (d : Option Nat) (u : Value) : (a.put d u).tmps.size = a.tmps.size ∧ (a.put d u).defers = a.defers := by
  cases d <;> simp [Act.put]

theorem compI_parts {nt : Nat} {ops : Array Oper} {o : Oper} {ai : AI} (h : compI S.C nt ops o = some ai) : ai.dst = o.dst ∧ compOp S.C nt o = some ai.op ∧ compGuard ops nt o.guard = some ai.gd := by
  unfold compI at h
  split at h
  · rename_i _ _ _ op g h1 h2 h3
    simp only [Option.some.injEq] at h; subst h
    exact ⟨rfl, h2, h3⟩
  · cases h

theorem isCall {nt : Nat} {o : Oper} {f : Opd} {xs : List Opd} (h : compOp S.C nt o = some (.call f xs)) : ∃ c x, o.op = .call c ∧ c.callee = .value x ∧ compOpd S.C nt x = some f ∧ compOpds S.C nt c.args.toList = some xs := by
  cases ho : o.op <;> simp only [compOp, ho] at h
  case call c =>
    refine ⟨c, ?_⟩
    split at h
    · rename_i xs' hxs
      split at h
      · rename_i x hx
        obtain ⟨f', hf, he⟩ := Option.map_eq_some_iff.1 h
        cases he
        exact ⟨x, rfl, hx, hf, hxs⟩
      · exfalso
        unfold compBuiltin at h
        repeat' (split at h)
        all_goals (first | (simp at h; done) | (cases h; done))
      · cases h
    · cases h
  all_goals (exfalso; repeat' (split at h))
  all_goals (first | (simp at h; done) | (cases h; done))

/-- THE OPERATIONS OF A REGION, in whatever order. -/
theorem ops_sound {call : AV → List AV → Heap → Option (AV × Heap)} (hok : S.Ok) (hcall : CallOk S call) {nt : Nat} {ops : Array Oper} {ais : List AI} (hc : compIs S.C nt ops ops.toList = some ais) {F : Fence} (hF : WideF F) {Q : Exit → Act → World → Prop} :
    ∀ (l : List Nat) (T : Tm) (H : Heap) (T' : Tm) (H' : Heap) (ρ : Rho) (a : Act) (w : World), evOps call (opsAt ais l) T H = some (T', H') → TRel S ρ H.n T a.tmps → a.tmps.size = nt → HRel S H ρ w →
      (∀ e a' w', Post S H ρ w a .normal T' H' e a' w' → Q e a' w') → wpOpsIn F 0 S.C.P ops Q l a w := by
  intro l
  induction l with
  | nil =>
    intro T H T' H' ρ a w he hT hn hH hQ
    simp only [opsAt, List.filterMap_nil, evOps, Option.some.injEq, Prod.mk.injEq] at he
    obtain ⟨rfl, rfl⟩ := he
    exact hQ _ _ _ (Post.refl hT hH .normal)
  | cons i rest ih =>
    intro T H T' H' ρ a w he hT hn hH hQ
    obtain ⟨hsome, hnone⟩ := compIs_get hc i
    simp only [wpOpsIn]
    cases ho : ops[i]? with
    | none =>
      have h0 : ais[i]? = none := hnone (by simpa using ho)
      have : opsAt ais (i :: rest) = opsAt ais rest := by simp [opsAt, h0]
      rw [this] at he
      exact ih T H T' H' ρ a w he hT hn hH hQ
    | some o =>
      obtain ⟨ai, hai, hci⟩ := hsome o (by simpa using ho)
      have : opsAt ais (i :: rest) = ai :: opsAt ais rest := by simp [opsAt, hai]
      rw [this] at he
      obtain ⟨hdst, hop, hgd⟩ := compI_parts hci
      simp only [evOps] at he
      by_cases hkn : known T ai.gd = true
      case neg => rw [if_pos (by simpa using hkn)] at he; cases he
      rw [if_neg (by simp [hkn])] at he
      have hw := wanted_rel (S := S) hkn hgd hT hn
      simp only [hw]
      -- what follows
      have next : ∀ {v : AV} {u : Value} {H1 : Heap} {ρ1 : Rho} {w1 : World}, evOps call (opsAt ais rest) (putT T ai.dst v) H1 = some (T', H') → HRel S H1 ρ1 w1 → Frm H ρ w H1 ρ1 w1 → VRel S ρ1 H1.n v u → wpOpsIn F 0 S.C.P ops Q rest (a.put o.dst u) w1 := by
        intro v u H1 ρ1 w1 he1 hH1 hf1 hv1
        rw [hdst] at he1
        refine ih _ H1 T' H' ρ1 _ w1 he1 (putT_rel (hT.mono hf1.ext) hv1) ((put_size _ _ _).1.trans hn) hH1 fun e a' w' hp => hQ e a' w' ?_
        exact PostB.trans (ds := []) (put_size _ _ _).1 hf1 (put_size _ _ _).2 DOk.nil hp
      cases hwt : wanted T ai.gd with
      | false =>
        rw [hwt] at he
        simp only [Bool.false_eq_true, if_false] at he ⊢
        exact ⟨fun f _ => hF.fn f, next he hH (Frm.refl _ _ _) und_rel⟩
      | true =>
        rw [hwt] at he
        simp only [if_true] at he ⊢
        unfold Oper.wpIn
        refine ⟨fun f _ => hF.fn f, ?_⟩
        have hnd : ∀ c, o.op ≠ .defer c := by intro c hc; simp [compOp, hc] at hop
        rw [Oper.semAt_eq _ _ _ hnd]
        have hd0 : F.depth.isSome = true → 1 ≤ 0 := by rw [hF.depth]; simp
        cases hao : ai.op with
        | call f xs =>
          rw [hao] at he hop
          simp only at he
          split at he
          · rename_i v H1 hcv
            obtain ⟨c, x, hoc, hcal, hfx, hxs⟩ := isCall hop
            have p : Pre S H ρ w nt T a := ⟨hok, hT, hn, hH⟩
            obtain ⟨d, hd, hinv⟩ := hcall _ _ _ _ _ hcv ρ w _ _ (p.opd hfx) (p.opds hxs) hH
            have hexec : (execOp a.eval o).run S.C.P w = (invoke d.target d.args).run S.C.P w := by
              have harr : (c.args.toList.map a.eval).toArray = c.args.map a.eval := by rw [← Array.toList_inj]; simp
              rw [harr] at hd
              simp only [execOp, hoc, resolve, hcal, Sem.run_bind, hd, Result.andThen_ok]
            rw [hexec]
            rcases hinv with ⟨u, w', hr, hret⟩ | ⟨f', args, w1, ρ1, hr, rfl, rfl, hcalls⟩ | ⟨l', f', tmps, as, bd, hr, hround⟩
            · rw [hr]
              obtain ⟨u', ρ', e1, h1, h2, h3⟩ := hret
              cases e1
              exact next he h1 h2 h3
            · rw [hr]
              simp only [Oper.uponIn]
              refine ⟨hd0, ?_⟩
              have hcin : CallsIn F 0 S.C.P f' args w1 (RetOk S H ρ1 w1 v H1) := by rcases hF with rfl | ⟨l', rfl⟩; exact hcalls; exact hcalls.inRound l'
              refine hcin.mono fun e w' hret => ?_
              obtain ⟨u', ρ', rfl, h1, h2, h3⟩ := hret
              exact next he h1 h2 h3
            · rw [hr]
              simp only [Oper.uponIn]
              refine ⟨hd0, ?_⟩
              have hrin : RoundIn F 0 S.C.P l' f' tmps as bd w (RetOk S H ρ w v H1) := by rcases hF with rfl | ⟨l'', rfl⟩; exact hround; exact hround
              refine hrin.mono fun e w' hret => ?_
              obtain ⟨u', ρ', rfl, h1, h2, h3⟩ := hret
              exact next he h1 h2 h3
          · cases he
        | _ =>
          rw [hao] at he
          have he' := he
          simp only at he
          split at he
          · rename_i v H1 hev
            rw [hao] at hop
            obtain ⟨ρ', w', h1, h2, h3⟩ := op_sound ⟨hok, hT, hn, hH⟩ hop hev
            rcases h3 with ⟨u, hr, hv⟩ | ⟨hr, rfl⟩
            · rw [hr]; exact next he h1 h2 hv
            · rw [hr]; exact next he h1 h2 und_rel
          · cases he
end
end Go.EA
