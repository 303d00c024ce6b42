/- '==' that is no number's or text's; conversions; loads, stores, addresses: what the abstract operation answers, the model's does. Conditions: none. -/
import Derived.Test.YtngcpifknomecaaDoorEOps1
import Derived.Laws.StructEq
set_option linter.unusedVariables false
set_option linter.unusedSimpArgs false
namespace Go.EA
section
variable {S : SC} {H : Heap} {ρ : Rho} {w : World}

theorem und_run {P : Program} {t : TypeId} {d : TypeDesc} (h : P.underlying t = some d) : (underlying t).run P w = .ok d w := by
  unfold underlying
  simp [h]
theorem info_run {P : Program} {t : TypeId} {i : TypeInfo} (h : P.info? t = some i) : (typeInfo t).run P w = .ok i w := by
  unfold typeInfo
  simp [h]
theorem size_run {P : Program} {t : TypeId} {n : Nat} (h : sizeT P t = some n) : (sizeOf t).run P w = .ok n w := by
  unfold sizeT at h
  obtain ⟨i, hi, rfl⟩ := Option.map_eq_some_iff.1 h
  unfold sizeOf
  simp [info_run hi]
theorem agg_run {P : Program} {t : TypeId} {g : Bool} (h : isAggT P t = some g) : (isAgg t).run P w = .ok g w := by
  unfold isAggT at h
  unfold isAgg
  split at h <;> rename_i hd <;> simp at h
  · subst h; simp [und_run hd]
  · subst h; simp [und_run hd]
  · subst h
    rename_i d h1 h2
    simp [und_run hd]
theorem zero_run {P : Program} {t : TypeId} {z : List Lf} (h : zeroT P t = some z) : ∃ v, (zeroValue t).run P w = .ok v w ∧ compCells v.cells.toList = some z := by
  unfold zeroT at h
  split at h
  · rename_i i hi
    split at h
    · rename_i v hv
      refine ⟨v, ?_, h⟩
      unfold zeroValue
      simp [info_run hi, hv]
    · cases h
  · cases h

/-! ### '==' -/
theorem eqNil_run {P : Program} {t : TypeId} {k : EqK} (hk : eqKind P t = some k) {n : Nat} {x y : Lf} {v u : Value} (h1 : LRel S ρ n x v) (h2 : LRel S ρ n y u) {r : Bool} (h : eqNil k x y = some r) :
    (Op.equal t v u).run P w = .ok r w ∧ (∀ k' m, v ≠ .int k' m) ∧ (∀ s, v ≠ .string s) ∧ (∀ fk b, v ≠ .float fk b) ∧ (∀ fk b c, v ≠ .complex fk b c) ∧ v ≠ .nilIface ∧ (∀ c, v ≠ .agg c) := by
  have hu : ∃ d, P.underlying t = some d ∧ (k = .bool → d = .bool) ∧ (k = .ptr → ∃ e, d = .pointer e) ∧ (k = .slc → ∃ e, d = .slice e) ∧ (k = .fnc → ∃ a b c, d = .func a b c) ∧ (k = .map → ∃ a b, d = .map a b) := by
    unfold eqKind at hk
    split at hk <;> rename_i hd <;> simp at hk
    all_goals first
      | (subst hk; exact ⟨_, hd, by simp, by simp, by simp, by simp, by simp⟩)
      | skip
    obtain ⟨m, hm, rfl⟩ := hk
    unfold flatT at hm
    split at hm
    · rename_i fs hf; exact ⟨_, hf, by simp, by simp, by simp, by simp, by simp⟩
    · cases hm
  obtain ⟨d, hd, hb, hp, hs, hf, hm⟩ := hu
  have key : ∀ (dep : Nat), (Op.equalIn (dep + 1) t v u).run P w = .ok r w ∧ (∀ k' m, v ≠ .int k' m) ∧ (∀ s, v ≠ .string s) ∧ (∀ fk b, v ≠ .float fk b) ∧ (∀ fk b c, v ≠ .complex fk b c) ∧ v ≠ .nilIface ∧ (∀ c, v ≠ .agg c) := by
    intro dep
    unfold eqNil at h
    split at h <;> simp at h <;> subst h
    all_goals simp only [LRel] at h1 h2
    case h_1 => obtain ⟨e, rfl⟩ := hp rfl; subst h1 h2; simp [Op.equalIn, und_run hd]
    case h_2 => obtain ⟨e, rfl⟩ := hp rfl; obtain ⟨_, rfl⟩ := h1; subst h2; simp [Op.equalIn, und_run hd]
    case h_3 => obtain ⟨e, rfl⟩ := hp rfl; obtain ⟨_, rfl⟩ := h2; subst h1; simp [Op.equalIn, und_run hd]
    case h_4 => obtain ⟨e, rfl⟩ := hs rfl; subst h1 h2; simp [Op.equalIn, und_run hd]
    case h_5 => obtain ⟨e, rfl⟩ := hs rfl; obtain ⟨_, a, c, rfl, _⟩ := h1; subst h2; simp [Op.equalIn, und_run hd]
    case h_6 => obtain ⟨e, rfl⟩ := hs rfl; obtain ⟨_, a, c, rfl, _⟩ := h2; subst h1; simp [Op.equalIn, und_run hd]
    case h_7 => obtain ⟨e, rfl⟩ := hs rfl; simp only [CRel] at h1; obtain ⟨a, c, rfl, _, h3⟩ := h1; subst h2; rcases h3 with h3 | ⟨g, o, C, ty, fr, rfl, _⟩; cases h3; simp [Op.equalIn, und_run hd]
    case h_8 => obtain ⟨e, rfl⟩ := hs rfl; simp only [CRel] at h2; obtain ⟨a, c, rfl, _, h3⟩ := h2; subst h1; rcases h3 with h3 | ⟨g, o, C, ty, fr, rfl, _⟩; cases h3; simp [Op.equalIn, und_run hd]
    case h_9 => obtain ⟨e, rfl⟩ := hp rfl; simp only [CRel] at h1; obtain ⟨g, o, C, ty, fr, rfl, _⟩ := h1; subst h2; simp [Op.equalIn, und_run hd]
    case h_10 => obtain ⟨e, rfl⟩ := hp rfl; simp only [CRel] at h2; obtain ⟨g, o, C, ty, fr, rfl, _⟩ := h2; subst h1; simp [Op.equalIn, und_run hd]
    case h_11 => obtain ⟨a, b, c, rfl⟩ := hf rfl; subst h1 h2; simp [Op.equalIn, und_run hd]
    case h_12 => obtain ⟨a, b, c, rfl⟩ := hf rfl; obtain ⟨_, rfl⟩ := h1; subst h2; simp [Op.equalIn, und_run hd]
    case h_13 => obtain ⟨a, b, c, rfl⟩ := hf rfl; obtain ⟨_, rfl⟩ := h2; subst h1; simp [Op.equalIn, und_run hd]
    case h_14 => obtain ⟨a, b, rfl⟩ := hm rfl; subst h1 h2; simp [Op.equalIn, und_run hd]
    case h_15 => obtain ⟨a, b, rfl⟩ := hm rfl; obtain ⟨_, rfl⟩ := h1; subst h2; simp [Op.equalIn, und_run hd]
    case h_16 => obtain ⟨a, b, rfl⟩ := hm rfl; obtain ⟨_, rfl⟩ := h2; subst h1; simp [Op.equalIn, und_run hd]
    case h_17 => obtain rfl := hb rfl; subst h1 h2; simp [Op.equalIn, und_run hd, BEq.beq]
  exact key 9999

theorem pk_run {P : Program} {t : TypeId} {k : PK} (hk : pkT P t = some k) {n : Nat} {x y : Lf} {ks : List PK} {xs ys : List Lf} {v u : Value} (h1 : LRel S ρ n x v) (h2 : LRel S ρ n y u)
    (ox : okCells (k :: ks) (x :: xs) = true) (oy : okCells (k :: ks) (y :: ys) = true) (d : Nat) :
    (Op.equalIn (d + 1) t v u).run P w = .ok (Lf.same x y) w ∧ okCells ks xs = true ∧ okCells ks ys = true ∧ isAggT P t = some false := by
  unfold pkT at hk
  split at hk <;> rename_i hd <;> simp at hk <;> subst hk
  · cases x <;> simp [okCells] at ox
    cases y <;> simp [okCells] at oy
    simp only [LRel] at h1 h2
    subst h1 h2
    refine ⟨?_, ox, oy, by simp [isAggT, hd]⟩
    simp [Op.equalIn, und_run hd, BEq.beq, Lf.same]
  · cases x <;> simp [okCells] at ox
    cases y <;> simp [okCells] at oy
    simp only [LRel] at h1 h2
    subst h1 h2
    obtain ⟨rfl, ox⟩ := ox
    obtain ⟨rfl, oy⟩ := oy
    refine ⟨?_, ox, oy, by simp [isAggT, hd]⟩
    simp [Op.equalIn, und_run hd, BEq.beq, Lf.same]
  · cases x <;> simp [okCells] at ox
    cases y <;> simp [okCells] at oy
    simp only [LRel] at h1 h2
    subst h1 h2
    refine ⟨?_, ox, oy, by simp [isAggT, hd]⟩
    rename_i a b
    rw [run_equalIn_string w d t _ _ hd, toList_mk, toList_mk, lbeq]
    simp [Lf.same]

theorem part_run {P : Program} {t : TypeId} (ht : isAggT P t = some false) (cs : Array Value) (j : Nat) (v : Value) (h : cs[j]? = some v) : (part t cs j).run P w = .ok v w := by
  unfold part
  simp [agg_run ht, h]

theorem eqFields_run {P : Program} (d n : Nat) (X Y : Array Value) : ∀ (fs : List Field) (j : Nat) (ks : List PK) (xs ys : List Lf), flatF P j fs = some ks → okCells ks xs = true → okCells ks ys = true →
    (∀ i x, xs[i]? = some x → ∃ v, X[j + i]? = some v ∧ LRel S ρ n x v) → (∀ i x, ys[i]? = some x → ∃ v, Y[j + i]? = some v ∧ LRel S ρ n x v) →
    (Op.eqFields (d + 1) X Y fs).run P w = .ok (sameL xs ys) w := by
  intro fs
  induction fs with
  | nil =>
    intro j ks xs ys hf ox oy _ _
    simp [flatF] at hf
    subst hf
    cases xs <;> simp [okCells] at ox
    cases ys <;> simp [okCells] at oy
    simp [Op.eqFields, sameL]
  | cons f fs ih =>
    intro j ks xs ys hf ox oy hX hY
    simp only [flatF] at hf
    split at hf
    · rename_i k l hk hl
      split at hf
      · rename_i hc
        simp at hf; subst hf
        cases xs with
        | nil => cases k <;> simp [okCells] at ox
        | cons x xs =>
          cases ys with
          | nil => cases k <;> simp [okCells] at oy
          | cons y ys =>
            obtain ⟨v, hv, hv2⟩ := hX 0 x rfl
            obtain ⟨u, hu, hu2⟩ := hY 0 y rfl
            obtain ⟨he, ox', oy', ha⟩ := pk_run (w := w) hk hv2 hu2 ox oy d
            have hr := ih (j + 1) l xs ys hl ox' oy' (fun i z hz => by have := hX (i + 1) z (by simpa using hz); rwa [show j + (i + 1) = j + 1 + i by omega] at this)
              (fun i z hz => by have := hY (i + 1) z (by simpa using hz); rwa [show j + (i + 1) = j + 1 + i by omega] at this)
            rw [Op.eqFields]
            rw [if_pos hc.2]
            simp only [Sem.run_bind]
            rw [hc.1, part_run ha X j v (by simpa using hv)]
            simp only [Result.andThen_ok]
            rw [part_run ha Y j u (by simpa using hu)]
            simp only [Result.andThen_ok, he, Sem.run_bind]
            cases hxy : Lf.same x y
            · simp [sameL, hxy]
            · simp [sameL, hxy, hr]
      · cases hf
    · cases hf

theorem eq_run {P : Program} {t : TypeId} {k : EqK} (hk : eqKind P t = some k) {n : Nat} {x y v : AV} {a b : Value} (h1 : VRel S ρ n x a) (h2 : VRel S ρ n y b) {neg : Bool} (h : evEq k neg x y = some v)
    (ox oy : Operand) (op : BinOp) (hop : op = .eql ∨ op = .neq) (hneg : neg = decide (op = .neq)) :
    Ans S w P (do eqGuard op t ox oy a b; binOp op t a b) v := by
  unfold evEq at h
  split at h
  · rename_i ks xs ys
    split at h
    · rename_i hok
      simp only [Bool.and_eq_true] at hok
      obtain ⟨X, rfl, hX⟩ := h1.agg
      obtain ⟨Y, rfl, hY⟩ := h2.agg
      simp at h
      subst h
      have hfl : flatT P t = some ks := by
        unfold eqKind at hk
        split at hk <;> simp at hk
        exact hk
      unfold flatT at hfl
      split at hfl
      · rename_i fs hd
        split at hfl
        · rename_i hg
          have hF : P.fieldsOf t = fs := by simp [Program.fieldsOf, hd]
          have he : (Op.equalIn 10000 t (.agg X) (.agg Y)).run P w = .ok (sameL xs ys) w := by
            rw [run_equalIn_struct w 9999 t X Y (by rw [hF]; exact hd) hg.1, hF]
            exact eqFields_run 9998 n X Y fs.toList 0 ks xs ys hfl hok.1 hok.2 (fun i z hz => by obtain ⟨v, hv, hr⟩ := hX.get hz; exact ⟨v, by simpa using hv, hr⟩) (fun i z hz => by obtain ⟨v, hv, hr⟩ := hY.get hz; exact ⟨v, by simpa using hv, hr⟩)
          refine ⟨_, .bool (if neg then !sameL xs ys else sameL xs ys), rfl, ?_, fun _ _ => ?_⟩
          · rw [Sem.run_bind, run_eqGuard_agg w op t ox oy X Y hg.2]
            simp only [Result.andThen_ok]
            rcases hop with rfl | rfl
            · rw [run_eql_struct, he]; simp [hneg]
            · rw [run_neq_struct, he]; simp [hneg]
          · cases neg <;> simp [LRel]
        · cases hfl
      · cases hfl
    · cases h
  · rename_i k' x' y'
    simp only [Option.map_eq_some_iff] at h
    obtain ⟨r, hr, rfl⟩ := h
    obtain ⟨he, h3, h4, h5, h6, h7, h8⟩ := eqNil_run (w := w) hk h1.one h2.one hr
    refine ⟨_, .bool (if neg then !r else r), rfl, ?_, fun _ _ => rfl⟩
    have hg : (eqGuard op t ox oy a b).run P w = .ok () w := by
      unfold eqGuard
      rcases hop with rfl | rfl <;> (cases a <;> simp_all)
    rw [Sem.run_bind, hg]
    simp only [Result.andThen_ok]
    rcases hop with rfl | rfl
    · have : binOp .eql t a b = (do pure (.bool (← Op.equal t a b))) := by
        unfold binOp
        cases a <;> first | rfl | (exfalso; simp_all; done) | (cases b <;> first | rfl | (simp_all; done))
      rw [this, Sem.run_bind, he]; simp [hneg]
    · have : binOp .neq t a b = (do pure (.bool (!(← Op.equal t a b)))) := by
        unfold binOp
        cases a <;> first | rfl | (exfalso; simp_all; done) | (cases b <;> first | rfl | (simp_all; done))
      rw [this, Sem.run_bind, he]; simp [hneg]
  · cases h
end
end Go.EA
