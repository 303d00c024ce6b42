/- Conversions, struct values, addresses, loads and stores: what the abstract operation answers, the model's does. Conditions: none. -/
import Derived.Test.YtngcpifknomecaaDoorEOps2
set_option linter.unusedVariables false
set_option linter.unusedSimpArgs false
namespace Go.EA
section
variable {S : SC} {H : Heap} {ρ : Rho} {w : World}

theorem un_run {P : Program} {n : Nat} {op : UnOp} {x v : AV} {a : Value} (h1 : VRel S ρ n x a) (h : evUn op x = some v) : Ans S w P (Op.unary op a) v := by
  unfold evUn at h
  split at h
  · rename_i k m
    obtain rfl : a = .int k m := h1
    simp at h; subst h
    exact ⟨_, .int k (k.wrap (0 - m)), rfl, by simp [Op.unary, Op.intArith], fun _ _ => by simp [LRel]⟩
  · rename_i k m
    obtain rfl : a = .int k m := h1
    simp only [Option.map_eq_some_iff] at h
    obtain ⟨r, hr, rfl⟩ := h
    exact ⟨_, .int k r, rfl, by simp only [Op.unary]; exact bits_run P hr, fun _ _ => rfl⟩
  · rename_i b
    obtain rfl : a = .bool b := h1
    simp at h; subst h
    exact ⟨_, .bool (!b), rfl, by simp [Op.unary], fun _ _ => rfl⟩
  · cases h

theorem bin_run {P : Program} {n : Nat} {op : BinOp} {t : TypeId} {x y v : AV} {a b : Value} (ox oy : Operand) (h1 : VRel S ρ n x a) (h2 : VRel S ρ n y b) (h : evBin op x y = some v) :
    Ans S w P (do eqGuard op t ox oy a b; binOp op t a b) v := by
  have hg : ∀ k k' p q, (eqGuard op t ox oy (.int k p) (.int k' q)).run P w = .ok () w := by intros; unfold eqGuard; cases op <;> simp
  have hg2 : ∀ p q, (eqGuard op t ox oy (.string p) (.string q)).run P w = .ok () w := by intros; unfold eqGuard; cases op <;> simp
  unfold evBin at h
  split at h
  · rename_i k p k' q
    obtain rfl : a = .int k p := h1
    obtain rfl : b = .int k' q := h2
    have : ∀ {v}, Ans S w P (binOp op t (.int k p) (.int k' q)) v → Ans S w P (do eqGuard op t ox oy (.int k p) (.int k' q); binOp op t (.int k p) (.int k' q)) v := by
      rintro v ⟨z, u, rfl, hr, hl⟩
      exact ⟨z, u, rfl, by rw [Sem.run_bind, hg]; exact hr, hl⟩
    refine this ?_
    split at h
    · exact shift_run P t (.inl rfl) h
    · exact shift_run P t (.inr rfl) h
    · split at h
      · rename_i hk; subst hk; exact int_run P t h
      · cases h
  · rename_i p q
    obtain rfl : a = .string ⟨p.toArray⟩ := h1
    obtain rfl : b = .string ⟨q.toArray⟩ := h2
    obtain ⟨z, u, rfl, hr, hl⟩ := str_run (S := S) (w := w) P t h
    exact ⟨z, u, rfl, by rw [Sem.run_bind, hg2]; exact hr, hl⟩
  · cases h

theorem ans_ok {r : Result Next} {s : Sem Value} {v : AV} (hH : HRel S H ρ w) (h : Ans S w S.C.P s v) (hr : r = ((do pure (.value (← s)) : Sem Next).run S.C.P w)) : OpOk S H ρ w v H r := by
  obtain ⟨z, u, rfl, h1, h2⟩ := h
  exact OpOk.same hH (hr.trans (run_v _ _ h1)) (h2 ρ H.n)

/-! ### New rows -/
theorem cells_of {n : Nat} {els : List (List Lf)} {C : Array Value} {L : Loc} (ho : L.o = 0) (hs : ∀ e ∈ els, e.length = L.s) (hC : All2 (LRel S ρ n) els.flatten (C.toList.take els.flatten.length)) : CellsR S ρ n L els C := by
  intro k e hk
  have he := hs e (List.mem_of_getElem? hk)
  refine ⟨he, fun j x hj => ?_⟩
  have hf : ∀ (els : List (List Lf)) (k : Nat), (∀ e ∈ els, e.length = L.s) → els[k]? = some e → els.flatten[k * L.s + j]? = some x := by
    intro els
    induction els with
    | nil => intro k _ h; simp at h
    | cons d ds ih =>
      intro k hl h
      cases k with
      | zero =>
        simp at h; subst h
        rw [List.flatten_cons, Nat.zero_mul, Nat.zero_add, List.getElem?_append_left (List.getElem?_eq_some_iff.1 hj).1]
        exact hj
      | succ k =>
        simp at h
        have hd := hl d (by simp)
        rw [List.flatten_cons, List.getElem?_append_right (by rw [hd, Nat.succ_mul]; omega), hd]
        have := ih k (fun e he => hl e (by simp [he])) h
        rwa [show (k + 1) * L.s + j - L.s = k * L.s + j by rw [Nat.succ_mul]; omega]
  obtain ⟨v, hv, hr⟩ := hC.get (hf els k hs hk)
  refine ⟨v, ?_, hr⟩
  rw [ho, Nat.zero_add]
  rw [List.getElem?_take] at hv
  split at hv
  · rw [← Array.getElem?_toList]; exact hv
  · cases hv

theorem flatten_len {s : Nat} : ∀ {els : List (List Lf)}, (∀ e ∈ els, e.length = s) → els.flatten.length = els.length * s
  | [], _ => by simp
  | e :: es, h => by
    rw [List.flatten_cons, List.length_append, flatten_len (fun e he => h e (by simp [he])), h e (by simp), List.length_cons, Nat.succ_mul]; omega

/-- A new row of the call's own: its cells, perhaps with room behind. -/
theorem HRel.row (h : HRel S H ρ w) {s : Nat} {els : List (List Lf)} {C : Array Value} {ty : TypeId} (fr : Nat × Nat := (0, 0)) (hs : ∀ e ∈ els, e.length = s) (hC : All2 (LRel S ρ H.n) els.flatten (C.toList.take els.flatten.length)) (hfr : fr.2 ≤ fr.1 ∨ C.size ≤ fr.1) :
    HRel S (H.push (.blk s els true)) (ρ.put H.n ⟨w.heap.size, 0, s, C.size⟩) (w.alloc (.cells C ty fr)) ∧
    Frm H ρ w (H.push (.blk s els true)) (ρ.put H.n ⟨w.heap.size, 0, s, C.size⟩) (w.alloc (.cells C ty fr)) := by
  refine h.push rfl ⟨rfl, C, ty, fr, rfl, cells_of rfl hs (hC.mono fun _ _ h => h.mono (Ext.put ρ H.n _)), fun _ => ⟨rfl, ?_, hfr⟩⟩
  have h1 := hC.1
  rw [List.length_take, flatten_len hs] at h1
  have h2 : C.toList.length = C.size := by simp
  show 0 + els.length * s ≤ C.size
  omega

theorem put_self {α : Type} (f : Nat → α) (i : Nat) (v : α) : EA.put f i v i = v := if_pos rfl

/-- A new variable. -/
theorem new_ok (h : HRel S H ρ w) {cs : List Lf} {v : Value} {ty : TypeId} (hC : All2 (LRel S ρ H.n) cs v.cells.toList) {r : Result Next} (hr : r = .ok (.value (.pointer (some ⟨w.heap.size, 0, none⟩))) (w.alloc (.cells v.cells ty))) :
    OpOk S H ρ w (.one (.ptr H.n 0 0)) (H.push (.blk cs.length [cs] true)) r := by
  obtain ⟨h1, h2⟩ := h.row (s := cs.length) (els := [cs]) (C := v.cells) (ty := ty) (0, 0) (by simp) (by simpa [List.take_of_length_le (Nat.le_of_eq hC.1.symm)] using hC) (.inl (Nat.le_refl _))
  refine ⟨_, _, h1, h2, .inl ⟨_, hr, by show H.n < H.n + 1; omega, ?_⟩⟩
  rw [rput_self]
  simp [Loc.addr]

theorem newVar_run (P : Program) (t : TypeId) (v : Value) : (newVar t v).run P w = .ok ⟨w.heap.size, 0, none⟩ (w.alloc (.cells v.cells t)) := by
  unfold newVar newRow
  simp
end
end Go.EA
