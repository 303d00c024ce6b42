/- How abstract values and objects stand for the model's: the relation, and what keeps it. Conditions: none. -/
import Derived.Test.YtngcpifknomecaaDoorEComp
import Derived.Laws.World
import Derived.Laws.Sem
import Derived.Laws.Cells
import Derived.Below
set_option linter.unusedVariables false
namespace Go.EA

/-- Pointwise. -/
def All2 {α β : Type} (R : α → β → Prop) (xs : List α) (ys : List β) : Prop :=
  xs.length = ys.length ∧ ∀ (i : Nat) (x : α) (y : β), xs[i]? = some x → ys[i]? = some y → R x y

section all2
variable {α β : Type} {R R' : α → β → Prop}
theorem All2.nil : All2 R [] [] := ⟨rfl, by simp⟩
theorem All2.cons {x : α} {y : β} {xs : List α} {ys : List β} (h : R x y) (t : All2 R xs ys) : All2 R (x :: xs) (y :: ys) := by
  refine ⟨by simp [t.1], fun i a b ha hb => ?_⟩
  cases i with
  | zero => simp at ha hb; subst ha; subst hb; exact h
  | succ i => simp at ha hb; exact t.2 i a b ha hb
theorem All2.cons_inv {x : α} {xs : List α} {zs : List β} (h : All2 R (x :: xs) zs) : ∃ y ys, zs = y :: ys ∧ R x y ∧ All2 R xs ys := by
  cases zs with
  | nil => exact absurd h.1 (by simp)
  | cons y ys =>
    refine ⟨y, ys, rfl, h.2 0 x y rfl rfl, ⟨by simpa using h.1, fun i a b ha hb => h.2 (i + 1) a b (by simpa using ha) (by simpa using hb)⟩⟩
theorem All2.nil_inv {zs : List β} (h : All2 R ([] : List α) zs) : zs = [] := by
  cases zs with
  | nil => rfl
  | cons y ys => exact absurd h.1 (by simp)
theorem All2.mono {xs : List α} {ys : List β} (h : All2 R xs ys) (hr : ∀ x y, R x y → R' x y) : All2 R' xs ys := ⟨h.1, fun i x y hx hy => hr _ _ (h.2 i x y hx hy)⟩
theorem All2.append {xs xs' : List α} {ys ys' : List β} (h : All2 R xs ys) (h' : All2 R xs' ys') : All2 R (xs ++ xs') (ys ++ ys') := by
  refine ⟨by simp [h.1, h'.1], fun i x y hx hy => ?_⟩
  rcases Nat.lt_or_ge i xs.length with hl | hl
  · rw [List.getElem?_append_left hl] at hx
    rw [List.getElem?_append_left (by rw [← h.1]; exact hl)] at hy
    exact h.2 i x y hx hy
  · rw [List.getElem?_append_right hl] at hx
    rw [List.getElem?_append_right (by rw [← h.1]; exact hl), ← h.1] at hy
    exact h'.2 _ x y hx hy
theorem All2.take {xs : List α} {ys : List β} (h : All2 R xs ys) (n : Nat) : All2 R (xs.take n) (ys.take n) := by
  refine ⟨by simp [h.1], fun i x y hx hy => ?_⟩
  rw [List.getElem?_take] at hx hy
  split at hx
  · rename_i hi
    rw [if_pos hi] at hy
    exact h.2 i x y hx hy
  · cases hx
theorem All2.drop {xs : List α} {ys : List β} (h : All2 R xs ys) (n : Nat) : All2 R (xs.drop n) (ys.drop n) := by
  refine ⟨by simp [h.1], fun i x y hx hy => ?_⟩
  rw [List.getElem?_drop] at hx hy
  exact h.2 _ x y hx hy
theorem All2.get {xs : List α} {ys : List β} (h : All2 R xs ys) {i : Nat} {x : α} (hx : xs[i]? = some x) : ∃ y, ys[i]? = some y ∧ R x y := by
  have hi : i < ys.length := by rw [← h.1]; exact (List.getElem?_eq_some_iff.1 hx).1
  exact ⟨ys[i], List.getElem?_eq_getElem hi, h.2 i x _ hx (List.getElem?_eq_getElem hi)⟩
end all2

/-- Where an object lies: its block, the first cell, an element's cells, the block's cells. -/
structure Loc where
  g : Nat
  o : Nat
  s : Nat
  z : Nat
/-- Where the objects lie, and what stays as it is. -/
structure Rho where
  l : Nat → Loc
  fz : Nat → Option Obj
instance : CoeFun Rho (fun _ => Nat → Loc) := ⟨Rho.l⟩
def Rho.put (ρ : Rho) (n : Nat) (L : Loc) : Rho := ⟨EA.put ρ.l n L, ρ.fz⟩
theorem rput_self (ρ : Rho) (n : Nat) (L : Loc) : (ρ.put n L).l n = L := if_pos rfl
theorem rput_ne (ρ : Rho) {n i : Nat} (L : Loc) (h : i ≠ n) : (ρ.put n L).l i = ρ.l i := if_neg h
def Loc.addr (L : Loc) (i j : Nat) : Addr := ⟨L.g, L.o + i * L.s + j, none⟩
theorem addr_add (g k n : Nat) : (⟨g, k, none⟩ : Addr).add n = ⟨g, k + n, none⟩ := by
  unfold Addr.add
  split
  · simp_all
  · rfl

/-- What all else hangs on: the program, the functions' numbers, the regions that may draw, the blocks that stay as they are. -/
structure SC where
  C : RCx
  re : Nat → FuncId
  dr : Array Oper → List AI → Bool
  fx : Nat → Option Obj

section rel
variable (S : SC)

def capAddr (ρ : Rho) (c : Nat × Nat × Nat) : Value := .pointer (some ((ρ c.1).addr c.2.1 c.2.2))

/- Values that hold no address: what stays as it is lies in the blocks 'fz'. -/
mutual
def CRel (fz : Nat → Option Obj) : Lf → Value → Prop
  | .int k x, v => v = .int k x
  | .bool b, v => v = .bool b
  | .str s, v => v = .string ⟨s.toArray⟩
  | .nilp, v => v = .pointer none
  | .slz, v => ∃ a, v = .slice a 0 0
  | .nils, v => v = .slice none 0 0
  | .fn f cap, v => cap = [] ∧ v = .func (.func (S.re f)) #[] #[]
  | .nilf, v => v = .nilFunc
  | .nilm, v => v = .map none
  | .nili, v => v = .nilIface
  | .vrow s els, v => ∃ a cap, v = .slice a els.length cap ∧ els.length ≤ cap ∧ (els = [] ∨ ∃ g o C ty fr, a = some ⟨g, o, none⟩ ∧ fz g = some (.cells C ty fr) ∧ RowC fz C o s els)
  | .vptr cs, v => ∃ g o C ty fr, v = .pointer (some ⟨g, o, none⟩) ∧ fz g = some (.cells C ty fr) ∧ CellC fz C o cs
  | .ptr _ _ _, _ => False
  | .sl _ _ _, _ => False
  | .yld _, _ => False
  | .mp _, _ => False
def CellC (fz : Nat → Option Obj) (C : Array Value) (o : Nat) : List Lf → Prop
  | [] => True
  | x :: r => (∃ u, C[o]? = some u ∧ CRel fz x u) ∧ CellC fz C (o + 1) r
def RowC (fz : Nat → Option Obj) (C : Array Value) (o s : Nat) : List (List Lf) → Prop
  | [] => True
  | e :: r => e.length = s ∧ CellC fz C o e ∧ RowC fz C (o + s) s r
end

def LRel (ρ : Rho) (n : Nat) : Lf → Value → Prop
  | .int k x, v => v = .int k x
  | .bool b, v => v = .bool b
  | .str s, v => v = .string ⟨s.toArray⟩
  | .ptr b i j, v => b < n ∧ v = .pointer (some ((ρ b).addr i j))
  | .nilp, v => v = .pointer none
  | .sl b i m, v => b < n ∧ ∃ a cap, v = .slice (some a) m cap ∧ m ≤ cap ∧ (cap = 0 ∨ (a = (ρ b).addr i 0 ∧ (ρ b).o + (i + cap) * (ρ b).s ≤ (ρ b).z))
  | .slz, v => ∃ a, v = .slice a 0 0
  | .nils, v => v = .slice none 0 0
  | .fn f cap, v => (∀ c ∈ cap, c.1 < n) ∧ v = .func (.func (S.re f)) #[] (cap.map (capAddr ρ)).toArray
  | .yld l, v => l < n ∧ v = .func (.yield (ρ l).g) #[] #[]
  | .nilf, v => v = .nilFunc
  | .mp m, v => m < n ∧ v = .map (some (ρ m).g)
  | .nilm, v => v = .map none
  | .nili, v => v = .nilIface
  | .vrow s els, v => CRel S ρ.fz (.vrow s els) v
  | .vptr cs, v => CRel S ρ.fz (.vptr cs) v

def VRel1 (ρ : Rho) (n : Nat) : AV → Value → Prop
  | .one x, v => LRel S ρ n x v
  | .agg cs, v => ∃ arr, v = .agg arr ∧ All2 (LRel S ρ n) cs arr.toList
  | .tup _, _ => False
def VRel (ρ : Rho) (n : Nat) : AV → Value → Prop
  | .tup vs, v => (AV.tup vs).isJ = true ∨ ∃ arr, v = .tuple arr ∧ All2 (VRel1 S ρ n) vs arr.toList
  | x, v => VRel1 S ρ n x v

def TRel (ρ : Rho) (n : Nat) (T : Tm) (tmps : Array Value) : Prop := ∀ k v, tmps[k]? = some v → VRel S ρ n (T k) v

def CellsR (ρ : Rho) (n : Nat) (L : Loc) (els : List (List Lf)) (C : Array Value) : Prop :=
  ∀ k e, els[k]? = some e → e.length = L.s ∧ ∀ j x, e[j]? = some x → ∃ v, C[L.o + k * L.s + j]? = some v ∧ LRel S ρ n x v

def stOf : LSt → LoopState
  | .ready => .ready
  | .busy => .busy
  | .done => .done
  | .exhausted => .exhausted
def pendOf : Ex → Code
  | .normal => .skip
  | .exit id => .exit id
  | .ret => .ret

def ORel (ρ : Rho) (n : Nat) (L : Loc) : AO → Option Obj → Prop
  | .blk s els own, ob => s = L.s ∧ ∃ C ty fr, ob = some (.cells C ty fr) ∧ CellsR S ρ n L els C ∧
      (own = true → C.size = L.z ∧ L.o + els.length * L.s ≤ C.size ∧ (fr.2 ≤ fr.1 ∨ C.size ≤ fr.1))
  | .dead, _ => True
  | .map es, ob => ∃ E clk, ob = some (.map E clk) ∧ All2 (fun (p : Lf × Lf) (e : MapEntry) => LRel S ρ n p.1 e.key ∧ LRel S ρ n p.2 e.val) es E.toList
  | .siter s pos, ob => ob = some (.stringIter ⟨s.toArray⟩ pos) ∧ L.o = 0
  | .bld _, _ => False
  | .loop st pend T ps as bd, ob => ∃ r : Loop, ob = some (.loop r) ∧ r.state = stOf st ∧ r.pending = pend.map pendOf ∧ TRel S ρ n T r.tmps ∧
      r.params.toList = ps ∧ compC S.C r.tmps.size S.dr r.assign = some as ∧ compC S.C r.tmps.size S.dr r.body = some bd ∧ noR as = true ∧ noR bd = true

end rel

/-- The call's own, and there. -/
def own : AO → Bool
  | .blk _ _ o => o
  | .dead => false
  | _ => true
def live : AO → Bool
  | .dead => false
  | _ => true

def NotImg (H : Heap) (ρ : Rho) (k : Nat) : Prop := ∀ i, i < H.n → own (H.o i) = true → (ρ i).g ≠ k

structure HRel (S : SC) (H : Heap) (ρ : Rho) (w : World) : Prop where
  obj : ∀ i, i < H.n → ORel S ρ H.n (ρ i) (H.o i) (w.heap[(ρ i).g]?)
  ap : ∀ i j, i < H.n → j < H.n → i ≠ j → own (H.o i) = true → live (H.o j) = true → (ρ i).g ≠ (ρ j).g
  fx : ∀ k ob, S.fx k = some ob → w.heap[k]? = some ob ∧ NotImg H ρ k
  fz : ∀ k ob, ρ.fz k = some ob → (∃ C ty fr, ob = .cells C ty fr) ∧ w.heap[k]? = some ob ∧ NotImg H ρ k

/-- What has become of the world; the first m objects keep their numbers. -/
structure FrmB (m : Nat) (H : Heap) (ρ : Rho) (w : World) (H' : Heap) (ρ' : Rho) (w' : World) : Prop where
  sz : w.heap.size ≤ w'.heap.size
  os : w'.os = w.os
  tape : w'.tape = w.tape
  output : w'.output = w.output
  nn : m ≤ H'.n
  rho : ∀ i, i < m → ρ' i = ρ i
  keep : ∀ k, k < w.heap.size → NotImg H ρ k → w'.heap[k]? = w.heap[k]? ∧ NotImg H' ρ' k
  fz : ∀ k ob, ρ.fz k = some ob → ρ'.fz k = some ob
  fn : ∀ k, k < w.heap.size → NotImg H ρ k → ρ'.fz k = ρ.fz k
abbrev Frm (H : Heap) (ρ : Rho) (w : World) (H' : Heap) (ρ' : Rho) (w' : World) : Prop := FrmB H.n H ρ w H' ρ' w'

theorem Frm.refl (H : Heap) (ρ : Rho) (w : World) : Frm H ρ w H ρ w := ⟨Nat.le_refl _, rfl, rfl, rfl, Nat.le_refl _, fun _ _ => rfl, fun _ _ h => ⟨rfl, h⟩, fun _ _ h => h, fun _ _ _ => rfl⟩
theorem FrmB.transB {m m' : Nat} {H H' H'' : Heap} {ρ ρ' ρ'' : Rho} {w w' w'' : World} (h : FrmB m H ρ w H' ρ' w') (k : FrmB m' H' ρ' w' H'' ρ'' w'') (hm : m ≤ m') : FrmB m H ρ w H'' ρ'' w'' :=
  ⟨Nat.le_trans h.sz k.sz, k.os.trans h.os, k.tape.trans h.tape, k.output.trans h.output, Nat.le_trans hm k.nn, fun i hi => (k.rho i (Nat.lt_of_lt_of_le hi hm)).trans (h.rho i hi),
    fun i hi hn => let a := h.keep i hi hn; let b := k.keep i (Nat.lt_of_lt_of_le hi h.sz) a.2; ⟨b.1.trans a.1, b.2⟩, fun q ob hq => k.fz q ob (h.fz q ob hq), fun q hq hn => (k.fn q (Nat.lt_of_lt_of_le hq h.sz) (h.keep q hq hn).2).trans (h.fn q hq hn)⟩
theorem FrmB.weak {m m' : Nat} {H H' : Heap} {ρ ρ' : Rho} {w w' : World} (h : FrmB m H ρ w H' ρ' w') (hm : m' ≤ m) : FrmB m' H ρ w H' ρ' w' :=
  ⟨h.sz, h.os, h.tape, h.output, Nat.le_trans hm h.nn, fun i hi => h.rho i (Nat.lt_of_lt_of_le hi hm), h.keep, h.fz, h.fn⟩
theorem FrmB.trans {H H' H'' : Heap} {ρ ρ' ρ'' : Rho} {w w' w'' : World} (h : Frm H ρ w H' ρ' w') (k : Frm H' ρ' w' H'' ρ'' w'') : Frm H ρ w H'' ρ'' w'' := FrmB.transB h k h.nn

section mono
variable {S : SC} {ρ ρ' : Rho} {n n' : Nat}
/-- What a growing heap keeps. -/
structure Ext (ρ : Rho) (n : Nat) (ρ' : Rho) (n' : Nat) : Prop where
  le : n ≤ n'
  eq : ∀ i, i < n → ρ' i = ρ i
  fz : ∀ k ob, ρ.fz k = some ob → ρ'.fz k = some ob
theorem Ext.refl (ρ : Rho) (n : Nat) : Ext ρ n ρ n := ⟨Nat.le_refl _, fun _ _ => rfl, fun _ _ h => h⟩
theorem Ext.put (ρ : Rho) (n : Nat) (L : Loc) : Ext ρ n (ρ.put n L) (n + 1) := ⟨by omega, fun i hi => rput_ne ρ L (by omega), fun _ _ h => h⟩
theorem FrmB.ext {H H' : Heap} {w w' : World} (h : Frm H ρ w H' ρ' w') : Ext ρ H.n ρ' H'.n := ⟨h.nn, h.rho, h.fz⟩
mutual
theorem CRel.mono {fz fz' : Nat → Option Obj} (e : ∀ k ob, fz k = some ob → fz' k = some ob) : ∀ {x : Lf} {v : Value}, CRel S fz x v → CRel S fz' x v
  | .int _ _, _, h | .bool _, _, h | .str _, _, h | .nilp, _, h | .slz, _, h | .nils, _, h | .fn _ _, _, h | .nilf, _, h | .nilm, _, h | .nili, _, h
  | .ptr _ _ _, _, h | .sl _ _ _, _, h | .yld _, _, h | .mp _, _, h => by simp only [CRel] at h ⊢ <;> exact h
  | .vrow s els, v, h => by
    simp only [CRel] at h ⊢
    obtain ⟨a, cap, h1, h2, h3⟩ := h
    refine ⟨a, cap, h1, h2, ?_⟩
    rcases h3 with h3 | ⟨g, o, C, ty, fr, h3, h4, h5⟩
    · exact .inl h3
    · exact .inr ⟨g, o, C, ty, fr, h3, e _ _ h4, RowC.mono e h5⟩
  | .vptr cs, v, h => by
    simp only [CRel] at h ⊢
    obtain ⟨g, o, C, ty, fr, h3, h4, h5⟩ := h
    exact ⟨g, o, C, ty, fr, h3, e _ _ h4, CellC.mono e h5⟩
theorem CellC.mono {fz fz' : Nat → Option Obj} (e : ∀ k ob, fz k = some ob → fz' k = some ob) : ∀ {cs : List Lf} {C : Array Value} {o : Nat}, CellC S fz C o cs → CellC S fz' C o cs
  | [], _, _, _ => by simp only [CellC]
  | x :: r, C, o, h => by
    simp only [CellC] at h ⊢
    obtain ⟨⟨u, h1, h2⟩, h3⟩ := h
    exact ⟨⟨u, h1, CRel.mono e h2⟩, CellC.mono e h3⟩
theorem RowC.mono {fz fz' : Nat → Option Obj} (e : ∀ k ob, fz k = some ob → fz' k = some ob) : ∀ {els : List (List Lf)} {C : Array Value} {o s : Nat}, RowC S fz C o s els → RowC S fz' C o s els
  | [], _, _, _, _ => by simp only [RowC]
  | x :: r, C, o, s, h => by
    simp only [RowC] at h ⊢
    obtain ⟨h1, h2, h3⟩ := h
    exact ⟨h1, CellC.mono e h2, RowC.mono e h3⟩
end
theorem LRel.mono {x : Lf} {v : Value} (h : LRel S ρ n x v) (e : Ext ρ n ρ' n') : LRel S ρ' n' x v := by
  cases x <;> simp only [LRel] at h ⊢ <;> try exact h
  · obtain ⟨hb, h⟩ := h
    exact ⟨Nat.lt_of_lt_of_le hb e.le, by rw [e.eq _ hb]; exact h⟩
  · obtain ⟨hb, h⟩ := h
    exact ⟨Nat.lt_of_lt_of_le hb e.le, by rw [e.eq _ hb]; exact h⟩
  · obtain ⟨hc, h⟩ := h
    refine ⟨fun c hcm => Nat.lt_of_lt_of_le (hc c hcm) e.le, ?_⟩
    rw [h]
    congr 2
    refine List.map_congr_left fun c hcm => ?_
    unfold capAddr
    rw [e.eq _ (hc c hcm)]
  · obtain ⟨hb, h⟩ := h
    exact ⟨Nat.lt_of_lt_of_le hb e.le, by rw [e.eq _ hb]; exact h⟩
  · obtain ⟨hb, h⟩ := h
    exact ⟨Nat.lt_of_lt_of_le hb e.le, by rw [e.eq _ hb]; exact h⟩
  · exact CRel.mono e.fz h
  · exact CRel.mono e.fz h
theorem VRel1.mono {x : AV} {v : Value} (h : VRel1 S ρ n x v) (e : Ext ρ n ρ' n') : VRel1 S ρ' n' x v := by
  cases x with
  | one x => exact LRel.mono h e
  | agg cs => obtain ⟨arr, rfl, h⟩ := h; exact ⟨arr, rfl, h.mono fun _ _ h => h.mono e⟩
  | tup vs => exact h
theorem VRel.mono {x : AV} {v : Value} (h : VRel S ρ n x v) (e : Ext ρ n ρ' n') : VRel S ρ' n' x v := by
  cases x with
  | one x => exact LRel.mono h e
  | agg cs => exact VRel1.mono (x := .agg cs) h e
  | tup vs =>
    rcases h with h | ⟨arr, rfl, h⟩
    · exact .inl h
    · exact .inr ⟨arr, rfl, h.mono fun _ _ h => h.mono e⟩
theorem TRel.mono {T : Tm} {tmps : Array Value} (h : TRel S ρ n T tmps) (e : Ext ρ n ρ' n') : TRel S ρ' n' T tmps := fun k v hk => (h k v hk).mono e
theorem ORel.mono {L : Loc} {x : AO} {ob : Option Obj} (h : ORel S ρ n L x ob) (e : Ext ρ n ρ' n') : ORel S ρ' n' L x ob := by
  cases x with
  | blk s els o =>
    obtain ⟨hs, C, ty, fr, h1, h2, h3⟩ := h
    exact ⟨hs, C, ty, fr, h1, fun k e' hk => ⟨(h2 k e' hk).1, fun j x hj => let ⟨v, hv, hl⟩ := (h2 k e' hk).2 j x hj; ⟨v, hv, hl.mono e⟩⟩, h3⟩
  | dead => trivial
  | map es => obtain ⟨E, clk, h1, h2⟩ := h; exact ⟨E, clk, h1, h2.mono fun _ _ h => ⟨h.1.mono e, h.2.mono e⟩⟩
  | siter s pos => exact h
  | bld s => exact h
  | loop st pend T ps as bd => obtain ⟨r, h1, h2, h3, h4, h5⟩ := h; exact ⟨r, h1, h2, h3, h4.mono e, h5⟩
end mono

theorem TRel.put {S : SC} {ρ : Rho} {n : Nat} {T : Tm} {tmps : Array Value} (h : TRel S ρ n T tmps) {d : Nat} {x : AV} {v : Value} (hv : VRel S ρ n x v) : TRel S ρ n (EA.put T d x) (tmps.setIfInBounds d v) := by
  intro k u hk
  unfold EA.put
  by_cases e : k = d
  · subst e
    rw [if_pos rfl]
    have hlt : k < tmps.size := by have := (Array.getElem?_eq_some_iff.1 hk).1; simpa using this
    rw [Array.getElem?_setIfInBounds_self_of_lt hlt] at hk
    cases hk; exact hv
  · rw [if_neg e]
    rw [Array.getElem?_setIfInBounds_ne (by omega)] at hk
    exact h k u hk
theorem und_rel {S : SC} {ρ : Rho} {n : Nat} : VRel S ρ n und undef := .inr ⟨#[], rfl, All2.nil⟩

/-! ### Heaps that grow, that are written -/
section heap
variable {S : SC} {H : Heap} {ρ : Rho} {w : World}
theorem HRel.lt (h : HRel S H ρ w) {i : Nat} (hi : i < H.n) (ho : own (H.o i) = true) : (ρ i).g < w.heap.size := by
  have := h.obj i hi
  cases hx : H.o i with
  | blk s els o => rw [hx] at this; obtain ⟨_, C, ty, fr, h1, _⟩ := this; exact (Array.getElem?_eq_some_iff.1 h1).1
  | dead => rw [hx] at ho; cases ho
  | map es => rw [hx] at this; obtain ⟨E, clk, h1, _⟩ := this; exact (Array.getElem?_eq_some_iff.1 h1).1
  | siter s pos => rw [hx] at this; exact (Array.getElem?_eq_some_iff.1 this.1).1
  | bld s => rw [hx] at this; exact this.elim
  | loop st pend T ps as bd => rw [hx] at this; obtain ⟨r, h1, _⟩ := this; exact (Array.getElem?_eq_some_iff.1 h1).1
theorem HRel.lt' (h : HRel S H ρ w) {i : Nat} (hi : i < H.n) (ho : live (H.o i) = true) : (ρ i).g < w.heap.size := by
  have := h.obj i hi
  cases hx : H.o i with
  | blk s els o => rw [hx] at this; obtain ⟨_, C, ty, fr, h1, _⟩ := this; exact (Array.getElem?_eq_some_iff.1 h1).1
  | dead => rw [hx] at ho; cases ho
  | map es => rw [hx] at this; obtain ⟨E, clk, h1, _⟩ := this; exact (Array.getElem?_eq_some_iff.1 h1).1
  | siter s pos => rw [hx] at this; exact (Array.getElem?_eq_some_iff.1 this.1).1
  | bld s => rw [hx] at this; exact this.elim
  | loop st pend T ps as bd => rw [hx] at this; obtain ⟨r, h1, _⟩ := this; exact (Array.getElem?_eq_some_iff.1 h1).1

theorem HRel.mk2 {H' : Heap} {ρ' : Rho} {w' : World} (h : HRel S H ρ w) (obj : ∀ i, i < H'.n → ORel S ρ' H'.n (ρ' i) (H'.o i) (w'.heap[(ρ' i).g]?))
    (ap : ∀ i j, i < H'.n → j < H'.n → i ≠ j → own (H'.o i) = true → live (H'.o j) = true → (ρ' i).g ≠ (ρ' j).g) (f : Frm H ρ w H' ρ' w') (hz : ρ'.fz = ρ.fz := by rfl) : HRel S H' ρ' w' ∧ Frm H ρ w H' ρ' w' :=
  ⟨⟨obj, ap, fun k ob hk => let a := h.fx k ob hk; let b := f.keep k (Array.getElem?_eq_some_iff.1 a.1).1 a.2; ⟨b.1.trans a.1, b.2⟩,
    fun k ob hk => let a := h.fz k ob (by rw [← hz]; exact hk); let b := f.keep k (Array.getElem?_eq_some_iff.1 a.2.1).1 a.2.2; ⟨a.1, b.1.trans a.2.1, b.2⟩⟩, f⟩

theorem heap_alloc (w : World) (ob : Obj) (k : Nat) : (w.alloc ob).heap[k]? = if k = w.heap.size then some ob else w.heap[k]? := by
  show (w.heap.push ob)[k]? = _
  rw [Array.getElem?_push]

/-- A new object. -/
theorem HRel.push (h : HRel S H ρ w) {x : AO} {ob : Obj} {L : Loc} (hg : L.g = w.heap.size) (hx : ORel S (ρ.put H.n L) (H.n + 1) L x (some ob)) :
    HRel S (H.push x) (ρ.put H.n L) (w.alloc ob) ∧ Frm H ρ w (H.push x) (ρ.put H.n L) (w.alloc ob) := by
  have hp : ∀ i, i < H.n → ρ.put H.n L i = ρ i := fun i hi => rput_ne ρ L (by omega)
  have hn : ρ.put H.n L H.n = L := rput_self ρ H.n L
  have ho : ∀ i, i < H.n → (H.push x).o i = H.o i := fun i hi => by simp only [Heap.push, EA.put]; rw [if_neg (by omega)]
  have hon : (H.push x).o H.n = x := if_pos rfl
  refine HRel.mk2 h (fun i hi => ?_) (fun i j hi hj hne hoi hlj => ?_) ⟨by simp, rfl, rfl, rfl, by simp [Heap.push], hp, fun k hk hni => ⟨?_, fun i hi hoi => ?_⟩, fun _ _ h => h, fun _ _ _ => rfl⟩
  · have hi' : i < H.n + 1 := hi
    rcases Nat.lt_or_ge i H.n with hl | hl
    · rw [hp i hl, ho i hl]
      cases hd : live (H.o i) with
      | false =>
        have : H.o i = .dead := by revert hd; cases H.o i <;> simp [live]
        rw [this]; trivial
      | true =>
        rw [heap_alloc, if_neg (by have := h.lt' hl hd; omega)]
        exact (h.obj i hl).mono (Ext.put ρ H.n L)
    · have : i = H.n := by omega
      subst this
      rw [hn, hon, heap_alloc, if_pos hg]
      exact hx
  · have hi' : i < H.n + 1 := hi
    have hj' : j < H.n + 1 := hj
    rcases Nat.lt_or_ge i H.n with hl | hl <;> rcases Nat.lt_or_ge j H.n with hl2 | hl2
    · rw [hp i hl, hp j hl2]
      rw [ho i hl] at hoi
      rw [ho j hl2] at hlj
      exact h.ap i j hl hl2 hne hoi hlj
    · have : j = H.n := by omega
      subst this
      rw [hp i hl, hn, hg]
      rw [ho i hl] at hoi
      have := h.lt hl hoi
      omega
    · have : i = H.n := by omega
      subst this
      rw [hp j hl2, hn, hg]
      rw [ho j hl2] at hlj
      have := h.lt' hl2 hlj
      omega
    · omega
  · rw [heap_alloc, if_neg (by omega)]
  · have hi' : i < H.n + 1 := hi
    rcases Nat.lt_or_ge i H.n with hl | hl
    · rw [hp i hl]; rw [ho i hl] at hoi; exact hni i hl hoi
    · have : i = H.n := by omega
      subst this
      rw [hn, hg]; omega

/-- An own object is turned: its block alone. -/
theorem HRel.turn (h : HRel S H ρ w) {b : Nat} (hb : b < H.n) (hob : own (H.o b) = true) {x : AO} {w' : World} (hx : ORel S ρ H.n (ρ b) x (w'.heap[(ρ b).g]?)) (hlx : live x = true)
    (hsz : w'.heap.size = w.heap.size) (hos : w'.os = w.os) (htp : w'.tape = w.tape) (hout : w'.output = w.output) (hk : ∀ k, k ≠ (ρ b).g → w'.heap[k]? = w.heap[k]?) :
    HRel S (H.set b x) ρ w' ∧ Frm H ρ w (H.set b x) ρ w' := by
  have ho : ∀ i, i ≠ b → (H.set b x).o i = H.o i := fun i hi => by simp only [Heap.set, EA.put]; rw [if_neg hi]
  have hon : (H.set b x).o b = x := if_pos rfl
  have hlb : live (H.o b) = true := by revert hob; cases H.o b <;> simp [own, live]
  refine HRel.mk2 h (fun i hi => ?_) (fun i j hi hj hne hoi hlj => ?_) ⟨by omega, hos, htp, hout, Nat.le_refl _, fun _ _ => rfl, fun k hk' hni => ⟨?_, fun i hi hoi => ?_⟩, fun _ _ h => h, fun _ _ _ => rfl⟩
  · by_cases e : i = b
    · subst e; rw [hon]; exact hx
    · rw [ho i e]
      cases hd : live (H.o i) with
      | false =>
        have : H.o i = .dead := by revert hd; cases H.o i <;> simp [live]
        rw [this]; trivial
      | true =>
        rw [hk _ (Ne.symm (h.ap b i hb hi (Ne.symm e) hob hd))]
        exact h.obj i hi
  · by_cases e : i = b
    · subst e
      exact h.ap i j hi hj hne hob (by rw [ho j (Ne.symm hne)] at hlj; exact hlj)
    · rw [ho i e] at hoi
      by_cases e2 : j = b
      · subst e2; exact h.ap i j hi hj hne hoi hlb
      · rw [ho j e2] at hlj; exact h.ap i j hi hj hne hoi hlj
  · exact hk k (Ne.symm (hni b hb hob))
  · by_cases e : i = b
    · subst e; exact hni i hi hob
    · rw [ho i e] at hoi; exact hni i hi hoi

theorem HRel.kill (h : HRel S H ρ w) (b : Nat) : HRel S (H.set b .dead) ρ w ∧ Frm H ρ w (H.set b .dead) ρ w := by
  have ho : ∀ i, i ≠ b → (H.set b .dead).o i = H.o i := fun i hi => by simp only [Heap.set, EA.put]; rw [if_neg hi]
  have hon : (H.set b .dead).o b = .dead := if_pos rfl
  refine HRel.mk2 h (fun i hi => ?_) (fun i j hi hj hne hoi hlj => ?_) ⟨Nat.le_refl _, rfl, rfl, rfl, Nat.le_refl _, fun _ _ => rfl, fun k hk' hni => ⟨rfl, fun i hi hoi => ?_⟩, fun _ _ h => h, fun _ _ _ => rfl⟩
  · by_cases e : i = b
    · subst e; rw [hon]; trivial
    · rw [ho i e]; exact h.obj i hi
  · by_cases e : i = b
    · subst e; rw [hon] at hoi; cases hoi
    · by_cases e2 : j = b
      · subst e2; rw [hon] at hlj; cases hlj
      · rw [ho i e] at hoi; rw [ho j e2] at hlj; exact h.ap i j hi hj hne hoi hlj
  · by_cases e : i = b
    · subst e; rw [hon] at hoi; cases hoi
    · rw [ho i e] at hoi; exact hni i hi hoi

theorem HRel.drew (h : HRel S H ρ w) : HRel S H ρ w.drew := ⟨h.obj, h.ap, h.fx, h.fz⟩
theorem Frm.drew : Frm H ρ w H ρ w.drew := ⟨Nat.le_refl _, rfl, rfl, rfl, Nat.le_refl _, fun _ _ => rfl, fun _ _ hn => ⟨rfl, hn⟩, fun _ _ h => h, fun _ _ _ => rfl⟩
end heap

end Go.EA
