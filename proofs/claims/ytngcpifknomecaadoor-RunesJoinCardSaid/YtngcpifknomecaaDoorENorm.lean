/- A state that stands for another one, both told as lists. Conditions: none. -/
import Derived.Test.YtngcpifknomecaaDoorERun2
set_option linter.unusedVariables false
set_option linter.unusedSimpArgs false
namespace Go.EA
section
variable {H : Heap} {fz : Nat → Prop} {π : Nat → Nat} {n1 : Nat}
theorem RV.eq1 {x y : Lf} (h : x = y) (hc : x.closed = true) : RV H fz π n1 (.one x) (.one y) := by subst h; exact .one (.same hc)
theorem RV.int {k : IntKind} {x y : Int} (h : x = y) : RV H fz π n1 (.one (.int k x)) (.one (.int k y)) := RV.eq1 (by rw [h]) rfl
theorem RV.str {x y : List UInt8} (h : x = y) : RV H fz π n1 (.one (.str x)) (.one (.str y)) := RV.eq1 (by rw [h]) rfl
theorem RV.bool {x y : Bool} (h : x = y) : RV H fz π n1 (.one (.bool x)) (.one (.bool y)) := RV.eq1 (by rw [h]) rfl
theorem RV.row {s : Nat} {x y : List (List Lf)} (h : x = y) : RV H fz π n1 (.one (.vrow s x)) (.one (.vrow s y)) := RV.eq1 (by rw [h]) rfl
theorem RV.sl {b b' i n n' : Nat} (h : n = n') (h1 : b < n1) (h2 : π b = b') : RV H fz π n1 (.one (.sl b i n)) (.one (.sl b' i n')) := by subst h; exact .one (.sl h1 h2)
theorem RL.row {b i n s : Nat} {els els' : List (List Lf)} (h1 : fz b) (h2 : H.o b = .blk s els true) (h3 : i + n ≤ els.length) (h4 : els' = (els.drop i).take n) : RL H fz π n1 (.vrow s els') (.sl b i n) := .frow h1 h2 h3 h4.symm
theorem RV.frow {b n s : Nat} {els els' : List (List Lf)} (h1 : fz b) (h2 : H.o b = .blk s els true) (h3 : n = els.length) (h4 : els' = els) : RV H fz π n1 (.one (.vrow s els')) (.one (.sl b 0 n)) :=
  .one (.row h1 h2 (by omega) (by subst h3 h4; simp))
theorem All2.eq {α : Type} {R : α → α → Prop} {xs ys : List α} (h : xs = ys) (hr : ∀ x ∈ xs, R x x) : All2 R xs ys := by
  subst h
  exact ⟨rfl, fun i x y hx hy => by rw [hx] at hy; cases hy; exact hr x (List.mem_of_getElem? hx)⟩
theorem RO.eq {s : Nat} {x y : List (List Lf)} {o : Bool} (h : x = y) (hc : elsClosed x = true) : RO H fz π n1 (.blk s x o) (.blk s y o) :=
  .blk (All2.eq h fun e he => All2.eq rfl fun z hz => .same (List.all_eq_true.1 (List.all_eq_true.1 hc e he) z hz))
theorem RO.box {s : Nat} {x y : Lf} {o : Bool} (h : RL H fz π n1 x y) : RO H fz π n1 (.blk s [[x]] o) (.blk s [[y]] o) := .blk (All2.cons (All2.cons h All2.nil) All2.nil)

theorem RL.row0 {b n s : Nat} {els els' : List (List Lf)} (h1 : fz b) (h2 : H.o b = .blk s els true) (h3 : n = els.length) (h4 : els' = els) : RL H fz π n1 (.vrow s els') (.sl b 0 n) :=
  .row h1 h2 (by omega) (by subst h3 h4; simp)
theorem RL.slB {b b' i n n' : Nat} (h1 : Nat.blt b n1 = true) (h2 : π b = b') (h : n = n') : RL H fz π n1 (.sl b i n) (.sl b' i n') := by subst h; exact .sl (Nat.le_of_ble_eq_true h1) h2
theorem RL.ptrB {b b' i j : Nat} (h1 : Nat.blt b n1 = true) (h2 : π b = b') : RL H fz π n1 (.ptr b i j) (.ptr b' i j) := .ptr (Nat.le_of_ble_eq_true h1) h2
theorem RV.ptrB {b b' i j : Nat} (h1 : Nat.blt b n1 = true) (h2 : π b = b') : RV H fz π n1 (.one (.ptr b i j)) (.one (.ptr b' i j)) := .one (.ptrB h1 h2)
theorem RV.slB {b b' i n n' : Nat} (h1 : Nat.blt b n1 = true) (h2 : π b = b') (h : n = n') : RV H fz π n1 (.one (.sl b i n)) (.one (.sl b' i n')) := .one (.slB h1 h2 h)
theorem RV.yldB {b b' : Nat} (h1 : Nat.blt b n1 = true) (h2 : π b = b') : RV H fz π n1 (.one (.yld b)) (.one (.yld b')) := .one (.yld (Nat.le_of_ble_eq_true h1) h2)
theorem RV.fn1 {f b b' i j : Nat} (h1 : Nat.blt b n1 = true) (h2 : π b = b') : RV H fz π n1 (.one (.fn f [(b, i, j)])) (.one (.fn f [(b', i, j)])) :=
  .one (.fn (fun c hc => by simp only [List.mem_singleton] at hc; subst hc; exact Nat.le_of_ble_eq_true h1) (by simp [h2]))

/-- Entry by entry. -/
def AllE (R : Nat → AV → Prop) : List (Nat × AV) → Prop
  | [] => True
  | p :: r => R p.1 p.2 ∧ AllE R r
theorem AllE.mem {R : Nat → AV → Prop} : ∀ {l : List (Nat × AV)} {p : Nat × AV}, AllE R l → p ∈ l → R p.1 p.2
  | _ :: _, _, h, hp => by
    rcases List.mem_cons.1 hp with rfl | hp
    · exact h.1
    · exact AllE.mem h.2 hp
theorem tl_get (n : Nat) (l : List (Nat × AV)) (k : Nat) : (n ≤ k ∧ tmL (tl n l) k = und) ∨ (k < n ∧ (tmL (tl n l) k = junk ∨ ∃ v, (k, v) ∈ l ∧ tmL (tl n l) k = v)) := by
  rcases Nat.lt_or_ge k n with h | h
  · refine .inr ⟨h, ?_⟩
    have : tmL (tl n l) k = match l.find? (fun p => Nat.beq p.1 k) with | some p => p.2 | none => junk := by
      simp [tmL, tl, h]
      rfl
    rw [this]
    split
    · rename_i p hp
      have h1 := List.find?_some hp
      have h2 := List.mem_of_find?_eq_some hp
      have h3 : p.1 = k := Nat.eq_of_beq_eq_true h1
      exact .inr ⟨p.2, by rw [← h3]; exact h2, rfl⟩
    · exact .inl rfl
  · refine .inl ⟨h, ?_⟩
    simp [tmL, tl, List.getElem?_eq_none, h]

theorem RO.loopL {H : Heap} {fz : Nat → Prop} {π : Nat → Nat} {n1 : Nat} {st : LSt} {pend : Option Ex} {ps : List Nat} {as bd : AC} {n : Nat} {l : List (Nat × AV)} {T : List AV} (hn : Nat.beq n T.length = true)
    (h : AllE (fun i v => RV H fz π n1 v (tmL T i)) l) : RO H fz π n1 (.loop st pend (tmL (tl n l)) ps as bd) (.loop st pend (tmL T) ps as bd) :=
  .loop fun k => by
    have hn : n = T.length := Nat.eq_of_beq_eq_true hn
    rcases tl_get n l k with ⟨hk, e⟩ | ⟨hk, e | ⟨v, hv, e⟩⟩
    · rw [e]
      have : tmL T k = und := by simp [tmL, List.getElem?_eq_none, ← hn, hk]
      rw [this]; exact .und
    · rw [e]; exact .junk
    · rw [e]; exact AllE.mem h hv
def AllO (R : AO → AO → Prop) (L : List AO) : List Nat → List AO → Prop
  | [], [] => True
  | i :: l, x :: r => R x (L.getD i .dead) ∧ AllO R L l r
  | _, _ => False
theorem AllO.get {R : AO → AO → Prop} {L : List AO} : ∀ {l : List Nat} {r : List AO}, AllO R L l r → l.length = r.length ∧ ∀ i, i < r.length → R (r.getD i .dead) (L.getD (l.getD i 0) .dead)
  | [], [], _ => ⟨rfl, fun i hi => absurd hi (Nat.not_lt_zero _)⟩
  | i :: l, x :: r, h => by
    obtain ⟨h1, h2⟩ := AllO.get h.2
    refine ⟨by simp [h1], fun k hk => ?_⟩
    cases k with
    | zero => simpa using h.1
    | succ k => simpa using h2 k (by simpa using hk)
  | [], _ :: _, h => h.elim
  | _ :: _, [], h => h.elim

def ltAll (n : Nat) : List Nat → Bool
  | [] => true
  | i :: l => Nat.blt i n && ltAll n l
theorem ltAll_ok {n : Nat} : ∀ {l : List Nat}, ltAll n l = true → ∀ i, i < l.length → l.getD i 0 < n
  | [], _, i, hi => absurd hi (Nat.not_lt_zero _)
  | x :: l, h, i, hi => by
    simp only [ltAll, Bool.and_eq_true] at h
    cases i with
    | zero => exact Nat.le_of_ble_eq_true h.1
    | succ i => simpa using ltAll_ok h.2 i (by simpa using hi)
def ltAllV (n : Nat) : List Nat → List AO → Bool
  | i :: l, x :: r => (!(live x) || Nat.blt i n) && ltAllV n l r
  | _, _ => true
theorem ltAllV_ok {n : Nat} : ∀ {l : List Nat} {r : List AO}, ltAllV n l r = true → ∀ i, i < l.length → i < r.length → live (r.getD i .dead) = true → l.getD i 0 < n
  | [], _, _, i, hi, _, _ => absurd hi (Nat.not_lt_zero _)
  | _ :: _, [], _, i, _, hi, _ => absurd hi (Nat.not_lt_zero _)
  | x :: l, y :: r, h, i, hi, hj, hl => by
    simp only [ltAllV, Bool.and_eq_true, Bool.or_eq_true, Bool.not_eq_true'] at h
    cases i with
    | zero =>
      simp only [List.getD_cons_zero] at hl ⊢
      rcases h.1 with h1 | h1
      · rw [hl] at h1; cases h1
      · exact Nat.le_of_ble_eq_true h1
    | succ i => simpa using ltAllV_ok h.2 i (by simpa using hi) (by simpa using hj) (by simpa using hl)
def notIn (x : Nat) : List Nat → Bool
  | [] => true
  | i :: l => !(Nat.beq x i) && notIn x l
def nodupB : List Nat → Bool
  | [] => true
  | i :: l => notIn i l && nodupB l
theorem notIn_ok {x : Nat} : ∀ {l : List Nat}, notIn x l = true → ∀ i, i < l.length → l.getD i 0 ≠ x
  | [], _, i, hi => absurd hi (Nat.not_lt_zero _)
  | y :: l, h, i, hi => by
    simp only [notIn, Bool.and_eq_true, Bool.not_eq_true'] at h
    cases i with
    | zero => intro e; simp only [List.getD_cons_zero] at e; subst e; have := Nat.ne_of_beq_eq_false h.1; exact this rfl
    | succ i => simpa using notIn_ok h.2 i (by simpa using hi)
theorem nodupB_ok : ∀ {l : List Nat}, nodupB l = true → ∀ i j, i < l.length → j < l.length → l.getD i 0 = l.getD j 0 → i = j
  | [], _, i, j, hi, _, _ => absurd hi (Nat.not_lt_zero _)
  | x :: l, h, i, j, hi, hj, e => by
    simp only [nodupB, Bool.and_eq_true] at h
    cases i with
    | zero => cases j with
      | zero => rfl
      | succ j => exact absurd e.symm (by simpa using notIn_ok h.1 j (by simpa using hj))
    | succ i => cases j with
      | zero => exact absurd e (by simpa using notIn_ok h.1 i (by simpa using hi))
      | succ j => rw [nodupB_ok h.2 i j (by simpa using hi) (by simpa using hj) (by simpa using e)]
def idAll (m : Nat) : Nat → List Nat → Bool
  | k, [] => Nat.ble m k
  | k, i :: l => (Nat.ble m k || Nat.beq i k) && idAll m (k + 1) l
theorem idAll_ok {m : Nat} : ∀ {k : Nat} {l : List Nat}, idAll m k l = true → m ≤ k + l.length ∧ ∀ i, k + i < m → l.getD i 0 = k + i
  | k, [], h => by
    have := Nat.le_of_ble_eq_true h
    exact ⟨by simpa using this, fun i hi => by omega⟩
  | k, x :: l, h => by
    simp only [idAll, Bool.and_eq_true, Bool.or_eq_true] at h
    obtain ⟨h1, h2⟩ := idAll_ok h.2
    refine ⟨by simp; omega, fun i hi => ?_⟩
    cases i with
    | zero =>
      rcases h.1 with h3 | h3
      · have := Nat.le_of_ble_eq_true h3; omega
      · simpa using Nat.eq_of_beq_eq_true h3
    | succ i => have := h2 i (by omega); simp only [List.getD_cons_succ]; omega

/-- What is frozen. -/
def AllF (L : List AO) : List Nat → Prop
  | [] => True
  | b :: r => (∃ s els, L.getD b .dead = .blk s els true ∧ elsClosed els = true) ∧ AllF L r
theorem AllF.mem {L : List AO} : ∀ {l : List Nat} {b : Nat}, AllF L l → b ∈ l → ∃ s els, L.getD b .dead = .blk s els true ∧ elsClosed els = true
  | _ :: _, _, h, hb => by
    rcases List.mem_cons.1 hb with rfl | hb
    · exact h.1
    · exact AllF.mem h.2 hb
def outAll (l : List Nat) : List Nat → Bool
  | [] => true
  | b :: r => notIn b l && outAll l r
theorem outAll_ok {l : List Nat} : ∀ {r : List Nat}, outAll l r = true → ∀ b ∈ r, ∀ i, i < l.length → l.getD i 0 ≠ b
  | [], _, b, hb => by simp at hb
  | x :: r, h, b, hb => by
    simp only [outAll, Bool.and_eq_true] at h
    rcases List.mem_cons.1 hb with rfl | hb
    · exact notIn_ok h.1
    · exact outAll_ok h.2 b hb
end

section
variable {S : SC} {m : Nat} {T : List AV} {L L1 : List AO}
/-- One state in another's stead: 'pi' tells, of each object kept, its old number; 'fr' those that stay as they are from now on. -/
theorem abs_l (pi fr : List Nat) (n : Nat) (l : List (Nat × AV)) (hc : (ltAllV L.length pi L1 && nodupB pi && idAll m 0 pi && outAll pi fr && Nat.beq n T.length) = true) (hf : AllF L fr)
    (hO : AllO (RO (hl L) (· ∈ fr) (fun i => pi.getD i 0) L1.length) L pi L1) (hT : AllE (fun i v => RV (hl L) (· ∈ fr) (fun i => pi.getD i 0) L1.length v (tmL T i)) l) : Abs S m (tmL T) (hl L) (tmL (tl n l)) (hl L1) := by
  simp only [Bool.and_eq_true] at hc
  obtain ⟨⟨⟨⟨h1, h2⟩, h3⟩, h4⟩, h5⟩ := hc
  have h5 : n = T.length := Nat.eq_of_beq_eq_true h5
  obtain ⟨o1, o2⟩ := AllO.get hO
  have h3' := idAll_ok h3
  refine abs_of (fz := (· ∈ fr)) (π := fun i => pi.getD i 0) ⟨fun i hi hlv => ltAllV_ok h1 i (by rw [o1]; exact hi) hi hlv, fun i j hi hj _ _ e => nodupB_ok h2 i j (by rw [o1]; exact hi) (by rw [o1]; exact hj) e, fun i hi => o2 i hi, fun b hb => ?_, fun b i hb hi _ => outAll_ok h4 b hb i (by rw [o1]; exact hi)⟩ ?_ ?_ ?_
  · obtain ⟨s, els, e1, e2⟩ := AllF.mem hf hb
    exact ⟨hl_lt (by rw [e1]; simp), s, els, e1, e2⟩
  · have := h3'.1; simpa [o1, hl] using this
  · intro i hi; have := h3'.2 i (by omega); simpa using this
  · intro k
    rcases tl_get n l k with ⟨hk, e⟩ | ⟨hk, e | ⟨v, hv, e⟩⟩
    · rw [e]
      have : tmL T k = und := by simp [tmL, List.getElem?_eq_none, ← h5, hk]
      rw [this]; exact .und
    · rw [e]; exact .junk
    · rw [e]; exact AllE.mem hT hv
end
/-! ### Variables of one cell -/
section
variable {T : List AV} {L : List AO}
theorem load1 {a : Opd} {b s : Nat} {x : Lf} {o : Bool} (ha : a.ev (tmL T) = .one (.ptr b 0 0)) (hb : L.getD b .dead = .blk s [[x]] o) : evOp (tmL T) (hl L) (.load false 1 a) = some (.one x, hl L) := by
  have hob : (hl L).o b = .blk s [[x]] o := hb
  simp only [evOp, ha, Heap.cells, hob]
  rfl
theorem store1 {a y : Opd} {b s : Nat} {x z : Lf} (ha : a.ev (tmL T) = .one (.ptr b 0 0)) (hy : y.ev (tmL T) = .one z) (hb : L.getD b .dead = .blk s [[x]] true) : evOp (tmL T) (hl L) (.store 1 a y) = some (und, hl (L.set b (.blk s [[z]] true))) := by
  have hob : (hl L).o b = .blk s [[x]] true := hb
  have e : evOp (tmL T) (hl L) (.store 1 a y) = some (und, (hl L).set b (.blk s [[z]] true)) := by
    simp only [evOp, ha, hy, AV.cells?, Heap.storeC, hob]
    rfl
  rw [e, hl_set L (hl_lt (by rw [hb]; simp))]
end
/-! ### Rows that are a list's image -/
section
variable {α : Type} {T : List AV} {L : List AO} {s : Nat} {f : α → List Lf} {l : List α} (d : α)
theorem iaddr_map {H : Heap} {x i : Opd} {kd : IntKind} {k : Int} (hx : x.ev (tmL T) = .one (.vrow s (List.map f l))) (hi : i.ev (tmL T) = .one (.int kd k)) (h : 0 ≤ k ∧ k < l.length) : evOp (tmL T) H (.iaddr s x i) = some (.one (.vptr (f (l.getD k.toNat d))), H) := by
  have hk : k.toNat < l.length := by omega
  simp only [evOp, hx, idx_of hi h.1, if_true]
  rw [List.getElem?_map, List.getElem?_eq_getElem hk, List.getD_eq_getElem?_getD, List.getElem?_eq_getElem hk]
  rfl
theorem load_map {o : Bool} {ag : Bool} {n b i j : Nat} {a : Opd} {v : AV} (ha : a.ev (tmL T) = .one (.ptr b i j)) (hb : L.getD b .dead = .blk s (List.map f l) o) (h : i < l.length)
    (hv : (if j + n ≤ (f (l.getD i d)).length then asOne ag (((f (l.getD i d)).drop j).take n) else none) = some v) : evOp (tmL T) (hl L) (.load ag n a) = some (v, hl L) := by
  have hob : (hl L).o b = .blk s (List.map f l) o := hb
  rw [List.getD_eq_getElem?_getD, List.getElem?_eq_getElem h] at hv
  simp only [evOp, ha, Heap.cells, hob, List.getElem?_map, List.getElem?_eq_getElem h, Option.map_some]
  simp only [Option.getD_some] at hv
  split at hv
  · rename_i hc
    rw [if_pos hc]
    simp only [Option.bind_some, hv, Option.map_some]
  · cases hv
theorem store_map {n b i j : Nat} {a x : Opd} {p : List Lf} (x' : α) (ha : a.ev (tmL T) = .one (.ptr b i j)) (hx : (x.ev (tmL T)).cells? = some p) (hn : p.length = n) (hb : L.getD b .dead = .blk s (List.map f l) true) (h : i < l.length)
    (hl : j + p.length ≤ (f (l.getD i d)).length) (he : (f (l.getD i d)).take j ++ p ++ (f (l.getD i d)).drop (j + p.length) = f x') : evOp (tmL T) (EA.hl L) (.store n a x) = some (und, EA.hl (L.set b (.blk s (List.map f (l.set i x')) true))) := by
  have hob : (EA.hl L).o b = .blk s (List.map f l) true := hb
  rw [List.getD_eq_getElem?_getD, List.getElem?_eq_getElem h, Option.getD_some] at hl he
  simp only [evOp, ha, hx, if_pos hn, Heap.storeC, hob, List.getElem?_map, List.getElem?_eq_getElem h, Option.map_some, if_pos hl, he]
  rw [← List.map_set, hl_set L (hl_lt (by rw [hb]; simp))]
theorem app_map {bytes b n : Nat} {x y : Opd} {l2 : List α} (hx : x.ev (tmL T) = .one (.sl b 0 n)) (hb : L.getD b .dead = .blk s (List.map f l) true) (hy : srcRow (hl L) s (y.ev (tmL T)) = some (List.map f l2)) (hne : l2 ≠ []) (hn : n = l.length)
    (hroom : (l.length + l2.length) * bytes ≤ 140737488355328) {v : AV} {L1 : List AO} (hv : AV.one (.sl L.length 0 (l.length + l2.length)) = v) (hL : L.set b .dead ++ [.blk s (List.map f (l ++ l2)) true] = L1) : evOp (tmL T) (hl L) (.app s bytes x y) = some (v, hl L1) := by
  subst hv hL
  have hob : (hl L).o b = .blk s (List.map f l) true := hb
  obtain ⟨z, l3, rfl⟩ : ∃ z l3, l2 = z :: l3 := by cases l2 with | nil => exact absurd rfl hne | cons z l3 => exact ⟨z, l3, rfl⟩
  have hr : roomB = 140737488355328 := rfl
  simp only [evOp, evApp, hy, List.map_cons, hx, hob]
  simp only [List.length_cons] at hroom
  rw [if_pos ⟨trivial, by rw [List.length_map]; omega, by rw [hr, List.length_map, hn]; exact hroom⟩, hl_set L (hl_lt (by rw [hb]; simp)), hl_push, hn]
  simp [hl, List.take_of_length_le]
theorem slice_map {H : Heap} {x : Opd} {lo hi : Option Opd} {a b : Int} (hx : x.ev (tmL T) = .one (.vrow s (List.map f l))) (ha : boundS T 0 lo = some a) (hb : boundS T l.length hi = some b) (h : 0 ≤ a ∧ a ≤ b ∧ b ≤ l.length) :
    evOp (tmL T) H (.slice .slc s x lo hi none) = some (.one (.vrow s (List.map f ((l.drop a.toNat).take (b.toNat - a.toNat)))), H) := by
  have hb' : bound (tmL T) (List.map f l).length hi = some b.toNat := by rw [List.length_map]; exact bound_of hb (by omega)
  simp only [evOp, hx, evSlice, bound_of ha h.1, hb', if_true]
  rw [if_pos ⟨by omega, by rw [List.length_map]; omega⟩]
  simp
end
end Go.EA
