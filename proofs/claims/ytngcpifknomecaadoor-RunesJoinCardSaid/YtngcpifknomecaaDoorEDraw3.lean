/- Every schedule of a drawing region comes to what the text's order comes to. Conditions: none. -/
import Derived.Test.YtngcpifknomecaaDoorEDraw2
import Derived.Test.YtngcpifknomecaaDoorESound2
set_option linter.unusedVariables false
set_option linter.unusedSimpArgs false
namespace Go.EA

/-- What must have been done ahead of an operation, whatever the order. -/
def edges (o : Oper) : List Nat := o.after.toList.filterMap fun e => if Region.binds .any e then some e.on else none
def edgesAt (ops : Array Oper) (i : Nat) : List Nat := match ops[i]? with | some o => edges o | none => []
/-- j comes ahead of i. -/
def reach (ed : Nat → List Nat) : Nat → Nat → Nat → Bool
  | 0, _, _ => false
  | k + 1, i, j => (ed i).contains j || (ed i).any fun e => decide (j < e) && reach ed k e j
/-- The region's operations that are in no order may change places. -/
def okDraw (pp : Nat → Bool) (ops : Array Oper) (ais : List AI) : Bool :=
  ais.length == ops.size && (List.range ops.size).all fun i =>
    (edgesAt ops i).all (fun e => decide (e < i)) &&
    (List.range i).all fun j => reach (edgesAt ops) 8 i j || (match ais[j]?, ais[i]? with | some x, some y => mayswap pp x y | _, _ => false)

section
variable {pp : Nat → Bool} {call : AV → List AV → Heap → Option (AV × Heap)}

theorem reach_listed {ed : Nat → List Nat} {L : Nat → Bool} (hc : ∀ i, L i = true → ∀ e ∈ ed i, L e = true) : ∀ (k i j : Nat), (∀ e ∈ ed i, L e = true) → reach ed k i j = true → L j = true
  | 0, i, j, _, h => by simp [reach] at h
  | k + 1, i, j, he, h => by
    simp only [reach, Bool.or_eq_true, List.any_eq_true, Bool.and_eq_true] at h
    rcases h with h | ⟨e, h1, _, h3⟩
    · exact he j (by simpa using h)
    · exact reach_listed hc k e j (hc e (he e h1)) h3

theorem mem_edges {ops : Array Oper} {i : Nat} {o : Oper} (ho : ops[i]? = some o) {L : Nat → Bool} : (o.after.all fun e => !Region.binds .any e || L e.on) = true ↔ ∀ e ∈ edgesAt ops i, L e = true := by
  simp only [edgesAt, ho, edges, List.mem_filterMap, Array.all_eq_true', Bool.or_eq_true, Bool.not_eq_true']
  constructor
  · rintro h e ⟨x, hx, he⟩
    split at he
    · rename_i hb
      cases he
      rcases h x (by simpa using hx) with h1 | h1
      · rw [hb] at h1; cases h1
      · exact h1
    · cases he
  · intro h x hx
    cases hb : Region.binds .any x with
    | false => exact .inl rfl
    | true => exact .inr (h x.on ⟨x, by simpa using hx, by simp [hb]⟩)

def rem (n : Nat) (L : Nat → Bool) : List Nat := (List.range n).filter fun i => !L i

theorem schedule_ok (hk : KeepOk pp call) {ops : Array Oper} {ais : List AI} (hok : okDraw pp ops ais = true) {z : Tm × Heap} :
    ∀ (fuel t : Nat) (listed : Array Bool) (T : Tm) (H : Heap), listed.size = ops.size → (∀ i, listed.getD i false = true → ∀ e ∈ edgesAt ops i, listed.getD e false = true) →
      (rem ops.size (listed.getD · false)).length ≤ fuel → evOps call (opsAt ais (rem ops.size (listed.getD · false))) T H = some z →
      evOps call (opsAt ais (Region.linearise.go .any ops fuel t listed [])) T H = some z := by
  simp only [okDraw, Bool.and_eq_true, beq_iff_eq, List.all_eq_true, List.mem_range, Bool.or_eq_true, decide_eq_true_eq] at hok
  obtain ⟨hlen, hok⟩ := hok
  intro fuel
  induction fuel with
  | zero =>
    intro t listed T H hsz hc hf he
    have : rem ops.size (listed.getD · false) = [] := List.eq_nil_of_length_eq_zero (by omega)
    rw [this] at he
    simpa [Region.linearise.go] using he
  | succ fuel ih =>
    intro t listed T H hsz hc hf he
    have hD : ∀ i, i < ops.size → listed.getD i true = listed.getD i false := fun i hi => by
      simp [Array.getD_eq_getD_getElem?, Array.getElem?_eq_getElem (show i < listed.size by omega)]
    simp only [Region.linearise.go]
    change evOps call (opsAt ais (match (Region.ready .any ops listed)[t % (Region.ready .any ops listed).length]? with
      | some i => Region.linearise.go .any ops fuel (t / (Region.ready .any ops listed).length) (listed.setIfInBounds i true) [i]
      | none => [].reverse)) T H = some z
    have hready : ∀ i, i ∈ Region.ready .any ops listed ↔ i < ops.size ∧ listed.getD i false = false ∧ ∀ e ∈ edgesAt ops i, listed.getD e false = true := by
      intro i
      simp only [Region.ready, List.mem_filter, List.mem_range, Bool.and_eq_true, Bool.not_eq_true']
      constructor
      · rintro ⟨hi, h1, h2⟩
        rw [hD i hi] at h1
        refine ⟨hi, h1, ?_⟩
        rw [Array.getElem?_eq_getElem hi] at h2
        exact (mem_edges (Array.getElem?_eq_getElem hi)).1 (by simpa using h2)
      · rintro ⟨hi, h1, h2⟩
        refine ⟨hi, by rw [hD i hi]; exact h1, ?_⟩
        rw [Array.getElem?_eq_getElem hi]
        have := (mem_edges (L := (listed.getD · false)) (Array.getElem?_eq_getElem hi)).2 h2
        simpa using this
    cases hi : (Region.ready .any ops listed)[t % (Region.ready .any ops listed).length]? with
    | none =>
      have hnil : Region.ready .any ops listed = [] := by
        cases hr : Region.ready .any ops listed with
        | nil => rfl
        | cons x xs =>
          rw [hr] at hi
          have hlt : t % (x :: xs).length < (x :: xs).length := Nat.mod_lt _ (by simp)
          simp at hi
          simp at hlt
          omega
      -- none is left
      have hrem : rem ops.size (listed.getD · false) = [] := by
        have key : ∀ i, i < ops.size → listed.getD i false = true := by
          intro i
          induction i using Nat.strongRecOn with
          | _ i ihi =>
            intro hi
            cases h : listed.getD i false with
            | true => rfl
            | false =>
              have : i ∈ Region.ready .any ops listed := (hready i).2 ⟨hi, h, fun e he => by
                have := (hok i hi).1 e he
                exact ihi e this (by omega)⟩
              rw [hnil] at this; cases this
        simp only [rem, List.filter_eq_nil_iff, List.mem_range]
        intro i hi
        simp [key i hi]
      rw [hrem] at he
      simpa using he
    | some i =>
      obtain ⟨hin, hli, hed⟩ := (hready i).1 (List.mem_of_getElem? hi)
      simp only []
      rw [linearise_go_acc, List.reverse_singleton, List.singleton_append]
      -- where i stands among those left
      have hmem : i ∈ rem ops.size (listed.getD · false) := List.mem_filter.2 ⟨List.mem_range.2 hin, by dsimp only; rw [hli]; rfl⟩
      obtain ⟨l1, l2, hl⟩ := List.append_of_mem hmem
      have hpw : (rem ops.size (listed.getD · false)).Pairwise (· < ·) := (List.pairwise_lt_range).filter _
      rw [hl] at hpw
      have hl1 : ∀ j ∈ l1, j < i := fun j hj => (List.pairwise_append.1 hpw).2.2 j hj i (by simp)
      have hl2 : ∀ j ∈ l2, i < j := fun j hj => (List.pairwise_cons.1 (List.pairwise_append.1 hpw).2.1).1 j hj
      have hunl : ∀ j ∈ l1, listed.getD j false = false := fun j hj => by
        have : j ∈ rem ops.size (listed.getD · false) := by rw [hl]; simp [hj]
        have h := (List.mem_filter.1 this).2
        dsimp only at h
        cases hx : listed.getD j false with
        | false => rfl
        | true => rw [hx] at h; cases h
      have hai : ∃ y, ais[i]? = some y := ⟨_, List.getElem?_eq_getElem (by omega)⟩
      obtain ⟨y, hy⟩ := hai
      have hsw : ∀ x ∈ opsAt ais l1, mayswap pp x y = true := by
        intro x hx
        simp only [opsAt, List.mem_filterMap] at hx
        obtain ⟨j, hj, hjx⟩ := hx
        have hji := hl1 j hj
        rcases (hok i hin).2 j hji with h | h
        · have := reach_listed (L := (listed.getD · false)) hc 8 i j hed h
          rw [hunl j hj] at this; cases this
        · rw [hjx, hy] at h
          exact h
      have hcat : ∀ (a b : List Nat), opsAt ais (a ++ b) = opsAt ais a ++ opsAt ais b := fun a b => List.filterMap_append
      have hcons : ∀ (b : List Nat), opsAt ais (i :: b) = y :: opsAt ais b := fun b => by simp [opsAt, hy]
      rw [hl, hcat, hcons] at he
      have he2 := front hk hsw he
      rw [hcons]
      rw [evOps_cons] at he2 ⊢
      obtain ⟨p, hp, he3⟩ := Option.bind_eq_some_iff.1 he2
      rw [hp]
      simp only [Option.bind_some]
      have hset : ∀ j, (listed.setIfInBounds i true).getD j false = if j = i then true else listed.getD j false := fun j => by
        simp only [Array.getD_eq_getD_getElem?, Array.getElem?_setIfInBounds]
        by_cases h : i = j
        · subst h; simp [show i < listed.size by omega]
        · simp [h, Ne.symm h]
      have hrem2 : rem ops.size ((listed.setIfInBounds i true).getD · false) = l1 ++ l2 := by
        have h1 : rem ops.size ((listed.setIfInBounds i true).getD · false) = (rem ops.size (listed.getD · false)).filter fun j => j != i := by
          simp only [rem, List.filter_filter]
          refine List.filter_congr fun j _ => ?_
          rw [hset j]
          by_cases h : j = i
          · subst h; simp
          · simp [h]
        rw [h1, hl, List.filter_append, List.filter_cons]
        have ha : l1.filter (fun j => j != i) = l1 := List.filter_eq_self.2 fun j hj => by have := hl1 j hj; simp; omega
        have hb : l2.filter (fun j => j != i) = l2 := List.filter_eq_self.2 fun j hj => by have := hl2 j hj; simp; omega
        rw [ha, hb]; simp
      refine ih _ _ _ _ (by simpa using hsz) (fun j hj e he => ?_) ?_ ?_
      · rw [hset] at hj ⊢
        split
        · rfl
        · split at hj
          · rename_i hji; rw [hji] at he; exact hed e he
          · exact hc j hj e he
      · rw [hrem2]
        rw [hl] at hf
        simp at hf ⊢
        omega
      · rw [hrem2, hcat]; exact he3

/-- Whatever the schedule. -/
theorem draw_ok (hk : KeepOk pp call) {ops : Array Oper} {ais : List AI} (hok : okDraw pp ops ais = true) {t : Nat} {T : Tm} {H : Heap} {z : Tm × Heap} (he : evOps call ais T H = some z) :
    evOps call (opsAt ais (Region.schedule true ops t)) T H = some z := by
  have hlen : ais.length = ops.size := by
    have := hok
    simp only [okDraw, Bool.and_eq_true, beq_iff_eq] at this
    exact this.1
  have h0 : ∀ i, (Array.replicate ops.size false).getD i false = false := fun i => by
    simp only [Array.getD_eq_getD_getElem?, Array.getElem?_replicate]
    split <;> rfl
  have hr : rem ops.size ((Array.replicate ops.size false).getD · false) = List.range ops.size := by
    simp only [rem]
    exact List.filter_eq_self.2 fun i _ => by simp [h0 i]
  simp only [Region.schedule, Bool.true_or, if_true, Region.linearise]
  refine schedule_ok hk hok ops.size t _ T H (by simp) (fun i hi => by rw [h0 i] at hi; cases hi) ?_ ?_
  · rw [hr]; simp
  · rw [hr, ← hlen]
    have := opsAt_range ais
    rw [this]; exact he
end
end Go.EA
