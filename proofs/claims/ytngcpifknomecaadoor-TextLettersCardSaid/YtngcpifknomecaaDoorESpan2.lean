/- A text's pieces and tokens: more of the plain law of layer 2. Conditions: none. -/
import Derived.Test.YtngcpifknomecaaDoorESpan
set_option linter.unusedVariables false
set_option linter.unusedSimpArgs false
namespace Go.EA

def toks (s : List UInt8) (l : List (Int × Int × Bool)) : List (List UInt8) := (l.filter (·.2.2)).map fun x => (s.drop x.1.toNat).take (x.2.1.toNat - x.1.toNat)
def fl (gs : List (Bool × List Int)) : List UInt8 := encL (gs.map (·.2)).flatten
theorem fl_cons (x : Bool × List Int) (gs : List (Bool × List Int)) : fl (x :: gs) = encL x.2 ++ fl gs := by simp [fl, encL_app]
theorem spans_len : ∀ (gs : List (Bool × List Int)) (a : Int), (spans a gs).length = gs.length
  | [], _ => rfl
  | (b, g) :: t, a => by simp [spans, spans_len t]
theorem spans_get : ∀ (gs : List (Bool × List Int)) (a : Int) (i : Nat), i < gs.length →
    (spans a gs).getD i (0, 0, false) = (a + (fl (gs.take i)).length, a + (fl (gs.take i)).length + (encL (gs.getD i (false, [])).2).length, (gs.getD i (false, [])).1)
  | [], _, i, h => by simp at h
  | (b, g) :: t, a, 0, _ => by simp [spans, fl, encL]
  | (b, g) :: t, a, i + 1, h => by
    have := spans_get t (a + (encL g).length) i (by simpa using h)
    simp only [spans, List.getD_cons_succ, List.take_succ_cons, fl_cons, List.length_append]
    rw [this]
    push_cast
    simp only [Int.add_assoc]
theorem grp_flat : ∀ (q : List Int), ((grp q).map (·.2)).flatten = q
  | [] => rfl
  | r :: q => by
    have h := grp_flat q
    rw [grp]
    cases hg : grp q with
    | nil => rw [hg] at h; simp at h; simp [h]
    | cons x t =>
      obtain ⟨b, g⟩ := x
      rw [hg] at h
      by_cases hb : b = letterB r
      · simp only [hb, if_true]; simpa using h
      · simp only [hb, if_false]; simpa using h
theorem grp_ok : ∀ (q : List Int), ∀ x ∈ grp q, x.2 ≠ [] ∧ ∀ r ∈ x.2, letterB r = x.1
  | [], x, h => by simp [grp] at h
  | r :: q, x, h => by
    have h0 := grp_ok q
    rw [grp] at h
    cases hg : grp q with
    | nil => rw [hg] at h; simp at h; subst h; simp
    | cons y t =>
      obtain ⟨b, g⟩ := y
      rw [hg] at h h0
      by_cases hb : b = letterB r
      · simp only [hb, if_true, List.mem_cons] at h
        rcases h with rfl | h
        · refine ⟨by simp, fun r' hr' => ?_⟩
          rcases List.mem_cons.1 hr' with rfl | hr'
          · rfl
          · exact ((h0 (b, g) (by simp)).2 r' hr').trans hb
        · exact h0 x (by simp [h])
      · simp only [hb, if_false, List.mem_cons] at h
        rcases h with rfl | h
        · simp
        · exact h0 x (by simpa using h)
theorem grp_alt : ∀ (q : List Int) (i : Nat), i + 1 < (grp q).length → ((grp q).getD i (false, [])).1 ≠ ((grp q).getD (i + 1) (false, [])).1
  | [], i, h => by simp [grp] at h
  | r :: q, i, h => by
    have h0 := grp_alt q
    rw [grp] at h ⊢
    cases hg : grp q with
    | nil => rw [hg] at h; simp at h
    | cons y t =>
      obtain ⟨b, g⟩ := y
      rw [hg] at h h0
      by_cases hb : b = letterB r
      · simp only [hb, if_true] at h ⊢
        have := h0 i (by simpa using h)
        cases i with
        | zero => simpa [hb] using this
        | succ i => simpa using this
      · simp only [hb, if_false] at h ⊢
        cases i with
        | zero => simp; exact fun h => hb h.symm
        | succ i => simpa using h0 i (by simpa using h)
/-- A piece of the text. -/
theorem piece {q : List Int} {i : Nat} (h : i < (grp q).length) :
    ((encL q).drop (fl ((grp q).take i)).length).take (encL ((grp q).getD i (false, [])).2).length = encL ((grp q).getD i (false, [])).2 ∧ (fl ((grp q).take i)).length + (encL ((grp q).getD i (false, [])).2).length ≤ (encL q).length := by
  have h1 : encL q = fl ((grp q).take i) ++ (encL ((grp q).getD i (false, [])).2 ++ fl ((grp q).drop (i + 1))) := by
    rw [← fl_cons, ← drop_cons (false, []) h]
    have := grp_flat q
    conv => lhs; rw [← this, ← List.take_append_drop i (grp q), List.map_append, List.flatten_append, encL_app]
    rfl
  constructor
  · conv => lhs; rw [h1]
    rw [List.drop_left, List.take_left]
  · rw [h1]; simp only [List.length_append]; omega
theorem encB_pos {r : Int} (h : Utf8.valid r = true) : 1 ≤ (encB r).length := by
  have := encB_ne h
  cases hx : encB r with
  | nil => exact absurd hx this
  | cons _ _ => simp
theorem encL_pos {l : List Int} (h : l ≠ []) (hv : l.all Utf8.valid = true) : 1 ≤ (encL l).length := by
  cases l with
  | nil => exact absurd rfl h
  | cons r t =>
    simp at hv
    have := encB_pos hv.1
    rw [encL_cons, List.length_append]; omega
/-- Each span: where it is, what it is of. -/
structure SpAt (s : List UInt8) (i : Nat) (x : Int × Int × Bool) : Prop where
  lo : 0 ≤ x.1
  lt : x.1 < x.2.1
  hi : x.2.1 ≤ s.length
  ok : decOk ((s.drop x.1.toNat).take (x.2.1.toNat - x.1.toNat)) = true
  is : ∀ r ∈ rn ((s.drop x.1.toNat).take (x.2.1.toNat - x.1.toNat)), letterB r = x.2.2
  fst : i = 0 → x.1 = 0
  nxt : ∀ j, i = j + 1 → ((spL s).getD j (0, 0, false)).2.1 = x.1 ∧ ((spL s).getD j (0, 0, false)).2.2 ≠ x.2.2
  lst : i + 1 = (spL s).length → x.2.1 = s.length
theorem spL_ok {s : List UInt8} {i : Nat} (h : i < (spL s).length) : spL s = spans 0 (grp (rn s)) ∧ decOk s = true ∧ s.length ≤ 1048576 ∧ i < (grp (rn s)).length := by
  unfold spL at h ⊢
  split at h
  · next h1 => rw [if_pos h1]; exact ⟨rfl, h1.2, h1.1, by rwa [spans_len] at h⟩
  · simp at h
theorem spL_at {s : List UInt8} {i : Nat} (h : i < (spL s).length) : SpAt s i ((spL s).getD i (0, 0, false)) := by
  obtain ⟨e, hk, hs, hi⟩ := spL_ok h
  have he := encL_rn hk
  obtain ⟨p1, p2⟩ := piece hi
  rw [he] at p1 p2
  have hg := grp_ok (rn s) ((grp (rn s)).getD i (false, [])) (by rw [List.getD_eq_getElem?_getD, List.getElem?_eq_getElem hi]; exact List.getElem_mem hi)
  have hflat := grp_flat (rn s)
  have hva := valid_rn hk
  have hv : ((grp (rn s)).getD i (false, [])).2.all Utf8.valid = true := by
    rw [List.all_eq_true] at hva ⊢
    intro r hr
    apply hva
    rw [← hflat, List.mem_flatten]
    exact ⟨_, List.mem_map_of_mem (by rw [List.getD_eq_getElem?_getD, List.getElem?_eq_getElem hi]; exact List.getElem_mem hi), hr⟩
  have hp := encL_pos hg.1 hv
  have hx := spans_get (grp (rn s)) 0 i hi
  have hcut : (s.drop ((0 : Int) + (fl ((grp (rn s)).take i)).length).toNat).take (((0 : Int) + (fl ((grp (rn s)).take i)).length + (encL ((grp (rn s)).getD i (false, [])).2).length).toNat - ((0 : Int) + (fl ((grp (rn s)).take i)).length).toNat) = encL ((grp (rn s)).getD i (false, [])).2 := by
    rw [show ((0 : Int) + (fl ((grp (rn s)).take i)).length).toNat = (fl ((grp (rn s)).take i)).length by omega,
      show ((0 : Int) + (fl ((grp (rn s)).take i)).length + (encL ((grp (rn s)).getD i (false, [])).2).length).toNat - (fl ((grp (rn s)).take i)).length = (encL ((grp (rn s)).getD i (false, [])).2).length by omega]
    exact p1
  have hlen : (spL s).length = (grp (rn s)).length := by rw [e, spans_len]
  have htk : ∀ j, i = j + 1 → (fl ((grp (rn s)).take (j + 1))).length = (fl ((grp (rn s)).take j)).length + (encL ((grp (rn s)).getD j (false, [])).2).length := fun j hj => by
    have hj' : j < (grp (rn s)).length := by omega
    have : (grp (rn s)).take (j + 1) = (grp (rn s)).take j ++ [(grp (rn s)).getD j (false, [])] := by
      rw [List.take_add_one, List.getD_eq_getElem?_getD, List.getElem?_eq_getElem hj']; rfl
    rw [this]
    unfold fl
    rw [List.map_append, List.flatten_append, encL_app, List.length_append]
    simp
  constructor
  · rw [e, hx]; dsimp only; omega
  · rw [e, hx]; dsimp only; omega
  · rw [e, hx]; dsimp only; omega
  · rw [e, hx]; dsimp only; rw [hcut]; exact ok_encL hv
  · rw [e, hx]; dsimp only; rw [hcut, rn_encL hv]; exact hg.2
  · intro h0; subst h0; rw [e, hx]; simp [fl, encL]
  · intro j hj
    have hj' : j < (grp (rn s)).length := by omega
    rw [e, hx, spans_get _ 0 j hj']
    dsimp only
    refine ⟨?_, ?_⟩
    · subst hj; rw [htk j rfl]; push_cast; omega
    · subst hj; exact grp_alt (rn s) j hi
  · intro hl
    rw [e, hx]
    dsimp only
    have h1 : (grp (rn s)).take (i + 1) = grp (rn s) := List.take_of_length_le (by omega)
    have h2 : fl (grp (rn s)) = s := by unfold fl; rw [hflat, he]
    have h3 : (grp (rn s)).take (i + 1) = (grp (rn s)).take i ++ [(grp (rn s)).getD i (false, [])] := by
      rw [List.take_add_one, List.getD_eq_getElem?_getD, List.getElem?_eq_getElem hi]; rfl
    have h4 : s.length = (fl ((grp (rn s)).take i)).length + (encL ((grp (rn s)).getD i (false, [])).2).length := by
      conv => lhs; rw [← h2, ← h1, h3]
      unfold fl
      rw [List.map_append, List.flatten_append, encL_app, List.length_append]
      simp
    omega
theorem spL_len (s : List UInt8) : (spL s).length ≤ 1048576 := by
  by_cases h : 0 < (spL s).length
  · obtain ⟨e, hk, hs, hi⟩ := spL_ok h
    have hg : ∀ q : List Int, (grp q).length ≤ q.length := by
      intro q
      induction q with
      | nil => simp [grp]
      | cons r q ih =>
        rw [grp]
        split
        · simp
        · next h => rw [h] at ih; split <;> simp at * <;> omega
    have := hg (rn s)
    have h2 : (rn s).length ≤ s.length := by unfold rn; rw [List.length_map]; exact runes_len s
    rw [e, spans_len]; omega
  · omega

/-! ### Tokens -/
def tokT (q : List Int) : List (List UInt8) := ((grp q).filter (·.1)).map fun x => encL x.2
theorem toks_spans : ∀ (gs : List (Bool × List Int)) (P s : List UInt8), s = P ++ fl gs → toks s (spans P.length gs) = (gs.filter (·.1)).map fun x => encL x.2
  | [], _, _, _ => rfl
  | (b, g) :: t, P, s, h => by
    rw [fl_cons, ← List.append_assoc] at h
    have h1 := toks_spans t (P ++ encL g) s h
    rw [List.length_append] at h1
    push_cast at h1
    unfold toks at h1 ⊢
    rw [spans]
    cases b
    · simpa using h1
    · simp only [List.filter_cons, if_true, List.map_cons, h1]
      congr 1
      rw [show ((P.length : Int)).toNat = P.length by omega, show ((P.length : Int) + ((encL g).length : Int)).toNat - P.length = (encL g).length by omega, h, List.append_assoc, List.drop_left, List.take_left]
theorem toks_spL {s : List UInt8} (h : s.length ≤ 1048576) (hk : decOk s = true) : toks s (spL s) = tokT (rn s) := by
  unfold spL tokT
  rw [if_pos ⟨h, hk⟩]
  exact toks_spans (grp (rn s)) [] s (by unfold fl; rw [grp_flat, encL_rn hk]; rfl)
/-- The token that is begun, those behind it. -/
def tk : List Int → List Int × List (List Int)
  | [] => ([], [])
  | r :: q => if letterB r = true then (r :: (tk q).1, (tk q).2) else ([], if (tk q).1 = [] then (tk q).2 else (tk q).1 :: (tk q).2)
def tokG (q : List Int) : List (List Int) := if (tk q).1 = [] then (tk q).2 else (tk q).1 :: (tk q).2
theorem grp_tk : ∀ (q : List Int), ((grp q).filter (·.1)).map (·.2) = tokG q ∧ (∀ b g t, grp q = (b, g) :: t → (tk q).1 = if b = true then g else []) ∧ (grp q = [] → (tk q).1 = [])
  | [] => ⟨rfl, fun b g t h => by simp [grp] at h, fun _ => rfl⟩
  | r :: q => by
    obtain ⟨h1, h2, h3⟩ := grp_tk q
    unfold tokG at h1 ⊢
    rw [grp, tk]
    cases hg : grp q with
    | nil =>
      have h4 := h3 hg
      rw [hg] at h1
      cases hl : letterB r
      · refine ⟨?_, fun b' g' t' a => ?_, fun a => ?_⟩ <;> simp_all
      · refine ⟨?_, fun b' g' t' a => ?_, fun a => ?_⟩ <;> simp_all
    | cons y t =>
      obtain ⟨b, g⟩ := y
      have h4 := h2 b g t hg
      have hne : g ≠ [] := (grp_ok q (b, g) (by simp [hg])).1
      rw [hg] at h1
      clear h2 h3 hg
      cases hl : letterB r
      · cases b
        · refine ⟨?_, fun b' g' t' a => ?_, fun a => ?_⟩ <;> simp_all
        · refine ⟨?_, fun b' g' t' a => ?_, fun a => ?_⟩ <;> simp_all
      · cases b
        · refine ⟨?_, fun b' g' t' a => ?_, fun a => ?_⟩ <;> simp_all
        · refine ⟨?_, fun b' g' t' a => ?_, fun a => ?_⟩ <;> simp_all
theorem tokT_eq (q : List Int) : tokT q = (tokG q).map encL := by
  unfold tokT
  rw [← (grp_tk q).1, List.map_map]
  rfl
theorem tk_app {r : Int} (h : letterB r = false) (q : List Int) : ∀ (p : List Int), tk (p ++ r :: q) = ((tk p).1, (tk p).2 ++ tokG q)
  | [] => by simp [tk, h, tokG]
  | x :: p => by
    rw [List.cons_append, tk, tk_app h q p, tk]
    by_cases hx : letterB x = true
    · simp [hx]
    · by_cases h0 : (tk p).1 = []
      · simp [hx, h0]
      · simp [hx, h0]
theorem tokG_app {r : Int} (h : letterB r = false) (p q : List Int) : tokG (p ++ r :: q) = tokG p ++ tokG q := by
  conv => lhs; unfold tokG
  rw [tk_app h q p]
  unfold tokG
  split <;> split <;> simp
theorem tokT_app {r : Int} (h : letterB r = false) (p q : List Int) : tokT (p ++ r :: q) = tokT p ++ tokT q := by
  rw [tokT_eq, tokG_app h, List.map_append, ← tokT_eq, ← tokT_eq]
theorem tk_let : ∀ {p : List Int}, p.all letterB = true → tk p = (p, [])
  | [], _ => rfl
  | r :: p, h => by
    simp at h
    rw [tk, tk_let (p := p) (by simpa using h.2)]
    simp [h.1]
theorem tokT_let {p : List Int} (h : p.all letterB = true) (hn : p ≠ []) : tokT p = [encL p] := by
  rw [tokT_eq]; unfold tokG; rw [tk_let h]; simp [hn]
theorem tokG_none : ∀ {p : List Int} (q : List Int), (∀ r ∈ p, letterB r = false) → tokG (p ++ q) = tokG q
  | [], _, _ => rfl
  | r :: p, q, h => by
    have := tokG_app (r := r) (h r (by simp)) [] (p ++ q)
    simp only [List.nil_append] at this
    rw [List.cons_append, this, tokG_none q fun x hx => h x (by simp [hx])]
    rfl
end Go.EA
