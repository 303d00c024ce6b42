/- A text's pieces: the plain law of layer 2. Conditions: none. -/
import Derived.Test.YtngcpifknomecaaDoorEMean6
import Derived.Test.YtngcpifknomecaaDoorEPrim2
import Derived.Test.YtngcpifknomecaaDoorERu
set_option linter.unusedVariables false
set_option linter.unusedSimpArgs false
namespace Go.EA

/-- Runes by turns: each run of letters, or of others. -/
def grp : List Int → List (Bool × List Int)
  | [] => []
  | r :: q => match grp q with
    | [] => [(letterB r, [r])]
    | (b, g) :: t => if b = letterB r then (b, r :: g) :: t else (letterB r, [r]) :: (b, g) :: t
def spans : Int → List (Bool × List Int) → List (Int × Int × Bool)
  | _, [] => []
  | at', (b, g) :: t => (at', at' + (encL g).length, b) :: spans (at' + (encL g).length) t
def rn (s : List UInt8) : List Int := (runes s).map (·.1)
def spL (s : List UInt8) : List (Int × Int × Bool) := if s.length ≤ 1048576 ∧ decOk s = true then spans 0 (grp (rn s)) else []
def spE (s : List UInt8) : Int := if 1048576 < s.length then 5 else if decOk s then 0 else 3

theorem grp_ne : ∀ {q : List Int}, q ≠ [] → grp q ≠ []
  | [], h => absurd rfl h
  | r :: q, _ => by
    unfold grp
    split
    · simp
    · split <;> simp
theorem grp_head : ∀ (r : Int) (q : List Int), ∃ g t, grp (r :: q) = (letterB r, r :: g) :: t := by
  intro r q
  unfold grp
  split
  · exact ⟨_, _, rfl⟩
  · split
    · next h => exact ⟨_, _, by rw [← h]⟩
    · exact ⟨_, _, rfl⟩
/-- The first run. -/
theorem grp_take (b : Bool) : ∀ (q : List Int), (q.takeWhile fun r => letterB r == b) ≠ [] → grp q = (b, q.takeWhile fun r => letterB r == b) :: grp (q.dropWhile fun r => letterB r == b)
  | [], h => absurd rfl h
  | r :: q, h => by
    by_cases hb : letterB r = b
    · have e1 : ((r :: q).takeWhile fun r => letterB r == b) = r :: q.takeWhile fun r => letterB r == b := by simp [List.takeWhile_cons, hb]
      have e2 : ((r :: q).dropWhile fun r => letterB r == b) = q.dropWhile fun r => letterB r == b := by simp [List.dropWhile_cons, hb]
      rw [e1, e2]
      cases q with
      | nil => simp [grp, hb]
      | cons r' q' =>
        by_cases hb' : letterB r' = b
        · have h' : ((r' :: q').takeWhile fun r => letterB r == b) ≠ [] := by simp [List.takeWhile_cons, hb']
          rw [grp, grp_take b (r' :: q') h']
          simp [hb]
        · have e3 : ((r' :: q').takeWhile fun r => letterB r == b) = [] := by simp [List.takeWhile_cons, hb']
          have e4 : ((r' :: q').dropWhile fun r => letterB r == b) = r' :: q' := by simp [List.dropWhile_cons, hb']
          rw [e3, e4]
          obtain ⟨g, t, e⟩ := grp_head r' q'
          rw [grp, e]
          simp only [hb]
          rw [if_neg hb']
    · exact absurd (by simp [List.takeWhile_cons, hb]) h
theorem encL_app (a b : List Int) : encL (a ++ b) = encL a ++ encL b := by simp [encL]
theorem encL_rn {s : List UInt8} (h : decOk s = true) : encL (rn s) = s := (enc_runes _ s (Nat.le_refl _) h).1
theorem valid_rn {s : List UInt8} (h : decOk s = true) : (rn s).all Utf8.valid = true := (enc_runes _ s (Nat.le_refl _) h).2
theorem rn_encL {l : List Int} (h : l.all Utf8.valid = true) : rn (encL l) = l := by
  unfold rn; rw [runes_encL l h, List.map_map]
  exact (List.map_congr_left fun _ _ => rfl).trans (List.map_id l)
theorem ok_encL {l : List Int} (h : l.all Utf8.valid = true) : decOk (encL l) = true := (dec_encL h).2.2
/-- How many bytes from its beginning on are of one sort. -/
def rowN (s : List UInt8) (b : Bool) : Int := (encL ((rn s).takeWhile fun r => letterB r == b)).length
theorem rowN_nil (b : Bool) : rowN [] b = 0 := rfl
theorem rn_cons {s : List UInt8} (h : s ≠ []) : rn s = ((dec s).1 : Int) :: rn (s.drop (dec s).2) := by
  unfold rn; rw [runes_cons h]; rfl
theorem ok_cons {s : List UInt8} (h : s ≠ []) (hk : decOk s = true) : isR s = true ∧ decOk (s.drop (dec s).2) = true ∧ Utf8.valid ((dec s).1 : Int) = true ∧ (encB ((dec s).1 : Int)).length = (dec s).2 ∧ 1 ≤ (dec s).2 ∧ (dec s).2 ≤ s.length := by
  rw [decOk_cons h, Bool.and_eq_true] at hk
  have hw := dec_width h
  obtain ⟨e1, e2⟩ := enc_dec h hk.1
  refine ⟨hk.1, hk.2, e1, ?_, hw⟩
  rw [e2, List.length_take]; omega
theorem rowN_no {s : List UInt8} {b : Bool} (h : s ≠ []) (hl : letterB ((dec s).1 : Int) ≠ b) : rowN s b = 0 := by
  unfold rowN
  rw [rn_cons h, List.takeWhile_cons]
  simp [hl, encL]
theorem rowN_yes {s : List UInt8} {b : Bool} (h : s ≠ []) (hk : decOk s = true) (hl : letterB ((dec s).1 : Int) = b) : rowN s b = (dec s).2 + rowN (s.drop (dec s).2) b := by
  obtain ⟨_, _, _, e, _⟩ := ok_cons h hk
  unfold rowN
  rw [rn_cons h, List.takeWhile_cons]
  simp only [hl, beq_self_eq_true, if_true]
  rw [encL_cons, List.length_append, e]
  push_cast; rfl
theorem rowN_le {s : List UInt8} {b : Bool} (hk : decOk s = true) : 0 ≤ rowN s b ∧ rowN s b ≤ s.length := by
  refine ⟨by unfold rowN; omega, ?_⟩
  have h1 := encL_rn hk
  have h2 : encL (rn s) = encL ((rn s).takeWhile fun r => letterB r == b) ++ encL ((rn s).dropWhile fun r => letterB r == b) := by rw [← encL_app, List.takeWhile_append_dropWhile]
  unfold rowN
  have h3 := congrArg List.length h2
  rw [h1, List.length_append] at h3
  omega
theorem all_app {l m : List Int} (h : (l ++ m).all Utf8.valid = true) : l.all Utf8.valid = true ∧ m.all Utf8.valid = true := by simpa [List.all_append] using h
/-- What is left behind the first run. -/
theorem rowN_drop {s : List UInt8} {b : Bool} (hk : decOk s = true) : rn (s.drop (rowN s b).toNat) = (rn s).dropWhile (fun r => letterB r == b) ∧ decOk (s.drop (rowN s b).toNat) = true := by
  have h0 : (rn s).takeWhile (fun r => letterB r == b) ++ (rn s).dropWhile (fun r => letterB r == b) = rn s := List.takeWhile_append_dropWhile
  have hv := valid_rn hk
  rw [← h0] at hv
  have hv2 := (all_app hv).2
  have h1 : s = encL ((rn s).takeWhile fun r => letterB r == b) ++ encL ((rn s).dropWhile fun r => letterB r == b) := by rw [← encL_app, h0, encL_rn hk]
  have h2 : s.drop (rowN s b).toNat = encL ((rn s).dropWhile fun r => letterB r == b) := by
    have h3 : (rowN s b).toNat = (encL ((rn s).takeWhile fun r => letterB r == b)).length := by unfold rowN; omega
    rw [h3]
    exact (congrArg (List.drop _) h1).trans List.drop_left
  rw [h2]
  exact ⟨rn_encL hv2, ok_encL hv2⟩
theorem rowN_z {s : List UInt8} {b : Bool} (h : s ≠ []) (hk : decOk s = true) (hz : ¬ 0 < rowN s b) : letterB ((dec s).1 : Int) = !b := by
  by_cases hl : letterB ((dec s).1 : Int) = b
  · exfalso
    have := rowN_yes h hk hl
    obtain ⟨_, hk2, _, _, h1, _⟩ := ok_cons h hk
    have := (rowN_le (b := b) hk2).1
    omega
  · cases b <;> simpa using hl
/-- One run further. -/
theorem spans_step {s : List UInt8} {b : Bool} {at' : Int} (hk : decOk s = true) (hz : 0 < rowN s b) : spans at' (grp (rn s)) = (at', at' + rowN s b, b) :: spans (at' + rowN s b) (grp (rn (s.drop (rowN s b).toNat))) := by
  have hne : ((rn s).takeWhile fun r => letterB r == b) ≠ [] := by
    intro h0
    unfold rowN at hz
    rw [h0] at hz
    simp [encL] at hz
  rw [(rowN_drop hk).1, grp_take b (rn s) hne]
  rfl
/-- What the loop of the program still has to do: twice the bytes, and one more if the sort is wrong. -/
def spM (s : List UInt8) (b : Bool) : Nat := 2 * s.length + (if s ≠ [] ∧ letterB ((dec s).1 : Int) ≠ b then 1 else 0)
theorem spM_no {s : List UInt8} {b : Bool} (h : s ≠ []) (hk : decOk s = true) (hz : ¬ 0 < rowN s b) : spM s (!b) < spM s b := by
  have := rowN_z h hk hz
  unfold spM
  rw [this]
  cases b <;> simp [h]
theorem spM_yes {s : List UInt8} {b c : Bool} (hk : decOk s = true) (hz : 0 < rowN s b) : spM (s.drop (rowN s b).toNat) c < spM s b := by
  have h1 := (rowN_le (b := b) hk)
  unfold spM
  rw [List.length_drop]
  split <;> split <;> omega

/-! ### The document's own -/
/-- A rune more. -/
def addR (out : List (Int × Int × Bool)) (at' : Int) (r : Int) : List (Int × Int × Bool) :=
  if out ≠ [] ∧ (out.getD (out.length - 1) (0, 0, false)).2.2 = letterB r then out.set (out.length - 1) ((out.getD (out.length - 1) (0, 0, false)).1, at' + (encB r).length, letterB r)
  else out ++ [(at', at' + (encB r).length, letterB r)]
def addAll : List (Int × Int × Bool) → Int → List Int → List (Int × Int × Bool)
  | out, _, [] => out
  | out, at', r :: q => addAll (addR out at' r) (at' + (encB r).length) q
theorem set_last (o : List (Int × Int × Bool)) (x y : Int × Int × Bool) : (o ++ [x]).set ((o ++ [x]).length - 1) y = o ++ [y] := by
  simp [List.set_append]
theorem get_last (o : List (Int × Int × Bool)) (x d : Int × Int × Bool) : (o ++ [x]).getD ((o ++ [x]).length - 1) d = x := by
  simp [List.getD]
theorem addR_same (o : List (Int × Int × Bool)) (f at' r : Int) : addR (o ++ [(f, at', letterB r)]) at' r = o ++ [(f, at' + (encB r).length, letterB r)] := by
  unfold addR
  rw [get_last, set_last]
  simp
theorem addR_other (o : List (Int × Int × Bool)) (f at' r : Int) (b : Bool) (h : b ≠ letterB r) : addR (o ++ [(f, at', b)]) at' r = o ++ [(f, at', b)] ++ [(at', at' + (encB r).length, letterB r)] := by
  unfold addR
  rw [get_last]
  simp [h]
theorem addAll_eq : ∀ (q : List Int) (o : List (Int × Int × Bool)) (f at' : Int) (b : Bool),
    addAll (o ++ [(f, at', b)]) at' q = match grp q with
      | [] => o ++ [(f, at', b)]
      | (b', g) :: t => if b = b' then o ++ (f, at' + (encL g).length, b) :: spans (at' + (encL g).length) t else o ++ (f, at', b) :: spans at' ((b', g) :: t)
  | [], o, f, at', b => rfl
  | r :: q, o, f, at', b => by
    rw [addAll]
    by_cases hb : b = letterB r
    · subst hb
      rw [addR_same, addAll_eq q]
      rw [grp]
      cases hg : grp q with
      | nil => simp [encL, spans]
      | cons x t =>
        obtain ⟨b', g⟩ := x
        by_cases h1 : b' = letterB r
        · subst h1
          simp only [if_true]
          have : ((encL (r :: g)).length : Int) = (encB r).length + (encL g).length := by rw [encL_cons, List.length_append]; push_cast; rfl
          rw [this, Int.add_assoc]
        · have h2 : ¬ letterB r = b' := fun h => h1 h.symm
          simp only [h1, h2, if_false, if_true, spans]
          have : encL [r] = encB r := by simp [encL]
          rw [this]
    · rw [addR_other _ _ _ _ _ hb, addAll_eq q, grp]
      cases hg : grp q with
      | nil => simp [encL, spans, hb]
      | cons x t =>
        obtain ⟨b', g⟩ := x
        by_cases h1 : b' = letterB r
        · subst h1
          simp only [hb, if_true, if_false]
          have : ((encL (r :: g)).length : Int) = (encB r).length + (encL g).length := by rw [encL_cons, List.length_append]; push_cast; rfl
          simp only [spans, this, Int.add_assoc]
          simp
        · have h2 : ¬ letterB r = b' := fun h => h1 h.symm
          simp only [h1, h2, hb, if_false, spans]
          have : encL [r] = encB r := by simp [encL]
          rw [this]
          simp
theorem addAll_nil (q : List Int) : addAll [] 0 q = spans 0 (grp q) := by
  cases q with
  | nil => rfl
  | cons r q =>
    rw [addAll]
    have h0 : addR [] 0 r = [] ++ [(0, 0 + ((encB r).length : Int), letterB r)] := by simp [addR]
    rw [h0, addAll_eq q [], grp]
    have h1 : encL [r] = encB r := by simp [encL]
    cases hg : grp q with
    | nil => simp [spans, h1]
    | cons x t =>
      obtain ⟨b', g⟩ := x
      by_cases hb : b' = letterB r
      · subst hb
        have : ((encL (r :: g)).length : Int) = (encB r).length + (encL g).length := by rw [encL_cons, List.length_append]; push_cast; rfl
        simp [spans, this]
      · have h2 : ¬ letterB r = b' := fun h => hb h.symm
        simp [hb, h2, spans, h1]
end Go.EA
