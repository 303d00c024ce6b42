/- Layer 1: the program's runes. Conditions: none. (Printed by a program of this project's own.) -/
import Derived.Test.YtmfjbaepgfdfpaaDoorEAf1
import Derived.Test.YtmfjbaepgfdfpaaDoorEK9
import Derived.Test.YtmfjbaepgfdfpaaDoorEMean6
import Derived.Test.YtmfjbaepgfdfpaaDoorERx
import Derived.Test.YtmfjbaepgfdfpaaDoorECmp
import Derived.Test.YtmfjbaepgfdfpaaDoorERf
import Derived.KernelRfl
set_option linter.unusedVariables false
set_option linter.unusedSimpArgs false
set_option maxRecDepth 100000
set_option maxHeartbeats 0
namespace Go.EA
open F
def K69 : Con := ⟨true, [none], fun xs => match xs with | [.one (.str s)] => some (.tup [.o (.int .i32 (dec s).1), .o (.int .i64 (dec s).2)], []) | _ => none⟩
theorem un_dec : UnG gDec := by
  have key : ∀ {H xs v}, LookR gDec H xs v → ∃ c, gDec xs = some (v, c) := by
    intro H xs v h
    rcases h with ⟨c, hg, _⟩ | ⟨_, ys, c, hi, hg, _⟩
    · exact ⟨c, hg⟩
    · refine ⟨c, ?_⟩
      have hg0 := hg
      unfold gDec at hg
      split at hg
      · obtain ⟨z, zs, rfl, h1, h2⟩ := hi.cons_inv
        obtain ⟨z', rfl, h1⟩ := h1
        simp only [Im] at h1
        subst h1
        rw [h2.nil_inv]
        exact hg0
      · cases hg
  intro H xs v v' h h'
  obtain ⟨c, h1⟩ := key h
  obtain ⟨c', h2⟩ := key h'
  rw [h1] at h2
  cases h2
  rfl
theorem K69_ok : ConG gDec K69 := ⟨un_dec, fun xs v cs h hc => by
  simp only [K69] at h
  split at h
  · cases h; exact ⟨[], rfl, hc⟩
  · cases h⟩
theorem isR_of {t : List UInt8} (h : ¬ ((dec t).1 : Int) = 65533 ∨ 1 < ((dec t).2 : Int)) : isR t = true := by
  unfold isR
  rcases h with h | h
  · rw [decide_eq_true h]; rfl
  · rw [decide_eq_true (show 1 < (dec t).2 by omega), Bool.or_true]
theorem isR_no {t : List UInt8} (h : ((dec t).1 : Int) = 65533) (h1 : ¬ 1 < ((dec t).2 : Int)) : isR t = false := by
  unfold isR
  rw [decide_eq_false (by simp [h]), decide_eq_false (by omega)]; rfl
theorem runes_step {s t : List UInt8} {o : List Int} (h : runes s = (o.map fun r => (r, true)) ++ runes t) (ht : t ≠ []) (hr : isR t = true) : runes s = ((o ++ [((dec t).1 : Int)]).map fun r => (r, true)) ++ runes (t.drop (dec t).2) := by
  rw [h, runes_cons ht, hr]; simp
theorem runes_bad {s t : List UInt8} {o : List Int} (h : runes s = (o.map fun r => (r, true)) ++ runes t) (ht : t ≠ []) (hr : isR t = false) : decR s = [] ∧ decE s = 3 := by
  have hk : decOk s = false := by
    unfold decOk
    rw [h, runes_cons ht, hr]
    simp
  unfold decR decE
  rw [hk]
  exact ⟨rfl, rfl⟩
theorem runes_room {s t : List UInt8} {o : List Int} (h : runes s = (o.map fun r => (r, true)) ++ runes t) : o.length ≤ s.length := by
  have h1 := congrArg List.length h
  have := runes_len s
  simp at h1
  omega
theorem ne_len {t : List UInt8} (h : 0 < (t.length : Int)) : t ≠ [] := by rintro rfl; simp at h
theorem nil_len {t : List UInt8} (h : ¬ 0 < (t.length : Int)) : t = [] := List.eq_nil_of_length_eq_zero (by omega)
theorem letters_of {s : List UInt8} {o : List Int} (h : runes s = (o.map fun r => (r, true)) ++ runes []) (ho : o.all letterB = true) : lettersB s = decide (s ≠ []) := by
  obtain ⟨e1, e2⟩ := d19_end h
  unfold lettersB
  rw [e1, e2, ho, Bool.and_true]
  by_cases hs : s = []
  · subst hs
    have : o = [] := by
      simp only [runes_nil, List.append_nil] at h
      exact List.map_eq_nil_iff.1 h.symm
    subst this; rfl
  · have : 0 < o.length := by
      have h1 := congrArg List.length h
      rw [runes_cons hs] at h1
      simp [runes_nil] at h1
      omega
    simp [hs, this]
theorem letters_no {s t : List UInt8} {o : List Int} (h : runes s = (o.map fun r => (r, true)) ++ runes t) (ht : t ≠ []) (hl : isR t = true → letterB (dec t).1 = false) : lettersB s = false := by
  cases hr : isR t
  · obtain ⟨_, e⟩ := runes_bad h ht hr
    exact let_u (by omega)
  · unfold lettersB
    by_cases hk : decE s = 0
    · have hd : decR s = (runes s).map (·.1) := by unfold decR; rw [if_pos (decE_zero.1 hk)]
      rw [hd, h, runes_cons ht]
      simp [hl hr]
    · rw [decide_eq_false hk]; rfl
def P55 : Int → List SV := fun r => [.one (.int .i32 r)]
def R55 : Int → SV × List Prop := fun r => (.one (.bool (Utf8.valid r)), [])
def K55 : Con := ⟨true, [none], fun xs => match xs with | [.one (.int .i32 r)] => some (R55 r) | _ => none⟩
noncomputable def G55 : GP := conG P55 R55
theorem P55_inj : ∀ a b, (P55 a).map den0 = (P55 b).map den0 → a = b := by
  rintro a0 b0 h
  simp only [P55, List.map_cons, List.map_nil, den0, den0L, List.cons.injEq, AV.one.injEq, AV.agg.injEq, Lf.int.injEq, Lf.str.injEq, Lf.bool.injEq, Lf.vrow.injEq, and_true, true_and] at h
  exact h
theorem K55_ok : ConG G55 K55 := conG_of P55_inj (fun _ _ => rfl) (fun _ => rfl) fun xs r h => by
  simp only [K55] at h
  split at h
  · cases h; rename_i r; exact ⟨r, rfl, rfl⟩
  · cases h
theorem pr55 {S : SC} (hB : SB S)  (h55 : S.has 55 f55) : PrOk S 55 (pureP G55) := by
  refine prM hB [] [] trivial trivial h55 (fun _ => ⟨rfl, rfl, rfl⟩) (fun r => fun _ _ _ _ => none) 400 ?_
  rintro r hc
  refine VC.use (p :=
    ((0 ≤ r →
      ((r < 55296 →
        (true = Utf8.valid r)) ∧
      (¬r < 55296 →
       ((57343 < r →
         ((r ≤ 1114111 →
           (true = Utf8.valid r)) ∧
         (¬r ≤ 1114111 →
          (false = Utf8.valid r)))) ∧
       (¬57343 < r →
        (false = Utf8.valid r)))))) ∧
    (¬0 ≤ r →
     ((57343 < r →
       ((r ≤ 1114111 →
         (true = Utf8.valid r)) ∧
       (¬r ≤ 1114111 →
        (false = Utf8.valid r)))) ∧
     (¬57343 < r →
      (false = Utf8.valid r)))))) (by kernel_rfl) ?_
  repeat' (first | intro h | apply And.intro)
  all_goals
    rw [Bool.eq_iff_iff]
    simp [valid_iff]
    omega
def P59 : Int × Int × Int → List SV := fun (r, lo, hi) => [.one (.int .i32 r), .one (.int .i32 lo), .one (.int .i32 hi)]
def R59 : Int × Int × Int → SV × List Prop := fun (r, lo, hi) => (.one (.bool (decide (lo ≤ r) && decide (r ≤ hi))), [])
def K59 : Con := ⟨true, [none, none, none], fun xs => match xs with | [.one (.int .i32 r), .one (.int .i32 lo), .one (.int .i32 hi)] => some (R59 (r, lo, hi)) | _ => none⟩
noncomputable def G59 : GP := conG P59 R59
theorem P59_inj : ∀ a b, (P59 a).map den0 = (P59 b).map den0 → a = b := by
  rintro ⟨a0, a1, a2⟩ ⟨b0, b1, b2⟩ h
  simp only [P59, List.map_cons, List.map_nil, den0, den0L, List.cons.injEq, AV.one.injEq, AV.agg.injEq, Lf.int.injEq, Lf.str.injEq, Lf.bool.injEq, Lf.vrow.injEq, and_true, true_and, and_assoc] at h
  obtain ⟨h0, h1, h2⟩ := h
  subst h0 h1 h2
  rfl
theorem K59_ok : ConG G59 K59 := conG_of P59_inj (fun ⟨_, _, _⟩ ⟨_, _, _⟩ => rfl) (fun ⟨_, _, _⟩ => rfl) fun xs r h => by
  simp only [K59] at h
  split at h
  · cases h; rename_i r lo hi; exact ⟨(r, lo, hi), rfl, rfl⟩
  · cases h
theorem pr59 {S : SC} (hB : SB S)  (h59 : S.has 59 f59) : PrOk S 59 (pureP G59) := by
  refine prM hB [] [] trivial trivial h59 (fun ⟨r, lo, hi⟩ => ⟨rfl, rfl, rfl⟩) (fun (r, lo, hi) => fun _ _ _ _ => none) 400 ?_
  rintro ⟨r, lo, hi⟩ hc
  refine VC.use (p :=
    ((lo ≤ r →
      (decide (r ≤ hi) = (decide (lo ≤ r) && decide (r ≤ hi)))) ∧
    (¬lo ≤ r →
     (false = (decide (lo ≤ r) && decide (r ≤ hi)))))) (by kernel_rfl) ?_
  exact ⟨fun h => by rw [decide_eq_true h]; rfl, fun h => by rw [decide_eq_false h]; rfl⟩
def P35 : Int → List SV := fun r => [.one (.int .i32 r)]
def R35 : Int → SV × List Prop := fun r => (.one (.bool (letterB r)), [])
def K35 : Con := ⟨true, [none], fun xs => match xs with | [.one (.int .i32 r)] => some (R35 r) | _ => none⟩
noncomputable def G35 : GP := conG P35 R35
theorem P35_inj : ∀ a b, (P35 a).map den0 = (P35 b).map den0 → a = b := by
  rintro a0 b0 h
  simp only [P35, List.map_cons, List.map_nil, den0, den0L, List.cons.injEq, AV.one.injEq, AV.agg.injEq, Lf.int.injEq, Lf.str.injEq, Lf.bool.injEq, Lf.vrow.injEq, and_true, true_and] at h
  exact h
theorem K35_ok : ConG G35 K35 := conG_of P35_inj (fun _ _ => rfl) (fun _ => rfl) fun xs r h => by
  simp only [K35] at h
  split at h
  · cases h; rename_i r; exact ⟨r, rfl, rfl⟩
  · cases h
theorem pr35 {S : SC} (hB : SB S) (q55 : PrOk S 55 (pureP G55)) (q59 : PrOk S 59 (pureP G59)) (h35 : S.has 35 f35) : PrOk S 35 (pureP G35) := by
  refine prM hB [] [⟨55, G55, K55⟩, ⟨59, G59, K59⟩] trivial ⟨⟨q55, K55_ok⟩, ⟨q59, K59_ok⟩, trivial⟩ h35 (fun _ => ⟨rfl, rfl, rfl⟩) (fun r => fun _ _ _ _ => none) 400 ?_
  rintro r hc
  refine VC.use (p :=
    (((!Utf8.valid r) = true →
      (((!Utf8.valid r) = true →
        (false = letterB r)) ∧
      (¬(!Utf8.valid r) = true →
       ((192 ≤ r →
         (true = letterB r)) ∧
       (¬192 ≤ r →
        (((decide (65 ≤ r) && decide (r ≤ 90)) = true →
          (true = letterB r)) ∧
        (¬(decide (65 ≤ r) && decide (r ≤ 90)) = true →
         ((decide (97 ≤ r) && decide (r ≤ 122)) = letterB r)))))))) ∧
    (¬(!Utf8.valid r) = true →
     ((r = 215 →
       ((r = 215 →
         (false = letterB r)) ∧
       (¬r = 215 →
        ((192 ≤ r →
          (true = letterB r)) ∧
        (¬192 ≤ r →
         (((decide (65 ≤ r) && decide (r ≤ 90)) = true →
           (true = letterB r)) ∧
         (¬(decide (65 ≤ r) && decide (r ≤ 90)) = true →
          ((decide (97 ≤ r) && decide (r ≤ 122)) = letterB r)))))))) ∧
     (¬r = 215 →
      ((r = 247 →
        ((r = 247 →
          (false = letterB r)) ∧
        (¬r = 247 →
         ((192 ≤ r →
           (true = letterB r)) ∧
         (¬192 ≤ r →
          (((decide (65 ≤ r) && decide (r ≤ 90)) = true →
            (true = letterB r)) ∧
          (¬(decide (65 ≤ r) && decide (r ≤ 90)) = true →
           ((decide (97 ≤ r) && decide (r ≤ 122)) = letterB r)))))))) ∧
      (¬r = 247 →
       (((decide (8192 ≤ r) && decide (r ≤ 8303)) = true →
         (false = letterB r)) ∧
       (¬(decide (8192 ≤ r) && decide (r ≤ 8303)) = true →
        ((192 ≤ r →
          (true = letterB r)) ∧
        (¬192 ≤ r →
         (((decide (65 ≤ r) && decide (r ≤ 90)) = true →
           (true = letterB r)) ∧
         (¬(decide (65 ≤ r) && decide (r ≤ 90)) = true →
          ((decide (97 ≤ r) && decide (r ≤ 122)) = letterB r)))))))))))))) (by kernel_rfl) ?_
  have hv1 : 65 ≤ r → r ≤ 122 → Utf8.valid r = true := fun a b => valid_iff.2 (by omega)
  cases hv : Utf8.valid r
  all_goals
    unfold letterB
    rw [hv]
  repeat' (first | intro h | apply And.intro)
  all_goals
    (try simp only [Bool.and_eq_true, decide_eq_true_eq, Bool.not_eq_true, Bool.and_eq_false_iff, decide_eq_false_iff_not, Bool.not_true, Bool.not_false] at *)
    rw [Bool.eq_iff_iff]
    first
      | (simp; omega)
      | (simp at *; done)
      | (simp at *; omega)
def P17 : List UInt8 → List SV := fun s => [.one (.str s)]
def R17 : List UInt8 → SV × List Prop := fun s => (.tup [.o (.row (.int .i32) (decR s)), .o (.int .i64 (decE s))], [s.length ≤ 1099511627776])
def K17 : Con := ⟨false, [none], fun xs => match xs with | [.one (.str s)] => some (R17 s) | _ => none⟩
noncomputable def G17 : GP := conG P17 R17
theorem P17_inj : ∀ a b, (P17 a).map den0 = (P17 b).map den0 → a = b := by
  rintro a0 b0 h
  simp only [P17, List.map_cons, List.map_nil, den0, den0L, List.cons.injEq, AV.one.injEq, AV.agg.injEq, Lf.int.injEq, Lf.str.injEq, Lf.bool.injEq, Lf.vrow.injEq, and_true, true_and] at h
  exact h
theorem K17_ok : ConG G17 K17 := conG_of P17_inj (fun _ _ => rfl) (fun _ => rfl) fun xs r h => by
  simp only [K17] at h
  split at h
  · cases h; rename_i s; exact ⟨s, rfl, rfl⟩
  · cases h
theorem pr17 {S : SC} (hB : SB S) (q69 : PrOk S 69 (pureP gDec)) (h45 : S.has 45 f45) (h68 : S.has 68 f68) (h17 : S.has 17 f17) : PrOk S 17 (pureP G17) := by
  refine prM hB [(45, f45), (68, f68)] [⟨69, gDec, K69⟩] ⟨h45, h68, trivial⟩ ⟨⟨q69, K69_ok⟩, trivial⟩ h17 (fun _ => ⟨rfl, rfl, rfl⟩) (fun s => fun f id T L => match f, id with
      | 68, 0 => some (.inv { p : List UInt8 × List Int // runes s = (p.2.map fun r => (r, true)) ++ runes p.1 } (fun x => ([], [(0, .cell [.osl 4]), (2, .cell [.str x.1.1]), (4, .row (.int .i32) x.1.2)])) (fun x => x.1.1.length))
      | _, _ => none) 600 ?_
  rintro s hc
  have hc1 : s.length ≤ 1099511627776 := hc.1
  refine VC.use (p :=
    ((∃ x1 : { p : List UInt8 × List Int // runes s = List.map (fun r => (r, true)) p.snd ++ runes p.fst },
      ((x1.val.snd = []) ∧
      (((0 : Int) = (0 : Int)) ∧
      ((s = x1.val.fst) ∧
      (x1.val.snd = []))))) ∧
    (∀ x1 : { p : List UInt8 × List Int // runes s = List.map (fun r => (r, true)) p.snd ++ runes p.fst },
     ((0 < (↑x1.val.fst.length : Int) →
       (((↑(dec x1.val.fst).fst : Int) = 65533 →
         ((1 < (↑(dec x1.val.fst).snd : Int) →
           (((x1.val.snd.length + [(↑(dec x1.val.fst).fst : Int)].length) * 4 ≤ 140737488355328) ∧
           ((0 ≤ (↑(dec x1.val.fst).snd : Int) ∧ (↑(dec x1.val.fst).snd : Int) ≤ (↑x1.val.fst.length : Int)) ∧
           (∃ x2 : { p : List UInt8 × List Int // runes s = List.map (fun r => (r, true)) p.snd ++ runes p.fst },
            ((x2.val.fst.length < x1.val.fst.length) ∧
            (((0 : Int) = (0 : Int)) ∧
            ((cutR x1.val.fst (some (↑(dec x1.val.fst).snd : Int)) none = x2.val.fst) ∧
            (x1.val.snd ++ [(↑(dec x1.val.fst).fst : Int)] = x2.val.snd)))))))) ∧
         (¬1 < (↑(dec x1.val.fst).snd : Int) →
          ((decR s = []) ∧
          (3 = decE s))))) ∧
       (¬(↑(dec x1.val.fst).fst : Int) = 65533 →
        (((x1.val.snd.length + [(↑(dec x1.val.fst).fst : Int)].length) * 4 ≤ 140737488355328) ∧
        ((0 ≤ (↑(dec x1.val.fst).snd : Int) ∧ (↑(dec x1.val.fst).snd : Int) ≤ (↑x1.val.fst.length : Int)) ∧
        (∃ x2 : { p : List UInt8 × List Int // runes s = List.map (fun r => (r, true)) p.snd ++ runes p.fst },
         ((x2.val.fst.length < x1.val.fst.length) ∧
         (((0 : Int) = (0 : Int)) ∧
         ((cutR x1.val.fst (some (↑(dec x1.val.fst).snd : Int)) none = x2.val.fst) ∧
         (x1.val.snd ++ [(↑(dec x1.val.fst).fst : Int)] = x2.val.snd)))))))))) ∧
     (¬0 < (↑x1.val.fst.length : Int) →
      ((x1.val.snd = decR s) ∧
      (0 = decE s))))))) (by kernel_rfl) ?_
  refine ⟨⟨⟨(s, []), rfl⟩, rfl, rfl, rfl, rfl⟩, ?_⟩
  rintro ⟨⟨t, o⟩, h⟩
  dsimp only at h ⊢
  have hl := runes_room h
  have go : 0 < (t.length : Int) → isR t = true → (o.length + 1) * 4 ≤ 140737488355328 ∧ (0 ≤ ((dec t).2 : Int) ∧ ((dec t).2 : Int) ≤ (t.length : Int)) ∧ ∃ x2 : { p : List UInt8 × List Int // runes s = List.map (fun r => (r, true)) p.snd ++ runes p.fst }, x2.val.fst.length < t.length ∧ (0 : Int) = 0 ∧ cutR t (some ((dec t).2 : Int)) none = x2.val.fst ∧ o ++ [((dec t).1 : Int)] = x2.val.snd := fun h0 hr => by
    have hw := dec_width (ne_len h0)
    refine ⟨by omega, by omega, ⟨(t.drop (dec t).2, o ++ [((dec t).1 : Int)]), runes_step h (ne_len h0) hr⟩, ?_, rfl, rfl, rfl⟩
    show (t.drop _).length < _
    rw [List.length_drop]; omega
  refine ⟨fun h0 => ⟨fun h1 => ⟨fun h2 => go h0 (isR_of (.inr h2)), fun h2 => ?_⟩, fun h1 => go h0 (isR_of (.inl h1))⟩, fun h0 => ?_⟩
  · obtain ⟨e1, e2⟩ := runes_bad h (ne_len h0) (isR_no h1 h2)
    exact ⟨e1, e2.symm⟩
  · obtain rfl := nil_len h0
    obtain ⟨e1, e2⟩ := d19_end h
    exact ⟨e1.symm, e2.symm⟩
def P20 : List UInt8 → List SV := fun s => [.one (.str s)]
def R20 : List UInt8 → SV × List Prop := fun s => (.tup [.o (.row (.int .i32) (tokR s)), .o (.int .i64 (tokE s))], [s.length ≤ 1099511627776])
def K20 : Con := ⟨false, [none], fun xs => match xs with | [.one (.str s)] => some (R20 s) | _ => none⟩
noncomputable def G20 : GP := conG P20 R20
theorem P20_inj : ∀ a b, (P20 a).map den0 = (P20 b).map den0 → a = b := by
  rintro a0 b0 h
  simp only [P20, List.map_cons, List.map_nil, den0, den0L, List.cons.injEq, AV.one.injEq, AV.agg.injEq, Lf.int.injEq, Lf.str.injEq, Lf.bool.injEq, Lf.vrow.injEq, and_true, true_and] at h
  exact h
theorem K20_ok : ConG G20 K20 := conG_of P20_inj (fun _ _ => rfl) (fun _ => rfl) fun xs r h => by
  simp only [K20] at h
  split at h
  · cases h; rename_i s; exact ⟨s, rfl, rfl⟩
  · cases h
theorem pr20 {S : SC} (hB : SB S) (q17 : PrOk S 17 (pureP G17)) (h20 : S.has 20 f20) : PrOk S 20 (pureP G20) := by
  refine prM hB [] [⟨17, G17, K17⟩] trivial ⟨⟨q17, K17_ok⟩, trivial⟩ h20 (fun _ => ⟨rfl, rfl, rfl⟩) (fun s => fun _ _ _ _ => none) 400 ?_
  rintro s hc
  have hc1 : s.length ≤ 1099511627776 := hc.1
  refine VC.use (p :=
    ((s.length ≤ 1099511627776) ∧
    ((decE s = 0 →
      (((↑(decR s).length : Int) = 0 →
        ((tokR s = []) ∧
        (4 = tokE s))) ∧
      (¬(↑(decR s).length : Int) = 0 →
       ((64 < (↑(decR s).length : Int) →
         ((tokR s = []) ∧
         (5 = tokE s))) ∧
       (¬64 < (↑(decR s).length : Int) →
        ((decR s = tokR s) ∧
        (0 = tokE s))))))) ∧
    (¬decE s = 0 →
     ((tokR s = []) ∧
     (decE s = tokE s)))))) (by kernel_rfl) ?_
  refine ⟨hc1, fun h => ⟨fun h1 => ?_, fun h1 => ⟨fun h2 => ?_, fun h2 => ?_⟩⟩, fun h => ?_⟩
  · obtain ⟨e1, e2⟩ := tok_e h (by omega); exact ⟨e1, e2.symm⟩
  · obtain ⟨e1, e2⟩ := tok_l h (by omega); exact ⟨e1, e2.symm⟩
  · obtain ⟨e1, e2⟩ := tok_k h (by omega) (by omega); exact ⟨e1.symm, e2.symm⟩
  · obtain ⟨e1, e2⟩ := tok_u h; exact ⟨e1, e2.symm⟩
def P22 : List UInt8 → List SV := fun s => [.one (.str s)]
def R22 : List UInt8 → SV × List Prop := fun s => (.one (.bool (lettersB s)), [])
def K22 : Con := ⟨true, [none], fun xs => match xs with | [.one (.str s)] => some (R22 s) | _ => none⟩
noncomputable def G22 : GP := conG P22 R22
theorem P22_inj : ∀ a b, (P22 a).map den0 = (P22 b).map den0 → a = b := by
  rintro a0 b0 h
  simp only [P22, List.map_cons, List.map_nil, den0, den0L, List.cons.injEq, AV.one.injEq, AV.agg.injEq, Lf.int.injEq, Lf.str.injEq, Lf.bool.injEq, Lf.vrow.injEq, and_true, true_and] at h
  exact h
theorem K22_ok : ConG G22 K22 := conG_of P22_inj (fun _ _ => rfl) (fun _ => rfl) fun xs r h => by
  simp only [K22] at h
  split at h
  · cases h; rename_i s; exact ⟨s, rfl, rfl⟩
  · cases h
theorem pr22 {S : SC} (hB : SB S) (q69 : PrOk S 69 (pureP gDec)) (q35 : PrOk S 35 (pureP G35)) (h45 : S.has 45 f45) (h68 : S.has 68 f68) (h22 : S.has 22 f22) : PrOk S 22 (pureP G22) := by
  refine prM hB [(45, f45), (68, f68)] [⟨69, gDec, K69⟩, ⟨35, G35, K35⟩] ⟨h45, h68, trivial⟩ ⟨⟨q69, K69_ok⟩, ⟨q35, K35_ok⟩, trivial⟩ h22 (fun _ => ⟨rfl, rfl, rfl⟩) (fun s => fun f id T L => match f, id with
      | 68, 0 => some (.inv { p : List UInt8 × List Int // runes s = (p.2.map fun r => (r, true)) ++ runes p.1 ∧ p.2.all letterB = true } (fun x => ([], [(0, .cell [.bool (decide (s ≠ []))]), (1, .cell [.str x.1.1])])) (fun x => x.1.1.length))
      | _, _ => none) 600 ?_
  rintro s hc
  refine VC.use (p :=
    ((∃ x1 : { p : List UInt8 × List Int // runes s = List.map (fun r => (r, true)) p.snd ++ runes p.fst ∧ p.snd.all letterB = true },
      (((!decide (s = [])) = decide (s ≠ [])) ∧
      (s = x1.val.fst))) ∧
    (∀ x1 : { p : List UInt8 × List Int // runes s = List.map (fun r => (r, true)) p.snd ++ runes p.fst ∧ p.snd.all letterB = true },
     ((0 < (↑x1.val.fst.length : Int) →
       (((↑(dec x1.val.fst).fst : Int) = 65533 →
         ((1 < (↑(dec x1.val.fst).snd : Int) →
           (((!letterB (↑(dec x1.val.fst).fst : Int)) = true →
             (letterB (↑(dec x1.val.fst).fst : Int) = lettersB s)) ∧
           (¬(!letterB (↑(dec x1.val.fst).fst : Int)) = true →
            ((0 ≤ (↑(dec x1.val.fst).snd : Int) ∧ (↑(dec x1.val.fst).snd : Int) ≤ (↑x1.val.fst.length : Int)) ∧
            (∃ x2 : { p : List UInt8 × List Int // runes s = List.map (fun r => (r, true)) p.snd ++ runes p.fst ∧ p.snd.all letterB = true },
             ((x2.val.fst.length < x1.val.fst.length) ∧
             ((letterB (↑(dec x1.val.fst).fst : Int) = decide (s ≠ [])) ∧
             (cutR x1.val.fst (some (↑(dec x1.val.fst).snd : Int)) none = x2.val.fst)))))))) ∧
         (¬1 < (↑(dec x1.val.fst).snd : Int) →
          (false = lettersB s)))) ∧
       (¬(↑(dec x1.val.fst).fst : Int) = 65533 →
        (((!letterB (↑(dec x1.val.fst).fst : Int)) = true →
          (letterB (↑(dec x1.val.fst).fst : Int) = lettersB s)) ∧
        (¬(!letterB (↑(dec x1.val.fst).fst : Int)) = true →
         ((0 ≤ (↑(dec x1.val.fst).snd : Int) ∧ (↑(dec x1.val.fst).snd : Int) ≤ (↑x1.val.fst.length : Int)) ∧
         (∃ x2 : { p : List UInt8 × List Int // runes s = List.map (fun r => (r, true)) p.snd ++ runes p.fst ∧ p.snd.all letterB = true },
          ((x2.val.fst.length < x1.val.fst.length) ∧
          ((letterB (↑(dec x1.val.fst).fst : Int) = decide (s ≠ [])) ∧
          (cutR x1.val.fst (some (↑(dec x1.val.fst).snd : Int)) none = x2.val.fst)))))))))) ∧
     (¬0 < (↑x1.val.fst.length : Int) →
      (decide (s ≠ []) = lettersB s)))))) (by kernel_rfl) ?_
  refine ⟨⟨⟨(s, []), rfl, rfl⟩, by simp, rfl⟩, ?_⟩
  rintro ⟨⟨t, o⟩, h, hb⟩
  dsimp only at h hb ⊢
  have hs : t ≠ [] → s ≠ [] := by rintro ht rfl; have h1 := congrArg List.length h; rw [runes_cons ht] at h1; simp [runes_nil] at h1
  have go : 0 < (t.length : Int) → isR t = true → ((!letterB (dec t).1) = true → letterB (dec t).1 = lettersB s) ∧ (¬ (!letterB (dec t).1) = true → (0 ≤ ((dec t).2 : Int) ∧ ((dec t).2 : Int) ≤ (t.length : Int)) ∧ ∃ x2 : { p : List UInt8 × List Int // runes s = List.map (fun r => (r, true)) p.snd ++ runes p.fst ∧ p.snd.all letterB = true }, x2.val.fst.length < t.length ∧ letterB (dec t).1 = decide (s ≠ []) ∧ cutR t (some ((dec t).2 : Int)) none = x2.val.fst) := fun h0 hr => by
    have hw := dec_width (ne_len h0)
    refine ⟨fun h1 => ?_, fun h1 => ?_⟩
    · have h1 : letterB (dec t).1 = false := by simpa using h1
      rw [letters_no h (ne_len h0) fun _ => h1, h1]
    · have h1 : letterB (dec t).1 = true := by simpa using h1
      refine ⟨by omega, ⟨(t.drop (dec t).2, o ++ [((dec t).1 : Int)]), runes_step h (ne_len h0) hr, by simp [hb, h1]⟩, ?_, by rw [h1, decide_eq_true (hs (ne_len h0))], rfl⟩
      show (t.drop _).length < _
      rw [List.length_drop]; omega
  refine ⟨fun h0 => ⟨fun h1 => ⟨fun h2 => go h0 (isR_of (.inr h2)), fun h2 => ?_⟩, fun h1 => go h0 (isR_of (.inl h1))⟩, fun h0 => ?_⟩
  · exact (letters_no h (ne_len h0) fun hr => by rw [isR_no h1 h2] at hr; cases hr).symm
  · obtain rfl := nil_len h0
    exact (letters_of h hb).symm
def P37 : List Int × List Int → List SV := fun (a, b) => [.one (.row (.int .i32) a), .one (.row (.int .i32) b)]
def R37 : List Int × List Int → SV × List Prop := fun (a, b) => (.one (.int .i64 (cmpL a b)), [a.length ≤ 1099511627776])
def K37 : Con := ⟨true, [some (.int .i32), some (.int .i32)], fun xs => match xs with | [.one (.row (.int .i32) a), .one (.row (.int .i32) b)] => some (R37 (a, b)) | _ => none⟩
noncomputable def G37 : GP := conG P37 R37
theorem P37_inj : ∀ a b, (P37 a).map den0 = (P37 b).map den0 → a = b := by
  rintro ⟨a0, a1⟩ ⟨b0, b1⟩ h
  simp only [P37, List.map_cons, List.map_nil, den0, den0L, List.cons.injEq, AV.one.injEq, AV.agg.injEq, Lf.int.injEq, Lf.str.injEq, Lf.bool.injEq, Lf.vrow.injEq, and_true, true_and, and_assoc] at h
  obtain ⟨h0, h1⟩ := h
  have h0 := row_inj h0
  have h1 := row_inj h1
  subst h0 h1
  rfl
theorem K37_ok : ConG G37 K37 := conG_of P37_inj (fun ⟨_, _⟩ ⟨_, _⟩ => rfl) (fun ⟨_, _⟩ => rfl) fun xs r h => by
  simp only [K37] at h
  split at h
  · cases h; rename_i a b; exact ⟨(a, b), rfl, rfl⟩
  · cases h
theorem pr37 {S : SC} (hB : SB S)  (h37 : S.has 37 f37) : PrOk S 37 (pureP G37) := by
  refine prM hB [] [] trivial trivial h37 (fun ⟨a, b⟩ => ⟨rfl, rfl, rfl⟩) (fun (a, b) => fun f id T L => match f, id with
      | 37, 0 => some (.inv { i : Nat // i ≤ a.length ∧ i ≤ b.length ∧ cmpL a b = cmpL (a.drop i) (b.drop i) } (fun x => ([(5, .one (.int .i64 x.1))], [])) (fun x => a.length - x.1))
      | _, _ => none) 400 ?_
  rintro ⟨a, b⟩ hc
  have hc1 : a.length ≤ 1099511627776 := hc.1
  refine VC.use (p :=
    ((∃ x1 : { i : Nat // i ≤ a.length ∧ i ≤ b.length ∧ cmpL a b = cmpL (List.drop i a) (List.drop i b) },
      ((a = a) ∧
      ((b = b) ∧
      (0 = (↑x1.val : Int))))) ∧
    (∀ x1 : { i : Nat // i ≤ a.length ∧ i ≤ b.length ∧ cmpL a b = cmpL (List.drop i a) (List.drop i b) },
     (((↑x1.val : Int) < (↑a.length : Int) →
       (((↑x1.val : Int) < (↑b.length : Int) →
         ((0 ≤ (↑x1.val : Int) ∧ (↑x1.val : Int) < (↑a.length : Int)) ∧
         ((0 ≤ (↑x1.val : Int) ∧ (↑x1.val : Int) < (↑b.length : Int)) ∧
         ((a.getD x1.val 0 < b.getD x1.val 0 →
           (-1 = cmpL a b)) ∧
         (¬a.getD x1.val 0 < b.getD x1.val 0 →
          ((0 ≤ (↑x1.val : Int) ∧ (↑x1.val : Int) < (↑a.length : Int)) ∧
          ((0 ≤ (↑x1.val : Int) ∧ (↑x1.val : Int) < (↑b.length : Int)) ∧
          ((b.getD x1.val 0 < a.getD x1.val 0 →
            (1 = cmpL a b)) ∧
          (¬b.getD x1.val 0 < a.getD x1.val 0 →
           ((i64R ((↑x1.val : Int) + 1)) ∧
           (∃ x2 : { i : Nat // i ≤ a.length ∧ i ≤ b.length ∧ cmpL a b = cmpL (List.drop i a) (List.drop i b) },
            ((a.length - x2.val < a.length - x1.val) ∧
            ((a = a) ∧
            ((b = b) ∧
            ((↑x1.val : Int) + 1 = (↑x2.val : Int)))))))))))))))) ∧
       (¬(↑x1.val : Int) < (↑b.length : Int) →
        (((↑a.length : Int) < (↑b.length : Int) →
          (-1 = cmpL a b)) ∧
        (¬(↑a.length : Int) < (↑b.length : Int) →
         (((↑b.length : Int) < (↑a.length : Int) →
           (1 = cmpL a b)) ∧
         (¬(↑b.length : Int) < (↑a.length : Int) →
          (0 = cmpL a b)))))))) ∧
     (¬(↑x1.val : Int) < (↑a.length : Int) →
      (((↑a.length : Int) < (↑b.length : Int) →
        (-1 = cmpL a b)) ∧
      (¬(↑a.length : Int) < (↑b.length : Int) →
       (((↑b.length : Int) < (↑a.length : Int) →
         (1 = cmpL a b)) ∧
       (¬(↑b.length : Int) < (↑a.length : Int) →
        (0 = cmpL a b)))))))))) (by kernel_rfl) ?_
  refine ⟨⟨⟨0, by omega, by omega, rfl⟩, rfl, rfl, rfl⟩, ?_⟩
  rintro ⟨i, hi, hj, he⟩
  have hs := cmpL_step a b i
  rw [← he] at hs
  dsimp only
  refine ⟨fun h => ⟨fun h1 => ⟨by omega, by omega, fun h2 => ?_, fun h2 => ⟨by omega, by omega, fun h3 => ?_, fun h3 => ⟨by unfold i64R; omega, ⟨i + 1, by omega, by omega, ?_⟩, by show a.length - (i + 1) < a.length - i; omega, rfl, rfl, rfl⟩⟩⟩, fun h1 => ⟨fun h2 => ?_, fun h2 => ⟨fun h3 => ?_, fun h3 => ?_⟩⟩⟩, fun h => ⟨fun h1 => ?_, fun h1 => ⟨fun h2 => ?_, fun h2 => ?_⟩⟩⟩
  all_goals
    repeat' split at hs
    all_goals omega
def P18 : List Int × List Int → List SV := fun (a, b) => [.one (.row (.int .i32) a), .one (.row (.int .i32) b)]
def R18 : List Int × List Int → SV × List Prop := fun (a, b) => (.one (.bool (decide (a = b))), [a.length ≤ 1099511627776])
def K18 : Con := ⟨true, [some (.int .i32), some (.int .i32)], fun xs => match xs with | [.one (.row (.int .i32) a), .one (.row (.int .i32) b)] => some (R18 (a, b)) | _ => none⟩
noncomputable def G18 : GP := conG P18 R18
theorem P18_inj : ∀ a b, (P18 a).map den0 = (P18 b).map den0 → a = b := by
  rintro ⟨a0, a1⟩ ⟨b0, b1⟩ h
  simp only [P18, List.map_cons, List.map_nil, den0, den0L, List.cons.injEq, AV.one.injEq, AV.agg.injEq, Lf.int.injEq, Lf.str.injEq, Lf.bool.injEq, Lf.vrow.injEq, and_true, true_and, and_assoc] at h
  obtain ⟨h0, h1⟩ := h
  have h0 := row_inj h0
  have h1 := row_inj h1
  subst h0 h1
  rfl
theorem K18_ok : ConG G18 K18 := conG_of P18_inj (fun ⟨_, _⟩ ⟨_, _⟩ => rfl) (fun ⟨_, _⟩ => rfl) fun xs r h => by
  simp only [K18] at h
  split at h
  · cases h; rename_i a b; exact ⟨(a, b), rfl, rfl⟩
  · cases h
theorem pr18 {S : SC} (hB : SB S) (q37 : PrOk S 37 (pureP G37)) (h18 : S.has 18 f18) : PrOk S 18 (pureP G18) := by
  refine prM hB [] [⟨37, G37, K37⟩] trivial ⟨⟨q37, K37_ok⟩, trivial⟩ h18 (fun ⟨a, b⟩ => ⟨rfl, rfl, rfl⟩) (fun (a, b) => fun _ _ _ _ => none) 400 ?_
  rintro ⟨a, b⟩ hc
  have hc1 : a.length ≤ 1099511627776 := hc.1
  refine VC.use (p :=
    ((a.length ≤ 1099511627776) ∧
    (decide (cmpL a b = 0) = decide (a = b)))) (by kernel_rfl) ?_
  exact ⟨hc1, decide_eq_decide.2 cmpL_zero⟩
def P54 : Int → List SV := fun r => [.one (.int .i32 r)]
def R54 : Int → SV × List Prop := fun r => (.one (.bool (!Utf8.valid r)), [])
def K54 : Con := ⟨true, [none], fun xs => match xs with | [.one (.int .i32 r)] => some (R54 r) | _ => none⟩
noncomputable def G54 : GP := conG P54 R54
theorem P54_inj : ∀ a b, (P54 a).map den0 = (P54 b).map den0 → a = b := by
  rintro a0 b0 h
  simp only [P54, List.map_cons, List.map_nil, den0, den0L, List.cons.injEq, AV.one.injEq, AV.agg.injEq, Lf.int.injEq, Lf.str.injEq, Lf.bool.injEq, Lf.vrow.injEq, and_true, true_and] at h
  exact h
theorem K54_ok : ConG G54 K54 := conG_of P54_inj (fun _ _ => rfl) (fun _ => rfl) fun xs r h => by
  simp only [K54] at h
  split at h
  · cases h; rename_i r; exact ⟨r, rfl, rfl⟩
  · cases h
theorem pr54 {S : SC} (hB : SB S) (q55 : PrOk S 55 (pureP G55)) (h54 : S.has 54 f54) : PrOk S 54 (pureP G54) := by
  refine prM hB [] [⟨55, G55, K55⟩] trivial ⟨⟨q55, K55_ok⟩, trivial⟩ h54 (fun _ => ⟨rfl, rfl, rfl⟩) (fun r => fun _ _ _ _ => none) 400 ?_
  rintro r hc
  refine VC.use (p :=
    ((!Utf8.valid r) = !Utf8.valid r)) (by kernel_rfl) ?_
  rfl
def P74 : List Int → List SV := fun l => [.one (.row (.int .i32) l), .one (.fn 54 [])]
def R74 : List Int → SV × List Prop := fun l => (.one (.int .i64 (badI l)), [l.length ≤ 140737488355328])
def K74 : Con := ⟨true, [some (.int .i32), none], fun xs => match xs with | [.one (.row (.int .i32) l), .one (.fn 54 [])] => some (R74 l) | _ => none⟩
noncomputable def G74 : GP := conG P74 R74
theorem P74_inj : ∀ a b, (P74 a).map den0 = (P74 b).map den0 → a = b := by
  rintro a0 b0 h
  simp only [P74, List.map_cons, List.map_nil, den0, den0L, List.cons.injEq, AV.one.injEq, AV.agg.injEq, Lf.int.injEq, Lf.str.injEq, Lf.bool.injEq, Lf.vrow.injEq, and_true, true_and] at h
  exact row_inj h
theorem K74_ok : ConG G74 K74 := conG_of P74_inj (fun _ _ => rfl) (fun _ => rfl) fun xs r h => by
  simp only [K74] at h
  split at h
  · cases h; rename_i l; exact ⟨l, rfl, rfl⟩
  · cases h
theorem pr74 {S : SC} (hB : SB S) (q54 : PrOk S 54 (pureP G54)) (h74 : S.has 74 f74) : PrOk S 74 (pureP G74) := by
  refine prM hB [] [⟨54, G54, K54⟩] trivial ⟨⟨q54, K54_ok⟩, trivial⟩ h74 (fun _ => ⟨rfl, rfl, rfl⟩) (fun l => fun f id T L => match f, id with
      | 74, 0 => some (.inv { i : Nat // i ≤ l.length ∧ (l.take i).all Utf8.valid = true } (fun x => ([(8, .one (.int .i64 x.1))], [])) (fun x => l.length - x.1))
      | _, _ => none) 400 ?_
  rintro l hc
  have hc1 : l.length ≤ 140737488355328 := hc.1
  refine VC.use (p :=
    ((∃ x1 : { i : Nat // i ≤ l.length ∧ (List.take i l).all Utf8.valid = true },
      ((l = l) ∧
      (((↑l.length : Int) = (↑l.length : Int)) ∧
      (0 = (↑x1.val : Int))))) ∧
    (∀ x1 : { i : Nat // i ≤ l.length ∧ (List.take i l).all Utf8.valid = true },
     (((↑x1.val : Int) < (↑l.length : Int) →
       ((0 ≤ (↑x1.val : Int) ∧ (↑x1.val : Int) < (↑l.length : Int)) ∧
       (((!Utf8.valid (l.getD x1.val 0)) = true →
         ((↑x1.val : Int) = badI l)) ∧
       (¬(!Utf8.valid (l.getD x1.val 0)) = true →
        ((i64R ((↑x1.val : Int) + 1)) ∧
        (∃ x2 : { i : Nat // i ≤ l.length ∧ (List.take i l).all Utf8.valid = true },
         ((l.length - x2.val < l.length - x1.val) ∧
         ((l = l) ∧
         (((↑l.length : Int) = (↑l.length : Int)) ∧
         ((↑x1.val : Int) + 1 = (↑x2.val : Int))))))))))) ∧
     (¬(↑x1.val : Int) < (↑l.length : Int) →
      (-1 = badI l)))))) (by kernel_rfl) ?_
  refine ⟨⟨⟨0, by omega, rfl⟩, rfl, rfl, rfl⟩, ?_⟩
  rintro ⟨i, hi, ha⟩
  dsimp only
  exact ⟨fun h => ⟨by omega, fun h1 => (bad_hit h (by simpa using h1) ha).symm, fun h1 => ⟨by unfold i64R; omega, ⟨i + 1, by omega, bad_step h (by simpa using h1) ha⟩, by show l.length - (i + 1) < l.length - i; omega, rfl, rfl, rfl⟩⟩, fun h => (bad_end h ha).symm⟩
def P53 : List Int → List SV := fun l => [.one (.row (.int .i32) l), .one (.fn 54 [])]
def R53 : List Int → SV × List Prop := fun l => (.one (.bool (!l.all Utf8.valid)), [l.length ≤ 140737488355328])
def K53 : Con := ⟨true, [some (.int .i32), none], fun xs => match xs with | [.one (.row (.int .i32) l), .one (.fn 54 [])] => some (R53 l) | _ => none⟩
noncomputable def G53 : GP := conG P53 R53
theorem P53_inj : ∀ a b, (P53 a).map den0 = (P53 b).map den0 → a = b := by
  rintro a0 b0 h
  simp only [P53, List.map_cons, List.map_nil, den0, den0L, List.cons.injEq, AV.one.injEq, AV.agg.injEq, Lf.int.injEq, Lf.str.injEq, Lf.bool.injEq, Lf.vrow.injEq, and_true, true_and] at h
  exact row_inj h
theorem K53_ok : ConG G53 K53 := conG_of P53_inj (fun _ _ => rfl) (fun _ => rfl) fun xs r h => by
  simp only [K53] at h
  split at h
  · cases h; rename_i l; exact ⟨l, rfl, rfl⟩
  · cases h
theorem pr53 {S : SC} (hB : SB S) (q74 : PrOk S 74 (pureP G74)) (h53 : S.has 53 f53) : PrOk S 53 (pureP G53) := by
  refine prM hB [] [⟨74, G74, K74⟩] trivial ⟨⟨q74, K74_ok⟩, trivial⟩ h53 (fun _ => ⟨rfl, rfl, rfl⟩) (fun l => fun _ _ _ _ => none) 400 ?_
  rintro l hc
  have hc1 : l.length ≤ 140737488355328 := hc.1
  refine VC.use (p :=
    ((l.length ≤ 140737488355328) ∧
    (decide (0 ≤ badI l) = !l.all Utf8.valid))) (by kernel_rfl) ?_
  exact ⟨hc1, bad_sgn l⟩
def P33 : List Int → List SV := fun l => [.one (.row (.int .i32) l)]
def R33 : List Int → SV × List Prop := fun l => (.tup [.o (.str (encT l)), .o (.int .i64 (encE l))], [l.length ≤ 1099511627776])
def K33 : Con := ⟨true, [some (.int .i32)], fun xs => match xs with | [.one (.row (.int .i32) l)] => some (R33 l) | _ => none⟩
noncomputable def G33 : GP := conG P33 R33
theorem P33_inj : ∀ a b, (P33 a).map den0 = (P33 b).map den0 → a = b := by
  rintro a0 b0 h
  simp only [P33, List.map_cons, List.map_nil, den0, den0L, List.cons.injEq, AV.one.injEq, AV.agg.injEq, Lf.int.injEq, Lf.str.injEq, Lf.bool.injEq, Lf.vrow.injEq, and_true, true_and] at h
  exact row_inj h
theorem K33_ok : ConG G33 K33 := conG_of P33_inj (fun _ _ => rfl) (fun _ => rfl) fun xs r h => by
  simp only [K33] at h
  split at h
  · cases h; rename_i l; exact ⟨l, rfl, rfl⟩
  · cases h
theorem pr33 {S : SC} (hB : SB S) (q53 : PrOk S 53 (pureP G53)) (h56 : S.has 56 f56) (h75 : S.has 75 f75) (h33 : S.has 33 f33) : PrOk S 33 (pureP G33) := by
  refine prM hB [(56, f56), (75, f75)] [⟨53, G53, K53⟩] ⟨h56, h75, trivial⟩ ⟨⟨q53, K53_ok⟩, trivial⟩ h33 (fun _ => ⟨rfl, rfl, rfl⟩) (fun l => fun f id T L => match f, id with
      | 33, 0 => some (.inv { p : Nat × List Int // p.1 ≤ l.length ∧ p.2 = encLI (l.take p.1) } (fun x => ([(11, .one (.int .i64 x.1.1)), (4, .one (.osl 0))], [(0, .row (.int .u8) x.1.2)])) (fun x => l.length - x.1.1))
      | 33, 1 => match T.getD 11 .junk, getO L 0 with | .one (.int _ i), .row (.int .u8) o => some (.cut Unit fun _ => ([], [(0, .row (.int .u8) (o ++ encI (l.getD i.toNat 0)))])) | _, _ => none
      | _, _ => none) 400 ?_
  rintro l hc
  have hc1 : l.length ≤ 1099511627776 := hc.1
  refine VC.use (p :=
    ((l.length ≤ 140737488355328) ∧
    (((!l.all Utf8.valid) = true →
      (([] = encT l) ∧
      (3 = encE l))) ∧
    (¬(!l.all Utf8.valid) = true →
     ((∃ x1 : { p : Nat × List Int // p.fst ≤ l.length ∧ p.snd = encLI (List.take p.fst l) },
       ((x1.val.snd = []) ∧
       ((l = l) ∧
       (((↑l.length : Int) = (↑l.length : Int)) ∧
       ((0 = (↑x1.val.fst : Int)) ∧
       (x1.val.snd = [])))))) ∧
     (∀ x1 : { p : Nat × List Int // p.fst ≤ l.length ∧ p.snd = encLI (List.take p.fst l) },
      (((↑x1.val.fst : Int) < (↑l.length : Int) →
        (((0 ≤ (↑x1.val.fst : Int) ∧ (↑x1.val.fst : Int) < (↑l.length : Int)) ∧
         ((IntKind.u32.wrap (l.getD x1.val.fst 0) ≤ 127 →
           (((x1.val.snd.length + [IntKind.u8.wrap (l.getD x1.val.fst 0)].length) * 1 ≤ 140737488355328) ∧
           (∃ x2 : Unit,
            ((l = l) ∧
            (((↑l.length : Int) = (↑l.length : Int)) ∧
            (((↑x1.val.fst : Int) = (↑x1.val.fst : Int)) ∧
            (x1.val.snd ++ [IntKind.u8.wrap (l.getD x1.val.fst 0)] = x1.val.snd ++ encI (l.getD x1.val.fst 0)))))))) ∧
         (¬IntKind.u32.wrap (l.getD x1.val.fst 0) ≤ 127 →
          ((IntKind.u32.wrap (l.getD x1.val.fst 0) ≤ 2047 →
            (((x1.val.snd.length + [IntKind.u8.wrap (↑(BitVec.ofInt 8 192 ||| BitVec.ofInt 8 (IntKind.u8.wrap (Int.fdiv (l.getD x1.val.fst 0) 64))).toNat : Int), IntKind.u8.wrap (↑(BitVec.ofInt 8 128 ||| BitVec.ofInt 8 (IntKind.u8.wrap (↑(BitVec.ofInt 8 (IntKind.u8.wrap (l.getD x1.val.fst 0)) &&& BitVec.ofInt 8 63).toNat : Int))).toNat : Int)].length) * 1 ≤ 140737488355328) ∧
            (∃ x2 : Unit,
             ((l = l) ∧
             (((↑l.length : Int) = (↑l.length : Int)) ∧
             (((↑x1.val.fst : Int) = (↑x1.val.fst : Int)) ∧
             (x1.val.snd ++ [IntKind.u8.wrap (↑(BitVec.ofInt 8 192 ||| BitVec.ofInt 8 (IntKind.u8.wrap (Int.fdiv (l.getD x1.val.fst 0) 64))).toNat : Int), IntKind.u8.wrap (↑(BitVec.ofInt 8 128 ||| BitVec.ofInt 8 (IntKind.u8.wrap (↑(BitVec.ofInt 8 (IntKind.u8.wrap (l.getD x1.val.fst 0)) &&& BitVec.ofInt 8 63).toNat : Int))).toNat : Int)] = x1.val.snd ++ encI (l.getD x1.val.fst 0)))))))) ∧
          (¬IntKind.u32.wrap (l.getD x1.val.fst 0) ≤ 2047 →
           ((IntKind.u32.wrap (l.getD x1.val.fst 0) < 55296 →
             ((IntKind.u32.wrap (l.getD x1.val.fst 0) < 55296 →
               (((x1.val.snd.length + [IntKind.u8.wrap (↑(BitVec.ofInt 8 224 ||| BitVec.ofInt 8 (IntKind.u8.wrap (Int.fdiv (l.getD x1.val.fst 0) 4096))).toNat : Int), IntKind.u8.wrap (↑(BitVec.ofInt 8 128 ||| BitVec.ofInt 8 (IntKind.u8.wrap (↑(BitVec.ofInt 8 (IntKind.u8.wrap (Int.fdiv (l.getD x1.val.fst 0) 64)) &&& BitVec.ofInt 8 63).toNat : Int))).toNat : Int), IntKind.u8.wrap (↑(BitVec.ofInt 8 128 ||| BitVec.ofInt 8 (IntKind.u8.wrap (↑(BitVec.ofInt 8 (IntKind.u8.wrap (l.getD x1.val.fst 0)) &&& BitVec.ofInt 8 63).toNat : Int))).toNat : Int)].length) * 1 ≤ 140737488355328) ∧
               (∃ x2 : Unit,
                ((l = l) ∧
                (((↑l.length : Int) = (↑l.length : Int)) ∧
                (((↑x1.val.fst : Int) = (↑x1.val.fst : Int)) ∧
                (x1.val.snd ++ [IntKind.u8.wrap (↑(BitVec.ofInt 8 224 ||| BitVec.ofInt 8 (IntKind.u8.wrap (Int.fdiv (l.getD x1.val.fst 0) 4096))).toNat : Int), IntKind.u8.wrap (↑(BitVec.ofInt 8 128 ||| BitVec.ofInt 8 (IntKind.u8.wrap (↑(BitVec.ofInt 8 (IntKind.u8.wrap (Int.fdiv (l.getD x1.val.fst 0) 64)) &&& BitVec.ofInt 8 63).toNat : Int))).toNat : Int), IntKind.u8.wrap (↑(BitVec.ofInt 8 128 ||| BitVec.ofInt 8 (IntKind.u8.wrap (↑(BitVec.ofInt 8 (IntKind.u8.wrap (l.getD x1.val.fst 0)) &&& BitVec.ofInt 8 63).toNat : Int))).toNat : Int)] = x1.val.snd ++ encI (l.getD x1.val.fst 0)))))))) ∧
             (¬IntKind.u32.wrap (l.getD x1.val.fst 0) < 55296 →
              ((65535 < IntKind.u32.wrap (l.getD x1.val.fst 0) →
                ((IntKind.u32.wrap (l.getD x1.val.fst 0) ≤ 1114111 →
                  (((x1.val.snd.length + [IntKind.u8.wrap (↑(BitVec.ofInt 8 240 ||| BitVec.ofInt 8 (IntKind.u8.wrap (Int.fdiv (l.getD x1.val.fst 0) 262144))).toNat : Int), IntKind.u8.wrap (↑(BitVec.ofInt 8 128 ||| BitVec.ofInt 8 (IntKind.u8.wrap (↑(BitVec.ofInt 8 (IntKind.u8.wrap (Int.fdiv (l.getD x1.val.fst 0) 4096)) &&& BitVec.ofInt 8 63).toNat : Int))).toNat : Int), IntKind.u8.wrap (↑(BitVec.ofInt 8 128 ||| BitVec.ofInt 8 (IntKind.u8.wrap (↑(BitVec.ofInt 8 (IntKind.u8.wrap (Int.fdiv (l.getD x1.val.fst 0) 64)) &&& BitVec.ofInt 8 63).toNat : Int))).toNat : Int), IntKind.u8.wrap (↑(BitVec.ofInt 8 128 ||| BitVec.ofInt 8 (IntKind.u8.wrap (↑(BitVec.ofInt 8 (IntKind.u8.wrap (l.getD x1.val.fst 0)) &&& BitVec.ofInt 8 63).toNat : Int))).toNat : Int)].length) * 1 ≤ 140737488355328) ∧
                  (∃ x2 : Unit,
                   ((l = l) ∧
                   (((↑l.length : Int) = (↑l.length : Int)) ∧
                   (((↑x1.val.fst : Int) = (↑x1.val.fst : Int)) ∧
                   (x1.val.snd ++ [IntKind.u8.wrap (↑(BitVec.ofInt 8 240 ||| BitVec.ofInt 8 (IntKind.u8.wrap (Int.fdiv (l.getD x1.val.fst 0) 262144))).toNat : Int), IntKind.u8.wrap (↑(BitVec.ofInt 8 128 ||| BitVec.ofInt 8 (IntKind.u8.wrap (↑(BitVec.ofInt 8 (IntKind.u8.wrap (Int.fdiv (l.getD x1.val.fst 0) 4096)) &&& BitVec.ofInt 8 63).toNat : Int))).toNat : Int), IntKind.u8.wrap (↑(BitVec.ofInt 8 128 ||| BitVec.ofInt 8 (IntKind.u8.wrap (↑(BitVec.ofInt 8 (IntKind.u8.wrap (Int.fdiv (l.getD x1.val.fst 0) 64)) &&& BitVec.ofInt 8 63).toNat : Int))).toNat : Int), IntKind.u8.wrap (↑(BitVec.ofInt 8 128 ||| BitVec.ofInt 8 (IntKind.u8.wrap (↑(BitVec.ofInt 8 (IntKind.u8.wrap (l.getD x1.val.fst 0)) &&& BitVec.ofInt 8 63).toNat : Int))).toNat : Int)] = x1.val.snd ++ encI (l.getD x1.val.fst 0)))))))) ∧
                (¬IntKind.u32.wrap (l.getD x1.val.fst 0) ≤ 1114111 →
                 (((x1.val.snd.length + 3) * 1 ≤ 140737488355328) ∧
                 (∃ x2 : Unit,
                  ((l = l) ∧
                  (((↑l.length : Int) = (↑l.length : Int)) ∧
                  (((↑x1.val.fst : Int) = (↑x1.val.fst : Int)) ∧
                  (x1.val.snd ++ [239, 191, 189] = x1.val.snd ++ encI (l.getD x1.val.fst 0)))))))))) ∧
              (¬65535 < IntKind.u32.wrap (l.getD x1.val.fst 0) →
               (((x1.val.snd.length + 3) * 1 ≤ 140737488355328) ∧
               (∃ x2 : Unit,
                ((l = l) ∧
                (((↑l.length : Int) = (↑l.length : Int)) ∧
                (((↑x1.val.fst : Int) = (↑x1.val.fst : Int)) ∧
                (x1.val.snd ++ [239, 191, 189] = x1.val.snd ++ encI (l.getD x1.val.fst 0)))))))))))) ∧
           (¬IntKind.u32.wrap (l.getD x1.val.fst 0) < 55296 →
            ((57343 < IntKind.u32.wrap (l.getD x1.val.fst 0) →
              ((IntKind.u32.wrap (l.getD x1.val.fst 0) ≤ 65535 →
                (((x1.val.snd.length + [IntKind.u8.wrap (↑(BitVec.ofInt 8 224 ||| BitVec.ofInt 8 (IntKind.u8.wrap (Int.fdiv (l.getD x1.val.fst 0) 4096))).toNat : Int), IntKind.u8.wrap (↑(BitVec.ofInt 8 128 ||| BitVec.ofInt 8 (IntKind.u8.wrap (↑(BitVec.ofInt 8 (IntKind.u8.wrap (Int.fdiv (l.getD x1.val.fst 0) 64)) &&& BitVec.ofInt 8 63).toNat : Int))).toNat : Int), IntKind.u8.wrap (↑(BitVec.ofInt 8 128 ||| BitVec.ofInt 8 (IntKind.u8.wrap (↑(BitVec.ofInt 8 (IntKind.u8.wrap (l.getD x1.val.fst 0)) &&& BitVec.ofInt 8 63).toNat : Int))).toNat : Int)].length) * 1 ≤ 140737488355328) ∧
                (∃ x2 : Unit,
                 ((l = l) ∧
                 (((↑l.length : Int) = (↑l.length : Int)) ∧
                 (((↑x1.val.fst : Int) = (↑x1.val.fst : Int)) ∧
                 (x1.val.snd ++ [IntKind.u8.wrap (↑(BitVec.ofInt 8 224 ||| BitVec.ofInt 8 (IntKind.u8.wrap (Int.fdiv (l.getD x1.val.fst 0) 4096))).toNat : Int), IntKind.u8.wrap (↑(BitVec.ofInt 8 128 ||| BitVec.ofInt 8 (IntKind.u8.wrap (↑(BitVec.ofInt 8 (IntKind.u8.wrap (Int.fdiv (l.getD x1.val.fst 0) 64)) &&& BitVec.ofInt 8 63).toNat : Int))).toNat : Int), IntKind.u8.wrap (↑(BitVec.ofInt 8 128 ||| BitVec.ofInt 8 (IntKind.u8.wrap (↑(BitVec.ofInt 8 (IntKind.u8.wrap (l.getD x1.val.fst 0)) &&& BitVec.ofInt 8 63).toNat : Int))).toNat : Int)] = x1.val.snd ++ encI (l.getD x1.val.fst 0)))))))) ∧
              (¬IntKind.u32.wrap (l.getD x1.val.fst 0) ≤ 65535 →
               ((65535 < IntKind.u32.wrap (l.getD x1.val.fst 0) →
                 ((IntKind.u32.wrap (l.getD x1.val.fst 0) ≤ 1114111 →
                   (((x1.val.snd.length + [IntKind.u8.wrap (↑(BitVec.ofInt 8 240 ||| BitVec.ofInt 8 (IntKind.u8.wrap (Int.fdiv (l.getD x1.val.fst 0) 262144))).toNat : Int), IntKind.u8.wrap (↑(BitVec.ofInt 8 128 ||| BitVec.ofInt 8 (IntKind.u8.wrap (↑(BitVec.ofInt 8 (IntKind.u8.wrap (Int.fdiv (l.getD x1.val.fst 0) 4096)) &&& BitVec.ofInt 8 63).toNat : Int))).toNat : Int), IntKind.u8.wrap (↑(BitVec.ofInt 8 128 ||| BitVec.ofInt 8 (IntKind.u8.wrap (↑(BitVec.ofInt 8 (IntKind.u8.wrap (Int.fdiv (l.getD x1.val.fst 0) 64)) &&& BitVec.ofInt 8 63).toNat : Int))).toNat : Int), IntKind.u8.wrap (↑(BitVec.ofInt 8 128 ||| BitVec.ofInt 8 (IntKind.u8.wrap (↑(BitVec.ofInt 8 (IntKind.u8.wrap (l.getD x1.val.fst 0)) &&& BitVec.ofInt 8 63).toNat : Int))).toNat : Int)].length) * 1 ≤ 140737488355328) ∧
                   (∃ x2 : Unit,
                    ((l = l) ∧
                    (((↑l.length : Int) = (↑l.length : Int)) ∧
                    (((↑x1.val.fst : Int) = (↑x1.val.fst : Int)) ∧
                    (x1.val.snd ++ [IntKind.u8.wrap (↑(BitVec.ofInt 8 240 ||| BitVec.ofInt 8 (IntKind.u8.wrap (Int.fdiv (l.getD x1.val.fst 0) 262144))).toNat : Int), IntKind.u8.wrap (↑(BitVec.ofInt 8 128 ||| BitVec.ofInt 8 (IntKind.u8.wrap (↑(BitVec.ofInt 8 (IntKind.u8.wrap (Int.fdiv (l.getD x1.val.fst 0) 4096)) &&& BitVec.ofInt 8 63).toNat : Int))).toNat : Int), IntKind.u8.wrap (↑(BitVec.ofInt 8 128 ||| BitVec.ofInt 8 (IntKind.u8.wrap (↑(BitVec.ofInt 8 (IntKind.u8.wrap (Int.fdiv (l.getD x1.val.fst 0) 64)) &&& BitVec.ofInt 8 63).toNat : Int))).toNat : Int), IntKind.u8.wrap (↑(BitVec.ofInt 8 128 ||| BitVec.ofInt 8 (IntKind.u8.wrap (↑(BitVec.ofInt 8 (IntKind.u8.wrap (l.getD x1.val.fst 0)) &&& BitVec.ofInt 8 63).toNat : Int))).toNat : Int)] = x1.val.snd ++ encI (l.getD x1.val.fst 0)))))))) ∧
                 (¬IntKind.u32.wrap (l.getD x1.val.fst 0) ≤ 1114111 →
                  (((x1.val.snd.length + 3) * 1 ≤ 140737488355328) ∧
                  (∃ x2 : Unit,
                   ((l = l) ∧
                   (((↑l.length : Int) = (↑l.length : Int)) ∧
                   (((↑x1.val.fst : Int) = (↑x1.val.fst : Int)) ∧
                   (x1.val.snd ++ [239, 191, 189] = x1.val.snd ++ encI (l.getD x1.val.fst 0)))))))))) ∧
               (¬65535 < IntKind.u32.wrap (l.getD x1.val.fst 0) →
                (((x1.val.snd.length + 3) * 1 ≤ 140737488355328) ∧
                (∃ x2 : Unit,
                 ((l = l) ∧
                 (((↑l.length : Int) = (↑l.length : Int)) ∧
                 (((↑x1.val.fst : Int) = (↑x1.val.fst : Int)) ∧
                 (x1.val.snd ++ [239, 191, 189] = x1.val.snd ++ encI (l.getD x1.val.fst 0)))))))))))) ∧
            (¬57343 < IntKind.u32.wrap (l.getD x1.val.fst 0) →
             ((65535 < IntKind.u32.wrap (l.getD x1.val.fst 0) →
               ((IntKind.u32.wrap (l.getD x1.val.fst 0) ≤ 1114111 →
                 (((x1.val.snd.length + [IntKind.u8.wrap (↑(BitVec.ofInt 8 240 ||| BitVec.ofInt 8 (IntKind.u8.wrap (Int.fdiv (l.getD x1.val.fst 0) 262144))).toNat : Int), IntKind.u8.wrap (↑(BitVec.ofInt 8 128 ||| BitVec.ofInt 8 (IntKind.u8.wrap (↑(BitVec.ofInt 8 (IntKind.u8.wrap (Int.fdiv (l.getD x1.val.fst 0) 4096)) &&& BitVec.ofInt 8 63).toNat : Int))).toNat : Int), IntKind.u8.wrap (↑(BitVec.ofInt 8 128 ||| BitVec.ofInt 8 (IntKind.u8.wrap (↑(BitVec.ofInt 8 (IntKind.u8.wrap (Int.fdiv (l.getD x1.val.fst 0) 64)) &&& BitVec.ofInt 8 63).toNat : Int))).toNat : Int), IntKind.u8.wrap (↑(BitVec.ofInt 8 128 ||| BitVec.ofInt 8 (IntKind.u8.wrap (↑(BitVec.ofInt 8 (IntKind.u8.wrap (l.getD x1.val.fst 0)) &&& BitVec.ofInt 8 63).toNat : Int))).toNat : Int)].length) * 1 ≤ 140737488355328) ∧
                 (∃ x2 : Unit,
                  ((l = l) ∧
                  (((↑l.length : Int) = (↑l.length : Int)) ∧
                  (((↑x1.val.fst : Int) = (↑x1.val.fst : Int)) ∧
                  (x1.val.snd ++ [IntKind.u8.wrap (↑(BitVec.ofInt 8 240 ||| BitVec.ofInt 8 (IntKind.u8.wrap (Int.fdiv (l.getD x1.val.fst 0) 262144))).toNat : Int), IntKind.u8.wrap (↑(BitVec.ofInt 8 128 ||| BitVec.ofInt 8 (IntKind.u8.wrap (↑(BitVec.ofInt 8 (IntKind.u8.wrap (Int.fdiv (l.getD x1.val.fst 0) 4096)) &&& BitVec.ofInt 8 63).toNat : Int))).toNat : Int), IntKind.u8.wrap (↑(BitVec.ofInt 8 128 ||| BitVec.ofInt 8 (IntKind.u8.wrap (↑(BitVec.ofInt 8 (IntKind.u8.wrap (Int.fdiv (l.getD x1.val.fst 0) 64)) &&& BitVec.ofInt 8 63).toNat : Int))).toNat : Int), IntKind.u8.wrap (↑(BitVec.ofInt 8 128 ||| BitVec.ofInt 8 (IntKind.u8.wrap (↑(BitVec.ofInt 8 (IntKind.u8.wrap (l.getD x1.val.fst 0)) &&& BitVec.ofInt 8 63).toNat : Int))).toNat : Int)] = x1.val.snd ++ encI (l.getD x1.val.fst 0)))))))) ∧
               (¬IntKind.u32.wrap (l.getD x1.val.fst 0) ≤ 1114111 →
                (((x1.val.snd.length + 3) * 1 ≤ 140737488355328) ∧
                (∃ x2 : Unit,
                 ((l = l) ∧
                 (((↑l.length : Int) = (↑l.length : Int)) ∧
                 (((↑x1.val.fst : Int) = (↑x1.val.fst : Int)) ∧
                 (x1.val.snd ++ [239, 191, 189] = x1.val.snd ++ encI (l.getD x1.val.fst 0)))))))))) ∧
             (¬65535 < IntKind.u32.wrap (l.getD x1.val.fst 0) →
              (((x1.val.snd.length + 3) * 1 ≤ 140737488355328) ∧
              (∃ x2 : Unit,
               ((l = l) ∧
               (((↑l.length : Int) = (↑l.length : Int)) ∧
               (((↑x1.val.fst : Int) = (↑x1.val.fst : Int)) ∧
               (x1.val.snd ++ [239, 191, 189] = x1.val.snd ++ encI (l.getD x1.val.fst 0)))))))))))))))))) ∧
        (∀ x2 : Unit,
         ((i64R ((↑x1.val.fst : Int) + 1)) ∧
         (∃ x3 : { p : Nat × List Int // p.fst ≤ l.length ∧ p.snd = encLI (List.take p.fst l) },
          ((l.length - x3.val.fst < l.length - x1.val.fst) ∧
          ((l = l) ∧
          (((↑l.length : Int) = (↑l.length : Int)) ∧
          (((↑x1.val.fst : Int) + 1 = (↑x3.val.fst : Int)) ∧
          (x1.val.snd ++ encI (l.getD x1.val.fst 0) = x3.val.snd)))))))))) ∧
      (¬(↑x1.val.fst : Int) < (↑l.length : Int) →
       ((List.map (fun z => UInt8.ofNat (Int.toNat z)) x1.val.snd = encT l) ∧
       (0 = encE l)))))))))) (by kernel_rfl) ?_
  refine ⟨by omega, fun h => ?_, fun h => ⟨⟨⟨(0, []), by omega, rfl⟩, rfl, rfl, rfl, rfl, rfl⟩, ?_⟩⟩
  · obtain ⟨e1, e2⟩ := encT_bad (l := l) (by simpa using h)
    exact ⟨e1.symm, e2.symm⟩
  · have hall : l.all Utf8.valid = true := by simpa using h
    rintro ⟨⟨i, o⟩, hi, ho⟩
    dsimp only at hi ho ⊢
    have hol := encLI_le hall hc1 ho
    refine ⟨fun h0 => ⟨⟨by omega, app_rune (valid_get hall h0) (by omega) (K := fun o' => ∃ x2 : Unit, l = l ∧ (l.length : Int) = l.length ∧ (i : Int) = i ∧ o' = o ++ encI (l.getD i 0)) ⟨(), rfl, rfl, rfl, rfl⟩⟩, fun _ => ⟨by unfold i64R; omega, ⟨(i + 1, o ++ encI (l.getD i 0)), by show i + 1 ≤ l.length; omega, by show _ = encLI (l.take (i + 1)); rw [encLI_step h0, ← ho]⟩, by show l.length - (i + 1) < l.length - i; omega, rfl, rfl, rfl, rfl⟩⟩, fun h0 => ?_⟩
    obtain ⟨e1, e2⟩ := encT_ok hall
    rw [e1, e2, ← encLI_end h0 ho]
    exact ⟨rfl, rfl⟩
end Go.EA
