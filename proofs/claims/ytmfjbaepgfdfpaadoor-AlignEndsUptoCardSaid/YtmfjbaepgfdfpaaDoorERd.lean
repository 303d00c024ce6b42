/- Layer 4: steps that may be, what they are of, what they cost. Conditions: none. (Printed by a program of this project's own.) -/
import Derived.Test.YtmfjbaepgfdfpaaDoorEWk
import Derived.Test.YtmfjbaepgfdfpaaDoorERu
import Derived.Test.YtmfjbaepgfdfpaaDoorESp1
import Derived.Test.YtmfjbaepgfdfpaaDoorEK9
import Derived.KernelRfl
set_option linter.unusedVariables false
set_option linter.unusedSimpArgs false
set_option maxRecDepth 100000
set_option maxHeartbeats 0
namespace Go.EA
open F
/-- A step that may be. -/
def okS (s : Stp) : Bool := Utf8.valid s.2.1 && Utf8.valid s.2.2 && (if s.1 = 0 then decide (s.2.1 = s.2.2) else if s.1 = 1 then !decide (s.2.1 = s.2.2) else if s.1 = 2 then decide (s.2.2 = 0) else if s.1 = 3 then decide (s.2.1 = 0) else false)
def rdA (l : List Stp) : List Int := (l.filter fun s => !decide (s.1 = 3)).map (·.2.1)
def rdB (l : List Stp) : List Int := (l.filter fun s => !decide (s.1 = 2)).map (·.2.2)
def costL (l : List Stp) : Int := ((l.filter fun s => !decide (s.1 = 0)).length : Int)
theorem take_all {α : Type} {p : α → Bool} {l : List α} {d : α} {i : Nat} (h : (l.take i).all p = true) (hi : i < l.length) (hp : p (l.getD i d) = true) : (l.take (i + 1)).all p = true := by
  rw [List.take_add_one, List.getElem?_eq_getElem hi, List.all_append, h]
  rw [List.getD_eq_getElem?_getD, List.getElem?_eq_getElem hi] at hp
  simpa using hp
theorem all_take {α : Type} {p : α → Bool} {l : List α} {i : Nat} (h : (l.take i).all p = true) (hi : l.length ≤ i) : l.all p = true := by rwa [List.take_of_length_le hi] at h
theorem costL_le (l : List Stp) : 0 ≤ costL l ∧ costL l ≤ l.length := by
  unfold costL
  have := List.length_filter_le (fun s : Stp => !decide (s.1 = 0)) l
  omega
theorem costL_compl (l : List Stp) : costL l + ((l.filter fun s => decide (s.1 = 0)).length : Int) = l.length := by
  unfold costL
  induction l with
  | nil => rfl
  | cons x l ih =>
    rw [List.filter_cons, List.filter_cons]
    by_cases h : x.1 = 0
    · simp only [h, decide_true, Bool.not_true, Bool.false_eq_true, if_false, if_true, List.length_cons]; push_cast; omega
    · simp only [h, decide_false, Bool.not_false, Bool.false_eq_true, if_false, if_true, List.length_cons]; push_cast; omega
theorem costL_zero {l : List Stp} (h : (l.all fun s => decide (s.1 = 0)) = true) : costL l = 0 := by
  have := costL_compl l
  rw [List.filter_eq_self.2 (fun a ha => List.all_eq_true.1 h a ha)] at this
  omega
theorem filt_step {l : List Stp} {i : Nat} (hi : i < l.length) : ((l.take (i + 1)).filter fun s => decide (s.1 = 0)).length = ((l.take i).filter fun s => decide (s.1 = 0)).length + if (l.getD i (0, 0, 0)).1 = 0 then 1 else 0 := by
  rw [List.take_add_one, List.getElem?_eq_getElem hi, List.filter_append, List.length_append, List.getD_eq_getElem?_getD, List.getElem?_eq_getElem hi]
  simp only [Option.toList_some, Option.getD_some, List.filter_cons, List.filter_nil]
  by_cases h : l[i].1 = 0
  · simp [h]
  · simp [h]
def DelI (l : List Stp) (p : Nat × Nat × List Stp) : Prop := p.2.1 < p.1 ∧ p.1 ≤ l.length ∧ p.2.2.length = l.length ∧ p.2.1 = ((l.take p.1).filter fun s => decide (s.1 = 0)).length ∧ ∀ q, p.1 ≤ q → q < l.length → p.2.2.getD q (0, 0, 0) = l.getD q (0, 0, 0)
theorem delI_start {l : List Stp} {i : Nat} (hi : i < l.length) (ha : ((l.take i).all fun s => decide (s.1 = 0)) = true) (h1 : ¬ (l.getD i (0, 0, 0)).1 = 0) : DelI l (i + 1, i, l) := by
  refine ⟨by dsimp only; omega, by dsimp only; omega, rfl, ?_, fun q _ _ => rfl⟩
  dsimp only
  rw [filt_step hi, if_neg h1, List.filter_eq_self.2 (fun a ha' => List.all_eq_true.1 ha a ha'), List.length_take]
  omega
theorem delI_keep {l r : List Stp} {j u : Nat} {x : Stp} (h : DelI l (j, u, r)) (hj : j < l.length) (h1 : (r.getD j (0, 0, 0)).1 = 0) : DelI l (j + 1, u + 1, r.set u x) := by
  obtain ⟨d1, d2, d3, d4, d5⟩ := h
  dsimp only at d1 d2 d3 d4 d5
  refine ⟨by dsimp only; omega, by dsimp only; omega, by simp [d3], ?_, fun q h2 h3 => ?_⟩
  · dsimp only
    rw [d5 j (Nat.le_refl _) hj] at h1
    rw [filt_step hj, if_pos h1, ← d4]
  · dsimp only at h2 ⊢
    rw [getD_set', if_neg (by omega)]
    exact d5 q (by omega) h3
theorem delI_drop {l r : List Stp} {j u : Nat} (h : DelI l (j, u, r)) (hj : j < l.length) (h1 : ¬ (r.getD j (0, 0, 0)).1 = 0) : DelI l (j + 1, u, r) := by
  obtain ⟨d1, d2, d3, d4, d5⟩ := h
  dsimp only at d1 d2 d3 d4 d5
  refine ⟨by dsimp only; omega, by dsimp only; omega, d3, ?_, fun q h2 h3 => d5 q (by dsimp only at h2; omega) h3⟩
  dsimp only
  rw [d5 j (Nat.le_refl _) hj] at h1
  rw [filt_step hj, if_neg h1, ← d4]; rfl
theorem rdA_len (l : List Stp) : (rdA l).length ≤ l.length := by unfold rdA; rw [List.length_map]; exact List.length_filter_le _ _
def P245 : Int × Int × Int → List SV := fun (s0, s1, s2) => [.agg [.int .i64 s0, .int .i32 s1, .int .i32 s2]]
def R245 : Int × Int × Int → SV × List Prop := fun (s0, s1, s2) => (.one (.bool (!decide (s0 = 0))), [])
def K245 : Con := ⟨true, [none], fun xs => match xs with | [.agg [.int .i64 s0, .int .i32 s1, .int .i32 s2]] => some (R245 (s0, s1, s2)) | _ => none⟩
noncomputable def G245 : GP := conG P245 R245
theorem P245_inj : ∀ a b, (P245 a).map den0 = (P245 b).map den0 → a = b := by
  rintro ⟨a0, a1, a2⟩ ⟨b0, b1, b2⟩ h
  simp only [P245, List.map_cons, List.map_nil, den0, den0L, List.cons.injEq, AV.one.injEq, AV.agg.injEq, Lf.int.injEq, Lf.str.injEq, Lf.bool.injEq, Lf.vrow.injEq, and_true, true_and, and_assoc] at h
  obtain ⟨h0, h1, h2⟩ := h
  subst h0 h1 h2
  rfl
theorem K245_ok : ConG G245 K245 := conG_of P245_inj (fun ⟨_, _, _⟩ ⟨_, _, _⟩ => rfl) (fun ⟨_, _, _⟩ => rfl) fun xs r h => by
  simp only [K245] at h
  split at h
  · cases h; rename_i s0 s1 s2; exact ⟨(s0, s1, s2), rfl, rfl⟩
  · cases h
theorem pr245 {S : SC} (hB : SB S)  (h245 : S.has 245 f245) : PrOk S 245 (pureP G245) := by
  refine prM hB [] [] trivial trivial h245 (fun ⟨s0, s1, s2⟩ => ⟨rfl, rfl, rfl⟩) (fun (s0, s1, s2) => fun _ _ _ _ => none) 400 ?_
  rintro ⟨s0, s1, s2⟩ hc
  refine VC.use (p :=
    ((!decide (s0 = 0)) = !decide (s0 = 0))) (by kernel_rfl) ?_
  rfl
def P219 : (List (Int × Int × Int)) → List SV := fun l => [.one (.row (.pair (.int .i64) (.pair (.int .i32) (.int .i32))) l)]
def R219 : (List (Int × Int × Int)) → SV × List Prop := fun l => (.one (.int .i64 (costL l)), [l.length ≤ 1099511627776])
def K219 : Con := ⟨true, [some (.pair (.int .i64) (.pair (.int .i32) (.int .i32)))], fun xs => match xs with | [.one (.row (.pair (.int .i64) (.pair (.int .i32) (.int .i32))) l)] => some (R219 l) | _ => none⟩
noncomputable def G219 : GP := conG P219 R219
theorem P219_inj : ∀ a b, (P219 a).map den0 = (P219 b).map den0 → a = b := by
  rintro a0 b0 h
  simp only [P219, List.map_cons, List.map_nil, den0, den0L, List.cons.injEq, AV.one.injEq, AV.agg.injEq, Lf.int.injEq, Lf.str.injEq, Lf.bool.injEq, Lf.vrow.injEq, and_true, true_and] at h
  exact row_inj h
theorem K219_ok : ConG G219 K219 := conG_of P219_inj (fun _ _ => rfl) (fun _ => rfl) fun xs r h => by
  simp only [K219] at h
  split at h
  · cases h; rename_i l; exact ⟨l, rfl, rfl⟩
  · cases h
theorem pr219 {S : SC} (hB : SB S) (q245 : PrOk S 245 (pureP G245)) (h244 : S.has 244 f244) (h243 : S.has 243 f243) (h259 : S.has 259 f259) (h219 : S.has 219 f219) : PrOk S 219 (pureP G219) := by
  refine prM hB [(244, f244), (243, f243), (259, f259)] [⟨245, G245, K245⟩] ⟨h244, h243, h259, trivial⟩ ⟨⟨q245, K245_ok⟩, trivial⟩ h219 (fun _ => ⟨rfl, rfl, rfl⟩) (fun l => fun f id T L => match f, id with
      | 259, 0 => some (.inv { i : Nat // i ≤ l.length ∧ (l.take i).all (fun s => decide (s.1 = 0)) = true } (fun x => ([(8, .one (.int .i64 x.1))], [])) (fun x => l.length - x.1))
      | 243, 0 => some (.inv { p : Nat × Nat × List Stp // DelI l p } (fun x => ([(6, .one (.int .i64 x.1.1)), (5, .one (.int .i64 x.1.2.1))], [(0, .row StpT x.1.2.2)])) (fun x => l.length - x.1.1))
      | _, _ => none) 900 ?_
  rintro l hc
  have hc1 : l.length ≤ 1099511627776 := hc.1
  refine VC.use (p :=
    ((l = [] →
      ((∃ x1 : { i : Nat // i ≤ l.length ∧ ((List.take i l).all fun s => decide (s.fst = 0)) = true },
        (((0 : Int) = (0 : Int)) ∧
        (0 = (↑x1.val : Int)))) ∧
      (∀ x1 : { i : Nat // i ≤ l.length ∧ ((List.take i l).all fun s => decide (s.fst = 0)) = true },
       (((↑x1.val : Int) < 0 →
         False) ∧
       (¬(↑x1.val : Int) < 0 →
        ((i64R ((↑l.length : Int) - 0)) ∧
        ((↑l.length : Int) - 0 = costL l))))))) ∧
    (((0 + l.length) * 16 ≤ 140737488355328) ∧
    ((∃ x1 : { i : Nat // i ≤ l.length ∧ ((List.take i l).all fun s => decide (s.fst = 0)) = true },
      (((↑([] ++ l).length : Int) = (↑([] ++ l).length : Int)) ∧
      ((0 = (↑x1.val : Int)) ∧
      ([] ++ l = [] ++ l)))) ∧
    (∀ x1 : { i : Nat // i ≤ l.length ∧ ((List.take i l).all fun s => decide (s.fst = 0)) = true },
     (((↑x1.val : Int) < (↑([] ++ l).length : Int) →
       ((0 ≤ (↑x1.val : Int) ∧ (↑x1.val : Int) < (↑([] ++ l).length : Int)) ∧
       ((x1.val < ([] ++ l).length) ∧
       (((!decide ((([] ++ l).getD x1.val (0, 0, 0)).fst = 0)) = true →
         (((↑x1.val : Int) = -1 →
           ((i64R ((↑l.length : Int) - (↑([] ++ l).length : Int))) ∧
           ((↑l.length : Int) - (↑([] ++ l).length : Int) = costL l))) ∧
         (¬(↑x1.val : Int) = -1 →
          ((i64R ((↑x1.val : Int) + 1)) ∧
          ((∃ x2 : { p : Nat × Nat × List Stp // DelI l p },
            (((↑x1.val : Int) = (↑x2.val.snd.fst : Int)) ∧
            (((↑x1.val : Int) + 1 = (↑x2.val.fst : Int)) ∧
            ([] ++ l = x2.val.snd.snd)))) ∧
          (∀ x2 : { p : Nat × Nat × List Stp // DelI l p },
           (((↑x2.val.fst : Int) < (↑x2.val.snd.snd.length : Int) →
             ((0 ≤ (↑x2.val.fst : Int) ∧ (↑x2.val.fst : Int) < (↑x2.val.snd.snd.length : Int)) ∧
             ((x2.val.fst < x2.val.snd.snd.length) ∧
             (((!!decide ((x2.val.snd.snd.getD x2.val.fst (0, 0, 0)).fst = 0)) = true →
               ((0 ≤ (↑x2.val.snd.fst : Int) ∧ (↑x2.val.snd.fst : Int) < (↑x2.val.snd.snd.length : Int)) ∧
               ((x2.val.snd.fst < x2.val.snd.snd.length) ∧
               ((i64R ((↑x2.val.snd.fst : Int) + 1)) ∧
               ((i64R ((↑x2.val.fst : Int) + 1)) ∧
               (∃ x3 : { p : Nat × Nat × List Stp // DelI l p },
                ((l.length - x3.val.fst < l.length - x2.val.fst) ∧
                (((↑x2.val.snd.fst : Int) + 1 = (↑x3.val.snd.fst : Int)) ∧
                (((↑x2.val.fst : Int) + 1 = (↑x3.val.fst : Int)) ∧
                (x2.val.snd.snd.set x2.val.snd.fst ((x2.val.snd.snd.getD x2.val.fst (0, 0, 0)).fst, (x2.val.snd.snd.getD x2.val.fst (0, 0, 0)).snd.fst, (x2.val.snd.snd.getD x2.val.fst (0, 0, 0)).snd.snd) = x3.val.snd.snd)))))))))) ∧
             (¬(!!decide ((x2.val.snd.snd.getD x2.val.fst (0, 0, 0)).fst = 0)) = true →
              ((i64R ((↑x2.val.fst : Int) + 1)) ∧
              (∃ x3 : { p : Nat × Nat × List Stp // DelI l p },
               ((l.length - x3.val.fst < l.length - x2.val.fst) ∧
               (((↑x2.val.snd.fst : Int) = (↑x3.val.snd.fst : Int)) ∧
               (((↑x2.val.fst : Int) + 1 = (↑x3.val.fst : Int)) ∧
               (x2.val.snd.snd = x3.val.snd.snd))))))))))) ∧
           (¬(↑x2.val.fst : Int) < (↑x2.val.snd.snd.length : Int) →
            ((0 < x2.val.snd.snd.length) ∧
            ((0 ≤ (↑x2.val.snd.fst : Int) ∧ (↑x2.val.snd.fst : Int) ≤ (↑x2.val.snd.snd.length : Int)) ∧
            ((0 < x2.val.snd.snd.length) ∧
            ((toN (some (↑x2.val.snd.fst : Int)) 0 + (toN none x2.val.snd.snd.length - toN (some (↑x2.val.snd.fst : Int)) 0) ≤ x2.val.snd.snd.length) ∧
            ((0 < (List.take (toN (some (↑x2.val.snd.fst : Int)) 0) x2.val.snd.snd ++ (List.replicate (toN none x2.val.snd.snd.length - toN (some (↑x2.val.snd.fst : Int)) 0) (0, 0, 0) ++ List.drop (toN (some (↑x2.val.snd.fst : Int)) 0 + (toN none x2.val.snd.snd.length - toN (some (↑x2.val.snd.fst : Int)) 0)) x2.val.snd.snd)).length) ∧
            ((0 ≤ (↑x2.val.snd.fst : Int) ∧ (↑x2.val.snd.fst : Int) ≤ (↑(List.take (toN (some (↑x2.val.snd.fst : Int)) 0) x2.val.snd.snd ++ (List.replicate (toN none x2.val.snd.snd.length - toN (some (↑x2.val.snd.fst : Int)) 0) (0, 0, 0) ++ List.drop (toN (some (↑x2.val.snd.fst : Int)) 0 + (toN none x2.val.snd.snd.length - toN (some (↑x2.val.snd.fst : Int)) 0)) x2.val.snd.snd)).length : Int)) ∧
            ((i64R ((↑l.length : Int) - (↑(toN (some (↑x2.val.snd.fst : Int)) (List.take (toN (some (↑x2.val.snd.fst : Int)) 0) x2.val.snd.snd ++ (List.replicate (toN none x2.val.snd.snd.length - toN (some (↑x2.val.snd.fst : Int)) 0) (0, 0, 0) ++ List.drop (toN (some (↑x2.val.snd.fst : Int)) 0 + (toN none x2.val.snd.snd.length - toN (some (↑x2.val.snd.fst : Int)) 0)) x2.val.snd.snd)).length - 0) : Int))) ∧
            ((↑l.length : Int) - (↑(toN (some (↑x2.val.snd.fst : Int)) (List.take (toN (some (↑x2.val.snd.fst : Int)) 0) x2.val.snd.snd ++ (List.replicate (toN none x2.val.snd.snd.length - toN (some (↑x2.val.snd.fst : Int)) 0) (0, 0, 0) ++ List.drop (toN (some (↑x2.val.snd.fst : Int)) 0 + (toN none x2.val.snd.snd.length - toN (some (↑x2.val.snd.fst : Int)) 0)) x2.val.snd.snd)).length - 0) : Int) = costL l)))))))))))))))) ∧
       (¬(!decide ((([] ++ l).getD x1.val (0, 0, 0)).fst = 0)) = true →
        ((i64R ((↑x1.val : Int) + 1)) ∧
        (∃ x2 : { i : Nat // i ≤ l.length ∧ ((List.take i l).all fun s => decide (s.fst = 0)) = true },
         ((l.length - x2.val < l.length - x1.val) ∧
         (((↑([] ++ l).length : Int) = (↑([] ++ l).length : Int)) ∧
         (((↑x1.val : Int) + 1 = (↑x2.val : Int)) ∧
         ([] ++ l = [] ++ l))))))))))) ∧
     (¬(↑x1.val : Int) < (↑([] ++ l).length : Int) →
      ((i64R ((↑l.length : Int) - (↑([] ++ l).length : Int))) ∧
      ((↑l.length : Int) - (↑([] ++ l).length : Int) = costL l))))))))) (by kernel_rfl) ?_
  rw [List.nil_append]
  refine ⟨fun h0 => ⟨⟨⟨0, by omega, rfl⟩, rfl, rfl⟩, ?_⟩, by omega, ⟨⟨0, by omega, rfl⟩, rfl, rfl, rfl⟩, ?_⟩
  · rintro ⟨i, hi, ha⟩
    dsimp only
    subst h0
    exact ⟨fun h => by omega, fun _ => ⟨by unfold i64R; simp, rfl⟩⟩
  rintro ⟨i, hi, ha⟩
  dsimp only at hi ha ⊢
  refine ⟨fun h => ⟨by omega, by omega, fun h1 => ⟨fun h2 => by omega, fun _ => ⟨by unfold i64R; omega, ⟨⟨(i + 1, i, l), delI_start (by omega) ha (by simpa using h1)⟩, rfl, by push_cast; rfl, rfl⟩, ?_⟩⟩, fun h1 => ⟨by unfold i64R; omega, ⟨⟨i + 1, by omega, take_all ha (by omega) (by simpa using h1)⟩, by dsimp only; omega, rfl, by push_cast; rfl, rfl⟩⟩⟩, fun h => ⟨by unfold i64R; omega, by rw [costL_zero (all_take ha (by omega))]; omega⟩⟩
  rintro ⟨⟨j, u, r⟩, hd⟩
  have hd' := hd
  obtain ⟨d1, d2, d3, d4, d5⟩ := hd
  dsimp only at d1 d2 d3 d4 ⊢
  refine ⟨fun h3 => ⟨by omega, by omega, fun h4 => ⟨by omega, by omega, by unfold i64R; omega, by unfold i64R; omega, ⟨⟨(j + 1, u + 1, _), delI_keep hd' (by omega) (by simpa using h4)⟩, by dsimp only; omega, by push_cast; rfl, by push_cast; rfl, rfl⟩⟩, fun h4 => ⟨by unfold i64R; omega, ⟨⟨(j + 1, u, r), delI_drop hd' (by omega) (by simpa using h4)⟩, by dsimp only; omega, rfl, by push_cast; rfl, rfl⟩⟩⟩, fun h3 => ?_⟩
  have hc2 := costL_compl l
  rw [List.take_of_length_le (by omega)] at d4
  rw [← d4] at hc2
  simp only [toN, Int.toNat_natCast, List.length_append, List.length_take, List.length_replicate, List.length_drop, Nat.sub_zero]
  exact ⟨by omega, by omega, by omega, by omega, by omega, by omega, by unfold i64R; omega, by omega⟩
end Go.EA

