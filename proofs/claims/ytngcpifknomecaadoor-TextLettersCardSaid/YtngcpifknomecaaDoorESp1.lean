/- Layer 2: spans. Conditions: none. (Printed by a program of this project's own.) -/
import Derived.Test.YtngcpifknomecaaDoorEAf1
import Derived.Test.YtngcpifknomecaaDoorEAf2
import Derived.Test.YtngcpifknomecaaDoorEK9
import Derived.Test.YtngcpifknomecaaDoorEMean6
import Derived.Test.YtngcpifknomecaaDoorEPrim2
import Derived.Test.YtngcpifknomecaaDoorERf
import Derived.Test.YtngcpifknomecaaDoorERu
import Derived.Test.YtngcpifknomecaaDoorESpan
import Derived.KernelRfl
set_option linter.unusedVariables false
set_option linter.unusedSimpArgs false
set_option maxRecDepth 100000
set_option maxHeartbeats 0
namespace Go.EA
open F
theorem encB_n {r : Int} (h : Utf8.valid r = true) : ((encB r).length : Int) = if r < 128 then 1 else if r < 2048 then 2 else if r < 65536 then 3 else 4 := by
  have h0 : (encB r).length = (encI r).length := by simp [encI]
  have hv := valid_iff.1 h
  rw [h0]
  split
  · rw [encI1 h (by omega)]; rfl
  · split
    · rw [encI2 h (by omega) (by omega)]; rfl
    · split
      · rw [encI3 h (by omega) (by omega)]; rfl
      · rw [encI4 h (by omega)]; rfl
theorem drop_ne {s : List UInt8} {i : Nat} (h : i < s.length) : s.drop i ≠ [] := by
  intro h0; have := congrArg List.length h0; simp at this; omega
theorem sp_long {s : List UInt8} (h : 1048576 < (s.length : Int)) : spL s = [] ∧ spE s = 5 := by
  unfold spL spE
  rw [if_neg (by omega), if_pos (by omega)]; exact ⟨rfl, rfl⟩
theorem sp_bad {s : List UInt8} (h : ¬ 1048576 < (s.length : Int)) (hk : decOk s = false) : spL s = [] ∧ spE s = 3 := by
  unfold spL spE
  rw [if_neg (by simp [hk]), if_neg (by omega), hk]; exact ⟨rfl, rfl⟩
theorem sp_ok {s : List UInt8} (h : ¬ 1048576 < (s.length : Int)) (hk : decOk s = true) : spL s = spans 0 (grp (rn s)) ∧ spE s = 0 := by
  unfold spL spE
  rw [if_pos ⟨by omega, hk⟩, if_neg (by omega), hk]; exact ⟨rfl, rfl⟩
theorem addR_nil {o : List (Int × Int × Bool)} {a r : Int} (h : ¬ 0 < (o.length : Int)) : o ++ [(a, a + ((encB r).length : Int), letterB r)] = addR o a r := by
  have : o = [] := List.eq_nil_of_length_eq_zero (by omega)
  subst this; rfl
theorem addR_diff {o : List (Int × Int × Bool)} {a r : Int} (h : ¬ decide ((o.getD ((o.length : Int) - 1).toNat (0, 0, false)).2.2 = letterB r) = true) : o ++ [(a, a + ((encB r).length : Int), letterB r)] = addR o a r := by
  rw [show ((o.length : Int) - 1).toNat = o.length - 1 by omega] at h
  unfold addR
  rw [if_neg (fun h1 => h (decide_eq_true h1.2))]
theorem addR_same' {o : List (Int × Int × Bool)} {a r : Int} (h0 : 0 < (o.length : Int)) (h : decide ((o.getD ((o.length : Int) - 1).toNat (0, 0, false)).2.2 = letterB r) = true) : o.set ((o.length : Int) - 1).toNat ((o.getD ((o.length : Int) - 1).toNat (0, 0, false)).1, a + ((encB r).length : Int), (o.getD ((o.length : Int) - 1).toNat (0, 0, false)).2.2) = addR o a r := by
  rw [show ((o.length : Int) - 1).toNat = o.length - 1 by omega] at h ⊢
  have h := of_decide_eq_true h
  have hn : o ≠ [] := by rintro rfl; simp at h0
  unfold addR
  rw [if_pos ⟨hn, h⟩, h]
theorem addR_len (o : List (Int × Int × Bool)) (a r : Int) : (addR o a r).length ≤ o.length + 1 := by
  unfold addR
  split
  · simp
  · simp
def P72 : Int → List SV := fun r => [.one (.int .i32 r)]
def R72 : Int → SV × List Prop := fun r => (.one (.int .i64 (if Utf8.valid r = true then ((encB r).length : Int) else -1)), [])
def K72 : Con := ⟨[none], fun xs => match xs with | [.one (.int .i32 r)] => some (R72 r) | _ => none⟩
noncomputable def G72 : GP := conG P72 R72
theorem P72_inj : ∀ a b, (P72 a).map den0 = (P72 b).map den0 → a = b := by
  rintro a0 b0 h
  simp only [P72, List.map_cons, List.map_nil, den0, den0L, List.cons.injEq, AV.one.injEq, AV.agg.injEq, Lf.int.injEq, Lf.str.injEq, Lf.bool.injEq, Lf.vrow.injEq, and_true, true_and] at h
  exact h
theorem K72_ok : ConG G72 K72 := conG_of P72_inj fun xs r h => by
  simp only [K72] at h
  split at h
  · cases h; rename_i r; exact ⟨r, rfl, rfl⟩
  · cases h
theorem pr72 {S : SC} (hB : SB S)  (h72 : S.has 72 f72) : PrOk S 72 (pureP G72) := by
  refine prM hB [] [] trivial trivial h72 (fun _ => ⟨rfl, rfl, rfl⟩) (fun r => fun _ _ _ _ => none) 400 ?_
  rintro r hc
  refine VC.use (p :=
    ((r < 0 →
      (-1 = if Utf8.valid r = true then (↑(encB r).length : Int) else -1)) ∧
    (¬r < 0 →
     ((r ≤ 127 →
       (1 = if Utf8.valid r = true then (↑(encB r).length : Int) else -1)) ∧
     (¬r ≤ 127 →
      ((r ≤ 2047 →
        (2 = if Utf8.valid r = true then (↑(encB r).length : Int) else -1)) ∧
      (¬r ≤ 2047 →
       ((55296 ≤ r →
         ((r ≤ 57343 →
           (-1 = if Utf8.valid r = true then (↑(encB r).length : Int) else -1)) ∧
         (¬r ≤ 57343 →
          ((r ≤ 65535 →
            (3 = if Utf8.valid r = true then (↑(encB r).length : Int) else -1)) ∧
          (¬r ≤ 65535 →
           ((r ≤ 1114111 →
             (4 = if Utf8.valid r = true then (↑(encB r).length : Int) else -1)) ∧
           (¬r ≤ 1114111 →
            (-1 = if Utf8.valid r = true then (↑(encB r).length : Int) else -1)))))))) ∧
       (¬55296 ≤ r →
        ((r ≤ 65535 →
          (3 = if Utf8.valid r = true then (↑(encB r).length : Int) else -1)) ∧
        (¬r ≤ 65535 →
         ((r ≤ 1114111 →
           (4 = if Utf8.valid r = true then (↑(encB r).length : Int) else -1)) ∧
         (¬r ≤ 1114111 →
          (-1 = if Utf8.valid r = true then (↑(encB r).length : Int) else -1)))))))))))))) (by kernel_rfl) ?_
  have e := @encB_n r
  by_cases hv : Utf8.valid r = true
  · have e := e hv
    have h2 := valid_iff.1 hv
    rw [if_pos hv, e]
    repeat' (first | intro _ | apply And.intro)
    all_goals
      repeat' split
      all_goals omega
  · have h2 : ¬ _ := fun h => hv (valid_iff.2 h)
    rw [if_neg hv]
    repeat' (first | intro _ | apply And.intro)
    all_goals omega
def P50 : List UInt8 × Bool → List SV := fun (s, b) => [.one (.str s), .one (.bool b)]
def R50 : List UInt8 × Bool → SV × List Prop := fun (s, b) => (.one (.int .i64 (rowN s b)), [decOk s = true, s.length ≤ 1099511627776])
def K50 : Con := ⟨[none, none], fun xs => match xs with | [.one (.str s), .one (.bool b)] => some (R50 (s, b)) | _ => none⟩
noncomputable def G50 : GP := conG P50 R50
theorem P50_inj : ∀ a b, (P50 a).map den0 = (P50 b).map den0 → a = b := by
  rintro ⟨a0, a1⟩ ⟨b0, b1⟩ h
  simp only [P50, List.map_cons, List.map_nil, den0, den0L, List.cons.injEq, AV.one.injEq, AV.agg.injEq, Lf.int.injEq, Lf.str.injEq, Lf.bool.injEq, Lf.vrow.injEq, and_true, true_and, and_assoc] at h
  obtain ⟨h0, h1⟩ := h
  subst h0 h1
  rfl
theorem K50_ok : ConG G50 K50 := conG_of P50_inj fun xs r h => by
  simp only [K50] at h
  split at h
  · cases h; rename_i s b; exact ⟨(s, b), rfl, rfl⟩
  · cases h
theorem pr50 {S : SC} (hB : SB S) (q35 : PrOk S 35 (pureP G35)) (q72 : PrOk S 72 (pureP G72)) (h50 : S.has 50 f50) : PrOk S 50 (pureP G50) := by
  refine prM hB [] [⟨35, G35, K35⟩, ⟨72, G72, K72⟩] trivial ⟨⟨q35, K35_ok⟩, ⟨q72, K72_ok⟩, trivial⟩ h50 (fun ⟨s, b⟩ => ⟨rfl, rfl, rfl⟩) (fun (s, b) => fun f id T L => match f, id with
      | 50, 0 => some (.inv { i : Nat // i ≤ s.length ∧ decOk (s.drop i) = true ∧ rowN s b = i + rowN (s.drop i) b } (fun x => ([(4, .one (.int .i64 x.1))], [(0, .siter s x.1)])) (fun x => s.length - x.1))
      | _, _ => none) 400 ?_
  rintro ⟨s, b⟩ hc
  have hc1 : decOk s = true := hc.1
  have hc2 : s.length ≤ 1099511627776 := hc.2.1
  refine VC.use (p :=
    ((∃ x1 : { i : Nat // i ≤ s.length ∧ decOk (List.drop i s) = true ∧ rowN s b = (↑i : Int) + rowN (List.drop i s) b },
      ((b = b) ∧
      ((0 = (↑x1.val : Int)) ∧
      ((s = s) ∧
      (0 = x1.val))))) ∧
    (∀ x1 : { i : Nat // i ≤ s.length ∧ decOk (List.drop i s) = true ∧ rowN s b = (↑i : Int) + rowN (List.drop i s) b },
     ((x1.val < s.length →
       (((!decide (letterB (↑(Utf8.decode { data := s.toArray } x1.val).fst : Int) = b)) = true →
         ((↑x1.val : Int) = rowN s b)) ∧
       (¬(!decide (letterB (↑(Utf8.decode { data := s.toArray } x1.val).fst : Int) = b)) = true →
        ((i64R ((↑x1.val : Int) + if Utf8.valid (↑(Utf8.decode { data := s.toArray } x1.val).fst : Int) = true then (↑(encB (↑(Utf8.decode { data := s.toArray } x1.val).fst : Int)).length : Int) else -1)) ∧
        (∃ x2 : { i : Nat // i ≤ s.length ∧ decOk (List.drop i s) = true ∧ rowN s b = (↑i : Int) + rowN (List.drop i s) b },
         ((s.length - x2.val < s.length - x1.val) ∧
         ((b = b) ∧
         ((((↑x1.val : Int) + if Utf8.valid (↑(Utf8.decode { data := s.toArray } x1.val).fst : Int) = true then (↑(encB (↑(Utf8.decode { data := s.toArray } x1.val).fst : Int)).length : Int) else -1) = (↑x2.val : Int)) ∧
         ((s = s) ∧
         (x1.val + (Utf8.decode { data := s.toArray } x1.val).snd = x2.val)))))))))) ∧
     (¬x1.val < s.length →
      ((↑x1.val : Int) = rowN s b)))))) (by kernel_rfl) ?_
  refine ⟨⟨⟨0, by omega, hc1, by simp⟩, rfl, rfl, rfl, rfl⟩, ?_⟩
  rintro ⟨i, hi, hk, he⟩
  dsimp only
  refine ⟨fun h => ?_, fun h => ?_⟩
  · have hne := drop_ne h
    obtain ⟨_, hk2, hv, hw, h1, h2⟩ := ok_cons hne hk
    rw [List.length_drop] at h2
    rw [List.drop_drop] at hk2
    rw [decode_dec h, if_pos hv, hw]
    refine ⟨fun h3 => ?_, fun h3 => ⟨by unfold i64R; omega, ⟨i + (dec (s.drop i)).2, by omega, hk2, ?_⟩, ?_, rfl, ?_, rfl, rfl⟩⟩
    · rw [he, rowN_no hne (by simpa using h3)]; omega
    · rw [he, rowN_yes hne hk (by simpa using h3), List.drop_drop]; omega
    · show s.length - (i + _) < _
      omega
    · show _ = ((i + _ : Nat) : Int)
      omega
  · have : s.drop i = [] := List.drop_eq_nil_of_le (by omega)
    rw [he, this, rowN_nil]; omega
def P27 : List UInt8 → List SV := fun s => [.one (.str s)]
def R27 : List UInt8 → SV × List Prop := fun s => (.tup [.o (.row (.pair (.int .i64) (.pair (.int .i64) .bool)) (spL s)), .o (.int .i64 (spE s))], [])
def K27 : Con := ⟨[none], fun xs => match xs with | [.one (.str s)] => some (R27 s) | _ => none⟩
noncomputable def G27 : GP := conG P27 R27
theorem P27_inj : ∀ a b, (P27 a).map den0 = (P27 b).map den0 → a = b := by
  rintro a0 b0 h
  simp only [P27, List.map_cons, List.map_nil, den0, den0L, List.cons.injEq, AV.one.injEq, AV.agg.injEq, Lf.int.injEq, Lf.str.injEq, Lf.bool.injEq, Lf.vrow.injEq, and_true, true_and] at h
  exact h
theorem K27_ok : ConG G27 K27 := conG_of P27_inj fun xs r h => by
  simp only [K27] at h
  split at h
  · cases h; rename_i s; exact ⟨s, rfl, rfl⟩
  · cases h
theorem pr27 {S : SC} (hB : SB S) (q38 : PrOk S 38 (pureP G38)) (q50 : PrOk S 50 (pureP G50)) (h27 : S.has 27 f27) : PrOk S 27 (pureP G27) := by
  refine prM hB [] [⟨38, G38, K38⟩, ⟨50, G50, K50⟩] trivial ⟨⟨q38, K38_ok⟩, ⟨q50, K50_ok⟩, trivial⟩ h27 (fun _ => ⟨rfl, rfl, rfl⟩) (fun s => fun f id T L => match f, id with
      | 27, 1 => some (.inv { p : Nat × List (Int × Int × Bool) × Bool // p.1 ≤ s.length ∧ decOk (s.drop p.1) = true ∧ p.2.1.length ≤ p.1 ∧ p.2.1 ++ spans p.1 (grp (rn (s.drop p.1))) = spL s } (fun x => ([(5, .one (.int .i64 x.1.1)), (4, .one (.bool x.1.2.2)), (2, .one (.osl 0))], [(0, .row (.pair (.int .i64) (.pair (.int .i64) .bool)) x.1.2.1)])) (fun x => spM (s.drop x.1.1) x.1.2.2))
      | _, _ => none) 400 ?_
  rintro s hc
  refine VC.use (p :=
    ((1048576 < (↑s.length : Int) →
      ((spL s = []) ∧
      (5 = spE s))) ∧
    (¬1048576 < (↑s.length : Int) →
     ((s.length ≤ 4611686018427387904) ∧
     (((!decOk s) = true →
       ((spL s = []) ∧
       (3 = spE s))) ∧
     (¬(!decOk s) = true →
      ((∃ x1 : { p : Nat × List (Int × Int × Bool) × Bool // p.fst ≤ s.length ∧ decOk (List.drop p.fst s) = true ∧ p.snd.fst.length ≤ p.fst ∧ p.snd.fst ++ spans (↑p.fst : Int) (grp (rn (List.drop p.fst s))) = spL s },
        ((s = s) ∧
        ((x1.val.snd.fst = []) ∧
        ((true = x1.val.snd.snd) ∧
        ((0 = (↑x1.val.fst : Int)) ∧
        (x1.val.snd.fst = [])))))) ∧
      (∀ x1 : { p : Nat × List (Int × Int × Bool) × Bool // p.fst ≤ s.length ∧ decOk (List.drop p.fst s) = true ∧ p.snd.fst.length ≤ p.fst ∧ p.snd.fst ++ spans (↑p.fst : Int) (grp (rn (List.drop p.fst s))) = spL s },
       (((↑x1.val.fst : Int) < (↑s.length : Int) →
         ((0 ≤ (↑x1.val.fst : Int) ∧ (↑x1.val.fst : Int) ≤ (↑s.length : Int)) ∧
         ((decOk (cutR s (some (↑x1.val.fst : Int)) none) = true) ∧
         (((cutR s (some (↑x1.val.fst : Int)) none).length ≤ 1099511627776) ∧
         ((0 < rowN (cutR s (some (↑x1.val.fst : Int)) none) x1.val.snd.snd →
           ((i64R ((↑x1.val.fst : Int) + rowN (cutR s (some (↑x1.val.fst : Int)) none) x1.val.snd.snd)) ∧
           (((x1.val.snd.fst.length + [((↑x1.val.fst : Int), (↑x1.val.fst : Int) + rowN (cutR s (some (↑x1.val.fst : Int)) none) x1.val.snd.snd, x1.val.snd.snd)].length) * 24 ≤ 140737488355328) ∧
           ((i64R ((↑x1.val.fst : Int) + rowN (cutR s (some (↑x1.val.fst : Int)) none) x1.val.snd.snd)) ∧
           (∃ x2 : { p : Nat × List (Int × Int × Bool) × Bool // p.fst ≤ s.length ∧ decOk (List.drop p.fst s) = true ∧ p.snd.fst.length ≤ p.fst ∧ p.snd.fst ++ spans (↑p.fst : Int) (grp (rn (List.drop p.fst s))) = spL s },
            ((spM (List.drop x2.val.fst s) x2.val.snd.snd < spM (List.drop x1.val.fst s) x1.val.snd.snd) ∧
            ((s = s) ∧
            (((!x1.val.snd.snd) = x2.val.snd.snd) ∧
            (((↑x1.val.fst : Int) + rowN (cutR s (some (↑x1.val.fst : Int)) none) x1.val.snd.snd = (↑x2.val.fst : Int)) ∧
            (x1.val.snd.fst ++ [((↑x1.val.fst : Int), (↑x1.val.fst : Int) + rowN (cutR s (some (↑x1.val.fst : Int)) none) x1.val.snd.snd, x1.val.snd.snd)] = x2.val.snd.fst)))))))))) ∧
         (¬0 < rowN (cutR s (some (↑x1.val.fst : Int)) none) x1.val.snd.snd →
          (∃ x2 : { p : Nat × List (Int × Int × Bool) × Bool // p.fst ≤ s.length ∧ decOk (List.drop p.fst s) = true ∧ p.snd.fst.length ≤ p.fst ∧ p.snd.fst ++ spans (↑p.fst : Int) (grp (rn (List.drop p.fst s))) = spL s },
           ((spM (List.drop x2.val.fst s) x2.val.snd.snd < spM (List.drop x1.val.fst s) x1.val.snd.snd) ∧
           ((s = s) ∧
           (((!x1.val.snd.snd) = x2.val.snd.snd) ∧
           (((↑x1.val.fst : Int) = (↑x2.val.fst : Int)) ∧
           (x1.val.snd.fst = x2.val.snd.fst)))))))))))) ∧
       (¬(↑x1.val.fst : Int) < (↑s.length : Int) →
        ((x1.val.snd.fst = spL s) ∧
        (0 = spE s)))))))))))) (by kernel_rfl) ?_
  refine ⟨fun h => ⟨(sp_long h).1, (sp_long h).2.symm⟩, fun h => ⟨by omega, fun h1 => ?_, fun h1 => ?_⟩⟩
  · have h1 : decOk s = false := by simpa using h1
    exact ⟨(sp_bad h h1).1, (sp_bad h h1).2.symm⟩
  have h1 : decOk s = true := by simpa using h1
  obtain ⟨e1, e2⟩ := sp_ok h h1
  refine ⟨⟨⟨(0, [], true), Nat.zero_le _, h1, Nat.le_refl _, e1.symm⟩, rfl, rfl, rfl, rfl, rfl⟩, ?_⟩
  rintro ⟨⟨i, o, b⟩, hi, hk, ho, he⟩
  dsimp only at hi hk ho he ⊢
  refine ⟨fun h2 => ?_, fun h2 => ?_⟩
  · have hne : s.drop i ≠ [] := drop_ne (by omega)
    rw [show cutR s (some (i : Int)) none = s.drop i from rfl]
    have hl : (s.drop i).length = s.length - i := List.length_drop
    have hb := rowN_le (b := b) hk
    refine ⟨by omega, hk, by omega, fun h3 => ?_, fun h3 => ?_⟩
    · obtain ⟨n, hn⟩ : ∃ n : Nat, rowN (s.drop i) b = n := ⟨(rowN (s.drop i) b).toNat, by omega⟩
      have hd := (rowN_drop (b := b) hk).2
      have hs := spans_step (at' := i) hk h3
      have hm := spM_yes (c := !b) hk h3
      rw [hn] at hd hs hm hb h3 ⊢
      rw [Int.toNat_natCast, List.drop_drop] at hd hs hm
      rw [List.length_singleton]
      refine ⟨by unfold i64R; omega, by omega, by unfold i64R; omega, ⟨(i + n, o ++ [((i : Int), (i : Int) + n, b)], !b), by omega, hd, by simp; omega, ?_⟩, hm, rfl, rfl, by push_cast; rfl, rfl⟩
      rw [← he, hs]
      simp
    · exact ⟨⟨(i, o, !b), hi, hk, ho, he⟩, spM_no hne hk h3, rfl, rfl, rfl, rfl⟩
  · have : s.drop i = [] := List.drop_eq_nil_of_le (by omega)
    rw [this] at he
    refine ⟨?_, e2.symm⟩
    rw [← he]
    simp [rn, runes_nil, grp, spans]
def P51 : List Int → List SV := fun l => [.one (.row (.int .i32) l)]
def R51 : List Int → SV × List Prop := fun l => (.one (.str (encT l)), [l.length ≤ 1099511627776])
def K51 : Con := ⟨[some (.int .i32)], fun xs => match xs with | [.one (.row (.int .i32) l)] => some (R51 l) | _ => none⟩
noncomputable def G51 : GP := conG P51 R51
theorem P51_inj : ∀ a b, (P51 a).map den0 = (P51 b).map den0 → a = b := by
  rintro a0 b0 h
  simp only [P51, List.map_cons, List.map_nil, den0, den0L, List.cons.injEq, AV.one.injEq, AV.agg.injEq, Lf.int.injEq, Lf.str.injEq, Lf.bool.injEq, Lf.vrow.injEq, and_true, true_and] at h
  exact row_inj h
theorem K51_ok : ConG G51 K51 := conG_of P51_inj fun xs r h => by
  simp only [K51] at h
  split at h
  · cases h; rename_i l; exact ⟨l, rfl, rfl⟩
  · cases h
theorem pr51 {S : SC} (hB : SB S) (q34 : PrOk S 34 (pureP G34)) (h51 : S.has 51 f51) : PrOk S 51 (pureP G51) := by
  refine prM hB [] [⟨34, G34, K34⟩] trivial ⟨⟨q34, K34_ok⟩, trivial⟩ h51 (fun _ => ⟨rfl, rfl, rfl⟩) (fun l => fun _ _ _ _ => none) 400 ?_
  rintro l hc
  have hc1 : l.length ≤ 1099511627776 := hc.1
  refine VC.use (p :=
    ((l.length ≤ 1099511627776) ∧
    (encT l = encT l))) (by kernel_rfl) ?_
  exact ⟨hc1, rfl⟩
def P28 : List UInt8 → List SV := fun s => [.one (.str s)]
def R28 : List UInt8 → SV × List Prop := fun s => (.tup [.o (.row (.pair (.int .i64) (.pair (.int .i64) .bool)) (spL s)), .o (.int .i64 (spE s))], [])
def K28 : Con := ⟨[none], fun xs => match xs with | [.one (.str s)] => some (R28 s) | _ => none⟩
noncomputable def G28 : GP := conG P28 R28
theorem P28_inj : ∀ a b, (P28 a).map den0 = (P28 b).map den0 → a = b := by
  rintro a0 b0 h
  simp only [P28, List.map_cons, List.map_nil, den0, den0L, List.cons.injEq, AV.one.injEq, AV.agg.injEq, Lf.int.injEq, Lf.str.injEq, Lf.bool.injEq, Lf.vrow.injEq, and_true, true_and] at h
  exact h
theorem K28_ok : ConG G28 K28 := conG_of P28_inj fun xs r h => by
  simp only [K28] at h
  split at h
  · cases h; rename_i s; exact ⟨s, rfl, rfl⟩
  · cases h
theorem pr28 {S : SC} (hB : SB S) (q19 : PrOk S 19 (pureP G19)) (q51 : PrOk S 51 (pureP G51)) (q36 : PrOk S 36 (pureP G36)) (h28 : S.has 28 f28) : PrOk S 28 (pureP G28) := by
  refine prM hB [] [⟨19, G19, K19⟩, ⟨51, G51, K51⟩, ⟨36, G36, K36⟩] trivial ⟨⟨q19, K19_ok⟩, ⟨q51, K51_ok⟩, ⟨q36, K36_ok⟩, trivial⟩ h28 (fun _ => ⟨rfl, rfl, rfl⟩) (fun s => fun f id T L => match f, id with
      | 28, 0 => some (.inv { p : Nat × List (Int × Int × Bool) × Int // p.1 ≤ (decR s).length ∧ p.2.1.length ≤ p.1 ∧ 0 ≤ p.2.2 ∧ p.2.2 ≤ 4 * p.1 ∧ addAll p.2.1 p.2.2 ((decR s).drop p.1) = spL s } (fun x => ([(25, .one (.int .i64 x.1.1)), (6, .one (.osl 0)), (7, .one (.int .i64 x.1.2.2))], [(0, .row (.pair (.int .i64) (.pair (.int .i64) .bool)) x.1.2.1)])) (fun x => (decR s).length - x.1.1))
      | 28, 1 => match T.getD 25 .junk, T.getD 7 .junk, getO L 0 with | .one (.int _ i), .one (.int _ a), .row (.pair (.int .i64) (.pair (.int .i64) .bool)) o => some (.cut Unit fun _ => ([(6, .one (.osl 0)), (7, .one (.int .i64 (a + (encB ((decR s).getD i.toNat 0)).length)))], [(0, .row (.pair (.int .i64) (.pair (.int .i64) .bool)) (addR o a ((decR s).getD i.toNat 0)))])) | _, _, _ => none
      | _, _ => none) 400 ?_
  rintro s hc
  refine VC.use (p :=
    ((1048576 < (↑s.length : Int) →
      ((spL s = []) ∧
      (5 = spE s))) ∧
    (¬1048576 < (↑s.length : Int) →
     ((s.length ≤ 1099511627776) ∧
     ((decE s = 0 →
       ((∃ x1 : { p : Nat × List (Int × Int × Bool) × Int // p.fst ≤ (decR s).length ∧ p.snd.fst.length ≤ p.fst ∧ 0 ≤ p.snd.snd ∧ p.snd.snd ≤ 4 * (↑p.fst : Int) ∧ addAll p.snd.fst p.snd.snd (List.drop p.fst (decR s)) = spL s },
         ((x1.val.snd.fst = []) ∧
         ((0 = x1.val.snd.snd) ∧
         ((decR s = decR s) ∧
         (((↑(decR s).length : Int) = (↑(decR s).length : Int)) ∧
         ((0 = (↑x1.val.fst : Int)) ∧
         (x1.val.snd.fst = []))))))) ∧
       (∀ x1 : { p : Nat × List (Int × Int × Bool) × Int // p.fst ≤ (decR s).length ∧ p.snd.fst.length ≤ p.fst ∧ 0 ≤ p.snd.snd ∧ p.snd.snd ≤ 4 * (↑p.fst : Int) ∧ addAll p.snd.fst p.snd.snd (List.drop p.fst (decR s)) = spL s },
        (((↑x1.val.fst : Int) < (↑(decR s).length : Int) →
          (((0 ≤ (↑x1.val.fst : Int) ∧ (↑x1.val.fst : Int) < (↑(decR s).length : Int)) ∧
           (([(decR s).getD x1.val.fst 0].length ≤ 1099511627776) ∧
           ((0 < (↑x1.val.snd.fst.length : Int) →
             ((i64R ((↑x1.val.snd.fst.length : Int) - 1)) ∧
             ((0 ≤ (↑x1.val.snd.fst.length : Int) - 1 ∧ (↑x1.val.snd.fst.length : Int) - 1 < (↑x1.val.snd.fst.length : Int)) ∧
             ((((↑x1.val.snd.fst.length : Int) - 1).toNat < x1.val.snd.fst.length) ∧
             ((decide ((x1.val.snd.fst.getD ((↑x1.val.snd.fst.length : Int) - 1).toNat (0, 0, false)).snd.snd = letterB ((decR s).getD x1.val.fst 0)) = true →
               ((i64R ((↑x1.val.snd.fst.length : Int) - 1)) ∧
               ((i64R (x1.val.snd.snd + (↑(encT [(decR s).getD x1.val.fst 0]).length : Int))) ∧
               ((0 ≤ (↑x1.val.snd.fst.length : Int) - 1 ∧ (↑x1.val.snd.fst.length : Int) - 1 < (↑x1.val.snd.fst.length : Int)) ∧
               ((((↑x1.val.snd.fst.length : Int) - 1).toNat < x1.val.snd.fst.length) ∧
               ((i64R (x1.val.snd.snd + (↑(encT [(decR s).getD x1.val.fst 0]).length : Int))) ∧
               (∃ x2 : Unit,
                ((x1.val.snd.snd + (↑(encT [(decR s).getD x1.val.fst 0]).length : Int) = x1.val.snd.snd + (↑(encB ((decR s).getD x1.val.fst 0)).length : Int)) ∧
                ((decR s = decR s) ∧
                (((↑(decR s).length : Int) = (↑(decR s).length : Int)) ∧
                (((↑x1.val.fst : Int) = (↑x1.val.fst : Int)) ∧
                (x1.val.snd.fst.set ((↑x1.val.snd.fst.length : Int) - 1).toNat ((x1.val.snd.fst.getD ((↑x1.val.snd.fst.length : Int) - 1).toNat (0, 0, false)).fst, x1.val.snd.snd + (↑(encT [(decR s).getD x1.val.fst 0]).length : Int), (x1.val.snd.fst.getD ((↑x1.val.snd.fst.length : Int) - 1).toNat (0, 0, false)).snd.snd) = addR x1.val.snd.fst x1.val.snd.snd ((decR s).getD x1.val.fst 0))))))))))))) ∧
             (¬decide ((x1.val.snd.fst.getD ((↑x1.val.snd.fst.length : Int) - 1).toNat (0, 0, false)).snd.snd = letterB ((decR s).getD x1.val.fst 0)) = true →
              ((i64R (x1.val.snd.snd + (↑(encT [(decR s).getD x1.val.fst 0]).length : Int))) ∧
              (((x1.val.snd.fst.length + [(x1.val.snd.snd, x1.val.snd.snd + (↑(encT [(decR s).getD x1.val.fst 0]).length : Int), letterB ((decR s).getD x1.val.fst 0))].length) * 24 ≤ 140737488355328) ∧
              ((i64R (x1.val.snd.snd + (↑(encT [(decR s).getD x1.val.fst 0]).length : Int))) ∧
              (∃ x2 : Unit,
               ((x1.val.snd.snd + (↑(encT [(decR s).getD x1.val.fst 0]).length : Int) = x1.val.snd.snd + (↑(encB ((decR s).getD x1.val.fst 0)).length : Int)) ∧
               ((decR s = decR s) ∧
               (((↑(decR s).length : Int) = (↑(decR s).length : Int)) ∧
               (((↑x1.val.fst : Int) = (↑x1.val.fst : Int)) ∧
               (x1.val.snd.fst ++ [(x1.val.snd.snd, x1.val.snd.snd + (↑(encT [(decR s).getD x1.val.fst 0]).length : Int), letterB ((decR s).getD x1.val.fst 0))] = addR x1.val.snd.fst x1.val.snd.snd ((decR s).getD x1.val.fst 0)))))))))))))))) ∧
           (¬0 < (↑x1.val.snd.fst.length : Int) →
            ((i64R (x1.val.snd.snd + (↑(encT [(decR s).getD x1.val.fst 0]).length : Int))) ∧
            (((x1.val.snd.fst.length + [(x1.val.snd.snd, x1.val.snd.snd + (↑(encT [(decR s).getD x1.val.fst 0]).length : Int), letterB ((decR s).getD x1.val.fst 0))].length) * 24 ≤ 140737488355328) ∧
            ((i64R (x1.val.snd.snd + (↑(encT [(decR s).getD x1.val.fst 0]).length : Int))) ∧
            (∃ x2 : Unit,
             ((x1.val.snd.snd + (↑(encT [(decR s).getD x1.val.fst 0]).length : Int) = x1.val.snd.snd + (↑(encB ((decR s).getD x1.val.fst 0)).length : Int)) ∧
             ((decR s = decR s) ∧
             (((↑(decR s).length : Int) = (↑(decR s).length : Int)) ∧
             (((↑x1.val.fst : Int) = (↑x1.val.fst : Int)) ∧
             (x1.val.snd.fst ++ [(x1.val.snd.snd, x1.val.snd.snd + (↑(encT [(decR s).getD x1.val.fst 0]).length : Int), letterB ((decR s).getD x1.val.fst 0))] = addR x1.val.snd.fst x1.val.snd.snd ((decR s).getD x1.val.fst 0)))))))))))))) ∧
          (∀ x2 : Unit,
           ((i64R ((↑x1.val.fst : Int) + 1)) ∧
           (∃ x3 : { p : Nat × List (Int × Int × Bool) × Int // p.fst ≤ (decR s).length ∧ p.snd.fst.length ≤ p.fst ∧ 0 ≤ p.snd.snd ∧ p.snd.snd ≤ 4 * (↑p.fst : Int) ∧ addAll p.snd.fst p.snd.snd (List.drop p.fst (decR s)) = spL s },
            (((decR s).length - x3.val.fst < (decR s).length - x1.val.fst) ∧
            ((x1.val.snd.snd + (↑(encB ((decR s).getD x1.val.fst 0)).length : Int) = x3.val.snd.snd) ∧
            ((decR s = decR s) ∧
            (((↑(decR s).length : Int) = (↑(decR s).length : Int)) ∧
            (((↑x1.val.fst : Int) + 1 = (↑x3.val.fst : Int)) ∧
            (addR x1.val.snd.fst x1.val.snd.snd ((decR s).getD x1.val.fst 0) = x3.val.snd.fst))))))))))) ∧
        (¬(↑x1.val.fst : Int) < (↑(decR s).length : Int) →
         ((x1.val.snd.fst = spL s) ∧
         (0 = spE s))))))) ∧
     (¬decE s = 0 →
      ((spL s = []) ∧
      (decE s = spE s)))))))) (by kernel_rfl) ?_
  refine ⟨fun h => ⟨(sp_long h).1, (sp_long h).2.symm⟩, fun h => ⟨by omega, fun h1 => ?_, fun h1 => ?_⟩⟩
  · have hk := decE_zero.1 h1
    obtain ⟨e1, e2⟩ := sp_ok h hk
    have hr : decR s = rn s := by unfold decR rn; rw [if_pos hk]
    have hall := valid_rn hk
    rw [← hr] at hall e1
    have hn := decR_len s
    refine ⟨⟨⟨(0, [], 0), Nat.zero_le _, Nat.le_refl _, Int.le_refl _, Int.le_refl _, (addAll_nil _).trans e1.symm⟩, rfl, rfl, rfl, rfl, rfl, rfl⟩, ?_⟩
    rintro ⟨⟨i, o, a⟩, hi, ho, ha0, ha, he⟩
    dsimp only at hi ho ha0 ha he ⊢
    refine ⟨fun h2 => ?_, fun h2 => ?_⟩
    · have hv := valid_get hall h2
      have hd := drop_cons (d := (0 : Int)) (a := decR s) (i := i) (by omega)
      rw [hd] at he
      have et : encT [(decR s).getD i 0] = encB ((decR s).getD i 0) := by
        rw [(encT_ok (by simp only [List.all_cons, hv]; rfl)).1]; simp [encL]
      rw [et]
      clear et hd
      generalize (decR s).getD i 0 = r at *
      have hl := encB_len hv
      have h0 := addR_nil (o := o) (a := a) (r := r)
      have h3 := addR_diff (o := o) (a := a) (r := r)
      have h4 := addR_same' (o := o) (a := a) (r := r)
      have h5 := addR_len o a r
      refine ⟨⟨by omega, by simp, ⟨fun h6 => ⟨by unfold i64R; omega, by omega, by omega, fun h7 => ⟨by unfold i64R; omega, by unfold i64R; omega, by omega, by omega, by unfold i64R; omega, (), rfl, rfl, rfl, rfl, h4 h6 h7⟩, fun h7 => ⟨by unfold i64R; omega, by simp; omega, by unfold i64R; omega, (), rfl, rfl, rfl, rfl, h3 h7⟩⟩, fun h6 => ⟨by unfold i64R; omega, by simp; omega, by unfold i64R; omega, (), rfl, rfl, rfl, rfl, h0 h6⟩⟩⟩, fun _ => ⟨by unfold i64R; omega, ⟨(i + 1, addR o a r, a + (encB r).length), by omega, by dsimp only; omega, by dsimp only; omega, by dsimp only; omega, he⟩, by show _ - (i + 1) < _ - i; omega, rfl, rfl, rfl, by push_cast; rfl, rfl⟩⟩
    · refine ⟨?_, e2.symm⟩
      rw [List.drop_eq_nil_of_le (by omega)] at he
      exact he
  · obtain ⟨e1, e2⟩ := sp_bad h (decE_nz.1 h1)
    refine ⟨e1, ?_⟩
    rw [e2]; unfold decE; rw [decE_nz.1 h1]; rfl
end Go.EA
