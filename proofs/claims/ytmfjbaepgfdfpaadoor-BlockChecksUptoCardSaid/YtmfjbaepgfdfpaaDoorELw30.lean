/- Layer 5: laws of single blocks. Conditions: none. (Printed by a program of this project's own.) -/
import Derived.Test.YtmfjbaepgfdfpaaDoorEBk
import Derived.Test.YtmfjbaepgfdfpaaDoorEK9
import Derived.KernelRfl
set_option linter.unusedVariables false
set_option linter.unusedSimpArgs false
set_option maxRecDepth 100000
set_option maxHeartbeats 0
namespace Go.EA
open F
theorem sless_irr : ∀ (a : List UInt8), sless a a = false
  | [] => rfl
  | x :: a => by
    show (decide (x < x) || (x == x && sless a a)) = false
    rw [sless_irr a]; simp
theorem sless_nil (a : List UInt8) : sless a [] = false := by cases a <;> rfl
theorem sless_cons (x y : UInt8) (a b : List UInt8) : sless (x :: a) (y :: b) = true ↔ x < y ∨ x = y ∧ sless a b = true := by
  show (decide (x < y) || (x == y && Op.bytesLess a b)) = true ↔ _
  simp
theorem sless_trans : ∀ {a b c : List UInt8}, sless a b = true → sless b c = true → sless a c = true
  | _, _, [], _, h => by rw [sless_nil] at h; cases h
  | [], _, _ :: _, _, _ => rfl
  | _ :: _, [], _ :: _, h, _ => by rw [sless_nil] at h; cases h
  | x :: a, y :: b, z :: c, h, h' => by
    rw [sless_cons] at *
    rcases h with h | ⟨rfl, h⟩
    · rcases h' with h' | ⟨rfl, h'⟩
      · exact .inl (UInt8.lt_trans h h')
      · exact .inl h
    · rcases h' with h' | ⟨rfl, h'⟩
      · exact .inl h'
      · exact .inr ⟨rfl, sless_trans h h'⟩
theorem sless_tot : ∀ (a b : List UInt8), sless a b = true ∨ a = b ∨ sless b a = true
  | [], [] => .inr (.inl rfl)
  | [], _ :: _ => .inl rfl
  | _ :: _, [] => .inr (.inr rfl)
  | x :: a, y :: b => by
    rw [sless_cons, sless_cons]
    rcases Nat.lt_trichotomy x.toNat y.toNat with h | h | h
    · exact .inl (.inl h)
    · have := UInt8.toNat_inj.1 h
      subst this
      rcases sless_tot a b with h | rfl | h
      · exact .inl (.inr ⟨rfl, h⟩)
      · exact .inr (.inl rfl)
      · exact .inr (.inr (.inr ⟨rfl, h⟩))
    · exact .inr (.inr (.inl h))
theorem sless_asy {a b : List UInt8} (h : sless a b = true) : sless b a = false := by
  cases h1 : sless b a
  · rfl
  · have := sless_trans h h1; rw [sless_irr] at this; cases this
theorem sless_ne {a b : List UInt8} (h : sless a b = true) : a ≠ b := by rintro rfl; rw [sless_irr] at h; cases h
theorem lessV_iff (a b : Blk) : lessV a b = true ↔ sless a.1 b.1 = true ∨ a.1 = b.1 ∧ sless a.2.1 b.2.1 = true := by
  unfold lessV cmpS
  rw [decide_eq_true_eq]
  rcases sless_tot a.1 b.1 with h | h | h
  · rw [if_pos h]
    exact ⟨fun _ => .inl h, fun _ => by unfold orV; simp⟩
  · rw [h, sless_irr]
    rw [if_neg (by decide), if_pos rfl]
    rcases sless_tot a.2.1 b.2.1 with h2 | h2 | h2
    · rw [if_pos h2]; exact ⟨fun _ => .inr ⟨rfl, h2⟩, fun _ => by decide⟩
    · rw [h2, sless_irr, if_neg (by decide), if_pos rfl]
      exact ⟨fun h => absurd h (by decide), fun h => by simp at h⟩
    · rw [sless_asy h2, if_neg (by decide), if_neg (sless_ne h2).symm]
      exact ⟨fun h => absurd h (by decide), fun h => by simp at h⟩
  · rw [sless_asy h, if_neg (by decide), if_neg (sless_ne h).symm]
    constructor
    · intro h1
      exfalso
      revert h1
      unfold orV
      simp
    · intro h1
      rcases h1 with h1 | ⟨h1, _⟩
      · cases h1
      · exact absurd h1 (sless_ne h).symm
theorem runes_dec {s : List UInt8} (h : decE s = 0) : decOk s = true ∧ (runes s).length = (decR s).length := by
  have hk := decE_zero.1 h
  refine ⟨hk, ?_⟩
  unfold decR
  rw [if_pos hk, List.length_map]
def P235 : List UInt8 × List UInt8 × Int → List SV := fun (b0, b1, b2) => [.agg [.str b0, .str b1, .int .i64 b2]]
def R235 : List UInt8 × List UInt8 × Int → SV × List Prop := fun (b0, b1, b2) => (.one (.int .i64 (bchk (b0, b1, b2))), [b0.length ≤ 1099511627776, b1.length ≤ 1099511627776])
def K235 : Con := ⟨true, [none], fun xs => match xs with | [.agg [.str b0, .str b1, .int .i64 b2]] => some (R235 (b0, b1, b2)) | _ => none⟩
noncomputable def G235 : GP := conG P235 R235
theorem P235_inj : ∀ a b, (P235 a).map den0 = (P235 b).map den0 → a = b := by
  rintro ⟨a0, a1, a2⟩ ⟨b0, b1, b2⟩ h
  simp only [P235, List.map_cons, List.map_nil, den0, den0L, List.cons.injEq, AV.one.injEq, AV.agg.injEq, Lf.int.injEq, Lf.str.injEq, Lf.bool.injEq, Lf.vrow.injEq, and_true, true_and, and_assoc] at h
  obtain ⟨h0, h1, h2⟩ := h
  subst h0 h1 h2
  rfl
theorem K235_ok : ConG G235 K235 := conG_of P235_inj (fun ⟨_, _, _⟩ ⟨_, _, _⟩ => rfl) (fun ⟨_, _, _⟩ => rfl) fun xs r h => by
  simp only [K235] at h
  split at h
  · cases h; rename_i b0 b1 b2; exact ⟨(b0, b1, b2), rfl, rfl⟩
  · cases h
theorem pr235 {S : SC} (hB : SB S) (q19 : PrOk S 19 (pureP G19)) (h235 : S.has 235 f235) : PrOk S 235 (pureP G235) := by
  refine prM hB [] [⟨19, G19, K19⟩] trivial ⟨⟨q19, K19_ok⟩, trivial⟩ h235 (fun ⟨b0, b1, b2⟩ => ⟨rfl, rfl, rfl⟩) (fun (b0, b1, b2) => fun _ _ _ _ => none) 600 ?_
  rintro ⟨b0, b1, b2⟩ hc
  have hc1 : b0.length ≤ 1099511627776 := hc.1
  have hc2 : b1.length ≤ 1099511627776 := hc.2.1
  refine VC.use (p :=
    ((b0.length ≤ 1099511627776) ∧
    ((b1.length ≤ 1099511627776) ∧
    ((decE b0 = 0 →
      ((decE b1 = 0 →
        ((3 < (↑(decR b0).length : Int) →
          (5 = bchk (b0, b1, b2))) ∧
        (¬3 < (↑(decR b0).length : Int) →
         ((3 < (↑(decR b1).length : Int) →
           (5 = bchk (b0, b1, b2))) ∧
         (¬3 < (↑(decR b1).length : Int) →
          ((b0 = b1 →
            (7 = bchk (b0, b1, b2))) ∧
          (¬b0 = b1 →
           ((b2 < 1 →
             (2 = bchk (b0, b1, b2))) ∧
           (¬b2 < 1 →
            ((1073741824 < b2 →
              (2 = bchk (b0, b1, b2))) ∧
            (¬1073741824 < b2 →
             (0 = bchk (b0, b1, b2))))))))))))) ∧
      (¬decE b1 = 0 →
       (3 = bchk (b0, b1, b2))))) ∧
    (¬decE b0 = 0 →
     (3 = bchk (b0, b1, b2))))))) (by kernel_rfl) ?_
  have g : ∀ s : List UInt8, ¬ decE s = 0 → decOk s = false := fun s h => by
    cases hk : decOk s
    · rfl
    · exact absurd (decE_zero.2 hk) h
  refine ⟨hc1, hc2, fun h => ⟨fun h1 => ?_, fun h1 => ?_⟩, fun h => ?_⟩
  · obtain ⟨k1, k2⟩ := runes_dec h
    obtain ⟨k3, k4⟩ := runes_dec h1
    have e : bchk (b0, b1, b2) = if 3 < max (decR b0).length (decR b1).length then 5 else if b0 = b1 then 7 else if b2 < 1 ∨ 1073741824 < b2 then 2 else 0 := by
      unfold bchk bigV
      simp only [k1, k2, k3, k4, Bool.and_self, Bool.true_eq_false, if_false, decide_eq_true_eq]
    rw [e]
    refine ⟨fun h2 => by rw [if_pos (by omega)], fun h2 => ⟨fun h3 => by rw [if_pos (by omega)], fun h3 => ?_⟩⟩
    rw [if_neg (by omega)]
    exact ⟨fun h4 => by rw [if_pos h4], fun h4 => ⟨fun h5 => by rw [if_neg h4, if_pos (.inl h5)], fun h5 => ⟨fun h6 => by rw [if_neg h4, if_pos (.inr h6)], fun h6 => by rw [if_neg h4, if_neg (by omega)]⟩⟩⟩
  · unfold bchk
    rw [if_pos (by rw [g _ h1, Bool.and_false])]
  · unfold bchk
    rw [if_pos (by rw [g _ h, Bool.false_and])]
def P236 : List UInt8 × List UInt8 × Int × List UInt8 × List UInt8 × Int → List SV := fun (a0, a1, a2, b0, b1, b2) => [.agg [.str a0, .str a1, .int .i64 a2], .agg [.str b0, .str b1, .int .i64 b2]]
def R236 : List UInt8 × List UInt8 × Int × List UInt8 × List UInt8 × Int → SV × List Prop := fun (a0, a1, a2, b0, b1, b2) => (.one (.bool (lessV (a0, a1, a2) (b0, b1, b2))), [])
def K236 : Con := ⟨true, [none, none], fun xs => match xs with | [.agg [.str a0, .str a1, .int .i64 a2], .agg [.str b0, .str b1, .int .i64 b2]] => some (R236 (a0, a1, a2, b0, b1, b2)) | _ => none⟩
noncomputable def G236 : GP := conG P236 R236
theorem P236_inj : ∀ a b, (P236 a).map den0 = (P236 b).map den0 → a = b := by
  rintro ⟨a0, a1, a2, a3, a4, a5⟩ ⟨b0, b1, b2, b3, b4, b5⟩ h
  simp only [P236, List.map_cons, List.map_nil, den0, den0L, List.cons.injEq, AV.one.injEq, AV.agg.injEq, Lf.int.injEq, Lf.str.injEq, Lf.bool.injEq, Lf.vrow.injEq, and_true, true_and, and_assoc] at h
  obtain ⟨h0, h1, h2, h3, h4, h5⟩ := h
  subst h0 h1 h2 h3 h4 h5
  rfl
theorem K236_ok : ConG G236 K236 := conG_of P236_inj (fun ⟨_, _, _, _, _, _⟩ ⟨_, _, _, _, _, _⟩ => rfl) (fun ⟨_, _, _, _, _, _⟩ => rfl) fun xs r h => by
  simp only [K236] at h
  split at h
  · cases h; rename_i a0 a1 a2 b0 b1 b2; exact ⟨(a0, a1, a2, b0, b1, b2), rfl, rfl⟩
  · cases h
theorem pr236 {S : SC} (hB : SB S)  (h236 : S.has 236 f236) : PrOk S 236 (pureP G236) := by
  refine prM hB [] [] trivial trivial h236 (fun ⟨a0, a1, a2, b0, b1, b2⟩ => ⟨rfl, rfl, rfl⟩) (fun (a0, a1, a2, b0, b1, b2) => fun _ _ _ _ => none) 600 ?_
  rintro ⟨a0, a1, a2, b0, b1, b2⟩ hc
  refine VC.use (p :=
    ((sless a0 b0 = true →
      (true = lessV (a0, a1, a2) (b0, b1, b2))) ∧
    (¬sless a0 b0 = true →
     ((a0 = b0 →
       (sless a1 b1 = lessV (a0, a1, a2) (b0, b1, b2))) ∧
     (¬a0 = b0 →
      (false = lessV (a0, a1, a2) (b0, b1, b2))))))) (by kernel_rfl) ?_
  have h := lessV_iff (a0, a1, a2) (b0, b1, b2)
  dsimp only at h
  refine ⟨fun h1 => ?_, fun h1 => ⟨fun h2 => ?_, fun h2 => ?_⟩⟩
  · rw [h.2 (.inl h1)]
  · rw [Bool.eq_iff_iff, h]
    exact ⟨fun h3 => .inr ⟨h2, h3⟩, fun h3 => h3.elim (fun h => absurd h h1) (·.2)⟩
  · cases h3 : lessV (a0, a1, a2) (b0, b1, b2)
    · rfl
    · rcases h.1 h3 with h | h
      · exact absurd h h1
      · exact absurd h.1 h2
theorem w211 {S : SC} (hB : SB S) (q225 : PrOk S 225 (pureP G225)) (q230 : PrOk S 230 (pureP G230)) (q234 : PrOk S 234 (pureP G234)) (q235 : PrOk S 235 (pureP G235)) (q236 : PrOk S 236 (pureP G236)) (h211 : S.has 211 f211) (a0 : List UInt8) (a1 : List UInt8) (a2 : Int) (b0 : List UInt8) (b1 : List UInt8) (b2 : Int) (l0 : a0.length ≤ 1048576) (l1 : a1.length ≤ 1048576) (l2 : b0.length ≤ 1048576) (l3 : b1.length ≤ 1048576) : MF S 211 [] [den0 (.agg [.str a0, .str a1, .int .i64 a2]), den0 (.agg [.str b0, .str b1, .int .i64 b2])] (hl []) fun v _ => v = .one (.bool true) :=
  mfM hB [] [⟨225, G225, K225⟩, ⟨230, G230, K230⟩, ⟨234, G234, K234⟩, ⟨235, G235, K235⟩, ⟨236, G236, K236⟩] trivial ⟨⟨q225, K225_ok⟩, ⟨q230, K230_ok⟩, ⟨q234, K234_ok⟩, ⟨q235, K235_ok⟩, ⟨q236, K236_ok⟩, trivial⟩ h211 (v := .one .tt) (xs := [.agg [.str a0, .str a1, .int .i64 a2], .agg [.str b0, .str b1, .int .i64 b2]]) rfl rfl rfl (fun _ _ _ _ => none) 900 (VC.use (p :=
    (((!true) = true →
      (false = true)) ∧
    (¬(!true) = true →
     ((i64R ((↑a0.length : Int) + (↑a1.length : Int))) ∧
     ((i64R ((↑a0.length : Int) + (↑a1.length : Int) + (↑b0.length : Int))) ∧
     ((i64R ((↑a0.length : Int) + (↑a1.length : Int) + (↑b0.length : Int) + (↑b1.length : Int))) ∧
     ((3000 < (↑a0.length : Int) + (↑a1.length : Int) + (↑b0.length : Int) + (↑b1.length : Int) →
       True) ∧
     (¬3000 < (↑a0.length : Int) + (↑a1.length : Int) + (↑b0.length : Int) + (↑b1.length : Int) →
      ((a0.length ≤ 4611686018427387904) ∧
      ((a1.length ≤ 4611686018427387904) ∧
      ((a0.length ≤ 1099511627776) ∧
      ((a1.length ≤ 1099511627776) ∧
      ((bchk (a0, a1, a2) = bchk (a0, a1, a2) →
        (decide (lessV (a0, a1, a2) (b0, b1, b2) = lessV (a0, a1, a2) (b0, b1, b2)) = true)) ∧
      (¬bchk (a0, a1, a2) = bchk (a0, a1, a2) →
       (false = true))))))))))))))) (by kernel_rfl) (by
    refine ⟨fun h => by simp at h, fun _ => ⟨by unfold i64R; omega, by unfold i64R; omega, by unfold i64R; omega, fun _ => trivial, fun h => ⟨by omega, by omega, by omega, by omega, fun _ => by simp, fun h => absurd rfl h⟩⟩⟩))
end Go.EA

