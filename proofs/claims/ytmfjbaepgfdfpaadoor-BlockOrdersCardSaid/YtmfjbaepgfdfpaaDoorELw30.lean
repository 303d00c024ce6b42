/- Layer 5: laws of single blocks. Conditions: none. (Printed by a program of this project's own.) -/
import Derived.Test.YtmfjbaepgfdfpaaDoorEBk
import Derived.Test.YtmfjbaepgfdfpaaDoorEK9
import Derived.KernelRfl
set_option linter.unusedVariables false
set_option linter.unusedSimpArgs false
set_option maxRecDepth 100000
set_option maxHeartbeats 0
namespace Go.EA
open F
theorem sless_irr : ∀ (a : List UInt8), sless a a = false
  | [] => rfl
  | x :: a => by
    show (decide (x < x) || (x == x && sless a a)) = false
    rw [sless_irr a]; simp
theorem sless_nil (a : List UInt8) : sless a [] = false := by cases a <;> rfl
theorem sless_cons (x y : UInt8) (a b : List UInt8) : sless (x :: a) (y :: b) = true ↔ x < y ∨ x = y ∧ sless a b = true := by
  show (decide (x < y) || (x == y && Op.bytesLess a b)) = true ↔ _
  simp
theorem sless_trans : ∀ {a b c : List UInt8}, sless a b = true → sless b c = true → sless a c = true
  | _, _, [], _, h => by rw [sless_nil] at h; cases h
  | [], _, _ :: _, _, _ => rfl
  | _ :: _, [], _ :: _, h, _ => by rw [sless_nil] at h; cases h
  | x :: a, y :: b, z :: c, h, h' => by
    rw [sless_cons] at *
    rcases h with h | ⟨rfl, h⟩
    · rcases h' with h' | ⟨rfl, h'⟩
      · exact .inl (UInt8.lt_trans h h')
      · exact .inl h
    · rcases h' with h' | ⟨rfl, h'⟩
      · exact .inl h'
      · exact .inr ⟨rfl, sless_trans h h'⟩
theorem sless_tot : ∀ (a b : List UInt8), sless a b = true ∨ a = b ∨ sless b a = true
  | [], [] => .inr (.inl rfl)
  | [], _ :: _ => .inl rfl
  | _ :: _, [] => .inr (.inr rfl)
  | x :: a, y :: b => by
    rw [sless_cons, sless_cons]
    rcases Nat.lt_trichotomy x.toNat y.toNat with h | h | h
    · exact .inl (.inl h)
    · have := UInt8.toNat_inj.1 h
      subst this
      rcases sless_tot a b with h | rfl | h
      · exact .inl (.inr ⟨rfl, h⟩)
      · exact .inr (.inl rfl)
      · exact .inr (.inr (.inr ⟨rfl, h⟩))
    · exact .inr (.inr (.inl h))
theorem sless_asy {a b : List UInt8} (h : sless a b = true) : sless b a = false := by
  cases h1 : sless b a
  · rfl
  · have := sless_trans h h1; rw [sless_irr] at this; cases this
theorem sless_ne {a b : List UInt8} (h : sless a b = true) : a ≠ b := by rintro rfl; rw [sless_irr] at h; cases h
theorem lessV_iff (a b : Blk) : lessV a b = true ↔ sless a.1 b.1 = true ∨ a.1 = b.1 ∧ sless a.2.1 b.2.1 = true := by
  unfold lessV cmpS
  rw [decide_eq_true_eq]
  rcases sless_tot a.1 b.1 with h | h | h
  · rw [if_pos h]
    exact ⟨fun _ => .inl h, fun _ => by unfold orV; simp⟩
  · rw [h, sless_irr]
    rw [if_neg (by decide), if_pos rfl]
    rcases sless_tot a.2.1 b.2.1 with h2 | h2 | h2
    · rw [if_pos h2]; exact ⟨fun _ => .inr ⟨rfl, h2⟩, fun _ => by decide⟩
    · rw [h2, sless_irr, if_neg (by decide), if_pos rfl]
      exact ⟨fun h => absurd h (by decide), fun h => by simp at h⟩
    · rw [sless_asy h2, if_neg (by decide), if_neg (sless_ne h2).symm]
      exact ⟨fun h => absurd h (by decide), fun h => by simp at h⟩
  · rw [sless_asy h, if_neg (by decide), if_neg (sless_ne h).symm]
    constructor
    · intro h1
      exfalso
      revert h1
      unfold orV
      simp
    · intro h1
      rcases h1 with h1 | ⟨h1, _⟩
      · cases h1
      · exact absurd h1 (sless_ne h).symm
theorem lessV_trans {a b c : Blk} (h : lessV a b = true) (h' : lessV b c = true) : lessV a c = true := by
  rw [lessV_iff] at *
  rcases h with h | ⟨h, h1⟩
  · rcases h' with h' | ⟨h', h2⟩
    · exact .inl (sless_trans h h')
    · exact .inl (by rw [← h']; exact h)
  · rcases h' with h' | ⟨h', h2⟩
    · exact .inl (by rw [h]; exact h')
    · exact .inr ⟨h.trans h', sless_trans h1 h2⟩
theorem lessV_asy {a b : Blk} (h : lessV a b = true) : ¬ lessV b a = true := fun h' => by
  have := lessV_trans h h'
  rw [lessV_iff] at this
  rcases this with h | ⟨_, h⟩ <;> (rw [sless_irr] at h; cases h)
theorem lessV_same {a b : Blk} (h : lessV a b = true) : ¬ (a.1 = b.1 ∧ a.2.1 = b.2.1) := fun ⟨e1, e2⟩ => by
  rw [lessV_iff] at h
  rcases h with h | ⟨_, h⟩
  · exact sless_ne h e1
  · exact sless_ne h e2
theorem lessV_tot (a b : Blk) : lessV a b = true ∨ lessV b a = true ∨ a.1 = b.1 ∧ a.2.1 = b.2.1 := by
  rw [lessV_iff, lessV_iff]
  rcases sless_tot a.1 b.1 with h | h | h
  · exact .inl (.inl h)
  · rcases sless_tot a.2.1 b.2.1 with h2 | h2 | h2
    · exact .inl (.inr ⟨h, h2⟩)
    · exact .inr (.inr ⟨h, h2⟩)
    · exact .inr (.inl (.inr ⟨h.symm, h2⟩))
  · exact .inr (.inl (.inl h))
theorem w208 {S : SC} (hB : SB S) (q225 : PrOk S 225 (pureP G225)) (q230 : PrOk S 230 (pureP G230)) (h208 : S.has 208 f208) (a0 : List UInt8) (a1 : List UInt8) (a2 : Int) (b0 : List UInt8) (b1 : List UInt8) (b2 : Int) (c0 : List UInt8) (c1 : List UInt8) (c2 : Int) : MF S 208 [] [den0 (.agg [.str a0, .str a1, .int .i64 a2]), den0 (.agg [.str b0, .str b1, .int .i64 b2]), den0 (.agg [.str c0, .str c1, .int .i64 c2])] (hl []) fun v _ => v = .one (.bool true) :=
  mfM hB [] [⟨225, G225, K225⟩, ⟨230, G230, K230⟩] trivial ⟨⟨q225, K225_ok⟩, ⟨q230, K230_ok⟩, trivial⟩ h208 (v := .one .tt) (xs := [.agg [.str a0, .str a1, .int .i64 a2], .agg [.str b0, .str b1, .int .i64 b2], .agg [.str c0, .str c1, .int .i64 c2]]) rfl rfl rfl (fun f id T L => match f, id with
      | 208, 0 => some (.rnd 4)
      | _, _ => none) 900 (VC.use (p :=
    (((!true) = true →
      (false = true)) ∧
    (¬(!true) = true →
     ((a0 = b0 →
       ((lessV (a0, a1, a2) (b0, b1, b2) = true →
         ((lessV (b0, b1, b2) (a0, a1, a2) = true →
           ((a1 = b1 →
             (false = true)) ∧
           (¬a1 = b1 →
            (false = true)))) ∧
         (¬lessV (b0, b1, b2) (a0, a1, a2) = true →
          ((a1 = b1 →
            (false = true)) ∧
          (¬a1 = b1 →
           (((!lessV (a0, a1, a2) (b0, b1, b2)) = true →
             True) ∧
           (¬(!lessV (a0, a1, a2) (b0, b1, b2)) = true →
            (((!lessV (b0, b1, b2) (c0, c1, c2)) = true →
              True) ∧
            (¬(!lessV (b0, b1, b2) (c0, c1, c2)) = true →
             (lessV (a0, a1, a2) (c0, c1, c2) = true)))))))))) ∧
       (¬lessV (a0, a1, a2) (b0, b1, b2) = true →
        ((lessV (b0, b1, b2) (a0, a1, a2) = true →
          ((a1 = b1 →
            (false = true)) ∧
          (¬a1 = b1 →
           (((!lessV (a0, a1, a2) (b0, b1, b2)) = true →
             True) ∧
           (¬(!lessV (a0, a1, a2) (b0, b1, b2)) = true →
            (((!lessV (b0, b1, b2) (c0, c1, c2)) = true →
              True) ∧
            (¬(!lessV (b0, b1, b2) (c0, c1, c2)) = true →
             (lessV (a0, a1, a2) (c0, c1, c2) = true)))))))) ∧
        (¬lessV (b0, b1, b2) (a0, a1, a2) = true →
         ((a1 = b1 →
           (((!lessV (a0, a1, a2) (b0, b1, b2)) = true →
             True) ∧
           (¬(!lessV (a0, a1, a2) (b0, b1, b2)) = true →
            (((!lessV (b0, b1, b2) (c0, c1, c2)) = true →
              True) ∧
            (¬(!lessV (b0, b1, b2) (c0, c1, c2)) = true →
             (lessV (a0, a1, a2) (c0, c1, c2) = true)))))) ∧
         (¬a1 = b1 →
          (false = true)))))))) ∧
     (¬a0 = b0 →
      ((lessV (a0, a1, a2) (b0, b1, b2) = true →
        ((lessV (b0, b1, b2) (a0, a1, a2) = true →
          (false = true)) ∧
        (¬lessV (b0, b1, b2) (a0, a1, a2) = true →
         (((!lessV (a0, a1, a2) (b0, b1, b2)) = true →
           True) ∧
         (¬(!lessV (a0, a1, a2) (b0, b1, b2)) = true →
          (((!lessV (b0, b1, b2) (c0, c1, c2)) = true →
            True) ∧
          (¬(!lessV (b0, b1, b2) (c0, c1, c2)) = true →
           (lessV (a0, a1, a2) (c0, c1, c2) = true)))))))) ∧
      (¬lessV (a0, a1, a2) (b0, b1, b2) = true →
       ((lessV (b0, b1, b2) (a0, a1, a2) = true →
         (((!lessV (a0, a1, a2) (b0, b1, b2)) = true →
           True) ∧
         (¬(!lessV (a0, a1, a2) (b0, b1, b2)) = true →
          (((!lessV (b0, b1, b2) (c0, c1, c2)) = true →
            True) ∧
          (¬(!lessV (b0, b1, b2) (c0, c1, c2)) = true →
           (lessV (a0, a1, a2) (c0, c1, c2) = true)))))) ∧
       (¬lessV (b0, b1, b2) (a0, a1, a2) = true →
        (false = true)))))))))) (by kernel_rfl) (by
    have h1 := lessV_tot (a0, a1, a2) (b0, b1, b2)
    have h2 : lessV (a0, a1, a2) (b0, b1, b2) = true → ¬ lessV (b0, b1, b2) (a0, a1, a2) = true := lessV_asy
    have h3 : lessV (a0, a1, a2) (b0, b1, b2) = true → ¬ (a0 = b0 ∧ a1 = b1) := lessV_same
    have h4 : lessV (b0, b1, b2) (a0, a1, a2) = true → ¬ (b0 = a0 ∧ b1 = a1) := lessV_same
    have h5 : lessV (a0, a1, a2) (b0, b1, b2) = true → lessV (b0, b1, b2) (c0, c1, c2) = true → lessV (a0, a1, a2) (c0, c1, c2) = true := lessV_trans
    dsimp only at h1
    generalize lessV (a0, a1, a2) (b0, b1, b2) = x at *
    generalize lessV (b0, b1, b2) (a0, a1, a2) = y at *
    generalize lessV (b0, b1, b2) (c0, c1, c2) = z at *
    generalize lessV (a0, a1, a2) (c0, c1, c2) = w at *
    cases x <;> cases y <;> cases z <;> cases w
    all_goals
      (repeat' (first | intro _ | apply And.intro))
    all_goals first
      | trivial
      | (exfalso; simp_all; done)
      | (simp_all; done)))
end Go.EA

