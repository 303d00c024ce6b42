/- Layer 4: the distance of two tokens. Conditions: none. (Printed by a program of this project's own.) -/
import Derived.Test.YtmfjbaepgfdfpaaDoorEGr
import Derived.Test.YtmfjbaepgfdfpaaDoorEK11
import Derived.Test.YtmfjbaepgfdfpaaDoorERu
import Derived.Test.YtmfjbaepgfdfpaaDoorEK9
import Derived.KernelRfl
set_option linter.unusedVariables false
set_option linter.unusedSimpArgs false
set_option maxRecDepth 100000
set_option maxHeartbeats 0
namespace Go.EA
open F
/-- The error of two tokens. -/
def twoE (s t : List UInt8) : Int := if tokE s ≠ 0 then tokE s else tokE t
def distV (s t : List UInt8) : Int := if twoE s t = 0 then lev (tokR s).reverse (tokR t).reverse else 0
abbrev gN (a b : List Int) : Nat := (a.length + 1) * (b.length + 1)
abbrev gF (a b : List Int) (p : Nat) : List Int := tabl (fewAt a b) (gN a b) p
abbrev gK (a b : List Int) (p : Nat) : List Int := tabl (kindAt a b) (gN a b) p
theorem tok64 {s : List UInt8} : (tokR s).length ≤ 64 := by
  by_cases h : tokE s = 0
  · by_cases h1 : decE s = 0
    · by_cases h2 : (decR s).length = 0
      · rw [(tok_e h1 h2).1]; simp
      · by_cases h3 : 64 < (decR s).length
        · rw [(tok_l h1 h3).1]; simp
        · rw [(tok_k h1 h2 h3).1]; omega
    · rw [(tok_u h1).1]; simp
  · unfold tokR; rw [if_neg h]; simp
theorem gN_cast (a b : List Int) : ((gN a b : Nat) : Int) = ((a.length : Int) + 1) * ((b.length : Int) + 1) := by unfold gN; push_cast; rfl
theorem gN_le {a b : List Int} (ha : a.length ≤ 64) (hb : b.length ≤ 64) : gN a b ≤ 4225 := Nat.mul_le_mul (show a.length + 1 ≤ 65 by omega) (show b.length + 1 ≤ 65 by omega)
theorem gN_pos (a b : List Int) : 0 < gN a b := Nat.mul_pos (by omega) (by omega)
theorem place (b : List Int) (x y : Nat) : (x : Int) * ((b.length : Int) + 1) + (y : Int) = ((x * (b.length + 1) + y : Nat) : Int) := by push_cast; rfl
theorem place_lt {a b : List Int} {x y : Nat} (hx : x ≤ a.length) (hy : y ≤ b.length) : x * (b.length + 1) + y < gN a b := by
  have := Nat.mul_le_mul_right (b.length + 1) hx
  unfold gN
  rw [Nat.add_mul]; omega
theorem fill_len (f : Nat → Int) (a b : List Int) (p : Nat) : ((tabl f (gN a b) p).length : Int) = ((a.length : Int) + 1) * ((b.length : Int) + 1) := by rw [tabl_len, gN_cast]
theorem fill_zero (f : Nat → Int) (a b : List Int) : List.replicate (((a.length : Int) + 1) * ((b.length : Int) + 1)).toNat (0 : Int) = tabl f (gN a b) (0 * (b.length + 1)) := by
  rw [← gN_cast, Int.toNat_natCast, Nat.zero_mul, tabl_zero]
theorem fill_setF {a b : List Int} (ha : a.length ≤ 64) (hb : b.length ≤ 64) {x y : Nat} (hx : x ≤ a.length) (hy : y ≤ b.length) (hp : (0 : Int) < (x : Int) + (y : Int)) :
    (gF a b (x * (b.length + 1) + y)).set ((x : Int) * ((b.length : Int) + 1) + (y : Int)).toNat (bestOf a b (gF a b (x * (b.length + 1) + y)) x y).2 = gF a b (x * (b.length + 1) + (y + 1)) := by
  rw [best_at ha hb hx hy (by omega), place, Int.toNat_natCast, ← Nat.add_assoc]
  exact tabl_set (by rw [fewAt_at hy])
theorem fill_setK {a b : List Int} (ha : a.length ≤ 64) (hb : b.length ≤ 64) {x y : Nat} (hx : x ≤ a.length) (hy : y ≤ b.length) (hp : (0 : Int) < (x : Int) + (y : Int)) :
    (gK a b (x * (b.length + 1) + y)).set ((x : Int) * ((b.length : Int) + 1) + (y : Int)).toNat (bestOf a b (gF a b (x * (b.length + 1) + y)) x y).1 = gK a b (x * (b.length + 1) + (y + 1)) := by
  rw [best_at ha hb hx hy (by omega), place, Int.toNat_natCast, ← Nat.add_assoc]
  exact tabl_set (by rw [kindAt_at hy])
theorem fill_skipF {a b : List Int} {x y : Nat} (h : ¬ (0 : Int) < (x : Int) + (y : Int)) : gF a b (x * (b.length + 1) + y) = gF a b (x * (b.length + 1) + (y + 1)) := by
  obtain rfl : x = 0 := by omega
  obtain rfl : y = 0 := by omega
  rw [← Nat.add_assoc]
  exact tabl_skip (by rw [fewAt_at (by omega)]; rfl)
theorem fill_skipK {a b : List Int} {x y : Nat} (h : ¬ (0 : Int) < (x : Int) + (y : Int)) : gK a b (x * (b.length + 1) + y) = gK a b (x * (b.length + 1) + (y + 1)) := by
  obtain rfl : x = 0 := by omega
  obtain rfl : y = 0 := by omega
  rw [← Nat.add_assoc]
  exact tabl_skip (by rw [kindAt_at (by omega)]; rfl)
theorem fill_next {f : Nat → Int} {a b : List Int} {x y : Nat} (hy : y ≤ b.length + 1) (h : ¬ (y : Int) < (b.length : Int) + 1) : tabl f (gN a b) (x * (b.length + 1) + y) = tabl f (gN a b) ((x + 1) * (b.length + 1)) := by
  obtain rfl : y = b.length + 1 := by omega
  rw [Nat.add_mul, Nat.one_mul]
theorem fill_end {a b : List Int} {x : Nat} (hx : x ≤ a.length + 1) (h : ¬ (x : Int) < (a.length : Int) + 1) :
    (gF a b (x * (b.length + 1))).getD (((gF a b (x * (b.length + 1))).length : Int) - 1).toNat 0 = lev a.reverse b.reverse := by
  obtain rfl : x = a.length + 1 := by omega
  have h1 : a.length * (b.length + 1) + b.length < gN a b := place_lt (Nat.le_refl _) (Nat.le_refl _)
  have h2 : gN a b = (a.length * (b.length + 1) + b.length) + 1 := by unfold gN; rw [Nat.add_mul]; omega
  have e : (((gF a b ((a.length + 1) * (b.length + 1))).length : Int) - 1).toNat = a.length * (b.length + 1) + b.length := by rw [tabl_len]; omega
  rw [e, tabl_get h1, if_pos (show _ < gN a b from h1), fewAt_at (Nat.le_refl _), rv_all, rv_all]
theorem two_ok {s t : List UInt8} (h : tokE s = 0) (h1 : tokE t = 0) : twoE s t = 0 ∧ distV s t = lev (tokR s).reverse (tokR t).reverse := by
  have e : twoE s t = 0 := by unfold twoE; rw [h, h1]; rfl
  exact ⟨e, by unfold distV; rw [if_pos e]⟩
theorem two_b {s t : List UInt8} (h : tokE s = 0) (h1 : ¬ tokE t = 0) : tokE t = twoE s t ∧ 0 = distV s t := by
  have e : twoE s t = tokE t := by unfold twoE; rw [h]; rfl
  exact ⟨e.symm, by unfold distV; rw [e, if_neg h1]⟩
theorem two_a {s t : List UInt8} (h : ¬ tokE s = 0) : tokE s = twoE s t ∧ 0 = distV s t := by
  have e : twoE s t = tokE s := by unfold twoE; rw [if_pos h]
  exact ⟨e.symm, by unfold distV; rw [e, if_neg h]⟩
def P216 : List UInt8 × List UInt8 → List SV := fun (s, t) => [.one (.str s), .one (.str t)]
def R216 : List UInt8 × List UInt8 → SV × List Prop := fun (s, t) => (.tup [.o (.int .i64 (distV s t)), .o (.int .i64 (twoE s t))], [s.length ≤ 1099511627776, t.length ≤ 1099511627776])
def K216 : Con := ⟨true, [none, none], fun xs => match xs with | [.one (.str s), .one (.str t)] => some (R216 (s, t)) | _ => none⟩
noncomputable def G216 : GP := conG P216 R216
theorem P216_inj : ∀ a b, (P216 a).map den0 = (P216 b).map den0 → a = b := by
  rintro ⟨a0, a1⟩ ⟨b0, b1⟩ h
  simp only [P216, List.map_cons, List.map_nil, den0, den0L, List.cons.injEq, AV.one.injEq, AV.agg.injEq, Lf.int.injEq, Lf.str.injEq, Lf.bool.injEq, Lf.vrow.injEq, and_true, true_and, and_assoc] at h
  obtain ⟨h0, h1⟩ := h
  subst h0 h1
  rfl
theorem K216_ok : ConG G216 K216 := conG_of P216_inj (fun ⟨_, _⟩ ⟨_, _⟩ => rfl) (fun ⟨_, _⟩ => rfl) fun xs r h => by
  simp only [K216] at h
  split at h
  · cases h; rename_i s t; exact ⟨(s, t), rfl, rfl⟩
  · cases h
theorem pr216 {S : SC} (hB : SB S) (q20 : PrOk S 20 (pureP G20)) (q255 : PrOk S 255 (pureP G255)) (q256 : PrOk S 256 (pureP G256)) (h237 : S.has 237 f237) (h216 : S.has 216 f216) : PrOk S 216 (pureP G216) := by
  refine prM hB [(237, f237)] [⟨20, G20, K20⟩, ⟨255, G255, K255⟩, ⟨256, G256, K256⟩] ⟨h237, trivial⟩ ⟨⟨q20, K20_ok⟩, ⟨q255, K255_ok⟩, ⟨q256, K256_ok⟩, trivial⟩ h216 (fun ⟨s, t⟩ => ⟨rfl, rfl, rfl⟩) (fun (s, t) => fun f id T L => match f, id with
      | 237, 0 => match L.getD 0 .dead with | .cell [.row (.int .i32) a, .row (.int .i32) b, .osl f, .osl k] => some (.inv { i : Nat // i ≤ a.length + 1 } (fun x => ([(53, .one (.int .i64 x.1))], [(f, .row (.int .u8) (gF a b (x.1 * (b.length + 1)))), (k, .row (.int .u8) (gK a b (x.1 * (b.length + 1))))])) (fun x => a.length + 1 - x.1)) | _ => none
      | 237, 2 => match L.getD 0 .dead, T.getD 11 .junk with | .cell [.row (.int .i32) a, .row (.int .i32) b, .osl f, .osl k], .one (.int _ i) => some (.inv { j : Nat // j ≤ b.length + 1 } (fun y => ([(59, .one (.int .i64 y.1))], [(f, .row (.int .u8) (gF a b (i.toNat * (b.length + 1) + y.1))), (k, .row (.int .u8) (gK a b (i.toNat * (b.length + 1) + y.1)))])) (fun y => b.length + 1 - y.1)) | _, _ => none
      | _, _ => none) 2000 ?_
  rintro ⟨s, t⟩ hc
  have hc1 : s.length ≤ 1099511627776 := hc.1
  have hc2 : t.length ≤ 1099511627776 := hc.2.1
  refine VC.use (p :=
    ((s.length ≤ 1099511627776) ∧
    ((tokE s = 0 →
      ((t.length ≤ 1099511627776) ∧
      ((tokE t = 0 →
        ((i64R ((↑(tokR s).length : Int) + 1)) ∧
        ((i64R ((↑(tokR t).length : Int) + 1)) ∧
        ((i64R (((↑(tokR s).length : Int) + 1) * ((↑(tokR t).length : Int) + 1))) ∧
        (((0 ≤ ((↑(tokR s).length : Int) + 1) * ((↑(tokR t).length : Int) + 1) ∧ ((↑(tokR s).length : Int) + 1) * ((↑(tokR t).length : Int) + 1) ≤ ((↑(tokR s).length : Int) + 1) * ((↑(tokR t).length : Int) + 1) ∧ ((↑(tokR s).length : Int) + 1) * ((↑(tokR t).length : Int) + 1) * 1 ≤ 140737488355328 ∧ ((↑(tokR s).length : Int) + 1) * ((↑(tokR t).length : Int) + 1) ≤ 140737488355328) ∧
         ((0 ≤ ((↑(tokR s).length : Int) + 1) * ((↑(tokR t).length : Int) + 1) ∧ ((↑(tokR s).length : Int) + 1) * ((↑(tokR t).length : Int) + 1) ≤ ((↑(tokR s).length : Int) + 1) * ((↑(tokR t).length : Int) + 1) ∧ ((↑(tokR s).length : Int) + 1) * ((↑(tokR t).length : Int) + 1) * 1 ≤ 140737488355328 ∧ ((↑(tokR s).length : Int) + 1) * ((↑(tokR t).length : Int) + 1) ≤ 140737488355328) ∧
         ((i64R ((↑(tokR s).length : Int) + 1)) ∧
         ((∃ x1 : { i : Nat // i ≤ (tokR s).length + 1 },
           ((tokR t = tokR t) ∧
           (((↑(tokR s).length : Int) + 1 = (↑(tokR s).length : Int) + 1) ∧
           ((0 = (↑x1.val : Int)) ∧
           ((tokR s = tokR s) ∧
           ((tokR t = tokR t) ∧
           ((List.replicate (((↑(tokR s).length : Int) + 1) * ((↑(tokR t).length : Int) + 1)).toNat 0 = gF (tokR s) (tokR t) (x1.val * ((tokR t).length + 1))) ∧
           (List.replicate (((↑(tokR s).length : Int) + 1) * ((↑(tokR t).length : Int) + 1)).toNat 0 = gK (tokR s) (tokR t) (x1.val * ((tokR t).length + 1)))))))))) ∧
         (∀ x1 : { i : Nat // i ≤ (tokR s).length + 1 },
          (((↑x1.val : Int) < (↑(tokR s).length : Int) + 1 →
            ((i64R ((↑(tokR t).length : Int) + 1)) ∧
            ((∃ x2 : { j : Nat // j ≤ (tokR t).length + 1 },
              ((tokR t = tokR t) ∧
              (((↑x1.val : Int) = (↑x1.val : Int)) ∧
              (((↑(tokR s).length : Int) + 1 = (↑(tokR s).length : Int) + 1) ∧
              (((↑x1.val : Int) = (↑x1.val : Int)) ∧
              (((↑(tokR t).length : Int) + 1 = (↑(tokR t).length : Int) + 1) ∧
              ((0 = (↑x2.val : Int)) ∧
              ((tokR s = tokR s) ∧
              ((tokR t = tokR t) ∧
              ((gF (tokR s) (tokR t) (x1.val * ((tokR t).length + 1)) = gF (tokR s) (tokR t) (x1.val * ((tokR t).length + 1) + x2.val)) ∧
              (gK (tokR s) (tokR t) (x1.val * ((tokR t).length + 1)) = gK (tokR s) (tokR t) (x1.val * ((tokR t).length + 1) + x2.val)))))))))))) ∧
            (∀ x2 : { j : Nat // j ≤ (tokR t).length + 1 },
             (((↑x2.val : Int) < (↑(tokR t).length : Int) + 1 →
               ((i64R ((↑x1.val : Int) + (↑x2.val : Int))) ∧
               ((0 < (↑x1.val : Int) + (↑x2.val : Int) →
                 ((0 ≤ (↑x1.val : Int) ∧ (↑x1.val : Int) ≤ 1048576) ∧
                 ((0 ≤ (↑x2.val : Int) ∧ (↑x2.val : Int) ≤ 1048576) ∧
                 (((tokR t).length ≤ 1048576) ∧
                 ((0 ≤ (↑x1.val : Int) ∧ (↑x1.val : Int) ≤ 1048576) ∧
                 ((0 ≤ (↑x2.val : Int) ∧ (↑x2.val : Int) ≤ 1048576) ∧
                 (((tokR t).length ≤ 1048576) ∧
                 ((0 ≤ (↑x1.val : Int) ∧ (↑x1.val : Int) ≤ (↑(tokR s).length : Int)) ∧
                 ((0 ≤ (↑x2.val : Int) ∧ (↑x2.val : Int) ≤ (↑(tokR t).length : Int)) ∧
                 (((tokR s).length ≤ 1048575 ∧ (tokR t).length ≤ 1048575) ∧
                 (((↑(gF (tokR s) (tokR t) (x1.val * ((tokR t).length + 1) + x2.val)).length : Int) = ((↑(tokR s).length : Int) + 1) * ((↑(tokR t).length : Int) + 1)) ∧
                 ((0 ≤ (↑x1.val : Int) * ((↑(tokR t).length : Int) + 1) + (↑x2.val : Int) ∧ (↑x1.val : Int) * ((↑(tokR t).length : Int) + 1) + (↑x2.val : Int) < (↑(gK (tokR s) (tokR t) (x1.val * ((tokR t).length + 1) + x2.val)).length : Int)) ∧
                 ((((↑x1.val : Int) * ((↑(tokR t).length : Int) + 1) + (↑x2.val : Int)).toNat < (gK (tokR s) (tokR t) (x1.val * ((tokR t).length + 1) + x2.val)).length) ∧
                 ((0 ≤ (↑x1.val : Int) * ((↑(tokR t).length : Int) + 1) + (↑x2.val : Int) ∧ (↑x1.val : Int) * ((↑(tokR t).length : Int) + 1) + (↑x2.val : Int) < (↑(gF (tokR s) (tokR t) (x1.val * ((tokR t).length + 1) + x2.val)).length : Int)) ∧
                 ((((↑x1.val : Int) * ((↑(tokR t).length : Int) + 1) + (↑x2.val : Int)).toNat < (gF (tokR s) (tokR t) (x1.val * ((tokR t).length + 1) + x2.val)).length) ∧
                 ((i64R ((↑x2.val : Int) + 1)) ∧
                 (∃ x3 : { j : Nat // j ≤ (tokR t).length + 1 },
                  (((tokR t).length + 1 - x3.val < (tokR t).length + 1 - x2.val) ∧
                  ((tokR t = tokR t) ∧
                  (((↑x1.val : Int) = (↑x1.val : Int)) ∧
                  (((↑(tokR s).length : Int) + 1 = (↑(tokR s).length : Int) + 1) ∧
                  (((↑x1.val : Int) = (↑x1.val : Int)) ∧
                  (((↑(tokR t).length : Int) + 1 = (↑(tokR t).length : Int) + 1) ∧
                  (((↑x2.val : Int) + 1 = (↑x3.val : Int)) ∧
                  ((tokR s = tokR s) ∧
                  ((tokR t = tokR t) ∧
                  (((gF (tokR s) (tokR t) (x1.val * ((tokR t).length + 1) + x2.val)).set ((↑x1.val : Int) * ((↑(tokR t).length : Int) + 1) + (↑x2.val : Int)).toNat (bestOf (tokR s) (tokR t) (gF (tokR s) (tokR t) (x1.val * ((tokR t).length + 1) + x2.val)) (↑x1.val : Int) (↑x2.val : Int)).snd = gF (tokR s) (tokR t) (x1.val * ((tokR t).length + 1) + x3.val)) ∧
                  ((gK (tokR s) (tokR t) (x1.val * ((tokR t).length + 1) + x2.val)).set ((↑x1.val : Int) * ((↑(tokR t).length : Int) + 1) + (↑x2.val : Int)).toNat (bestOf (tokR s) (tokR t) (gF (tokR s) (tokR t) (x1.val * ((tokR t).length + 1) + x2.val)) (↑x1.val : Int) (↑x2.val : Int)).fst = gK (tokR s) (tokR t) (x1.val * ((tokR t).length + 1) + x3.val))))))))))))))))))))))))))))) ∧
               (¬0 < (↑x1.val : Int) + (↑x2.val : Int) →
                ((i64R ((↑x2.val : Int) + 1)) ∧
                (∃ x3 : { j : Nat // j ≤ (tokR t).length + 1 },
                 (((tokR t).length + 1 - x3.val < (tokR t).length + 1 - x2.val) ∧
                 ((tokR t = tokR t) ∧
                 (((↑x1.val : Int) = (↑x1.val : Int)) ∧
                 (((↑(tokR s).length : Int) + 1 = (↑(tokR s).length : Int) + 1) ∧
                 (((↑x1.val : Int) = (↑x1.val : Int)) ∧
                 (((↑(tokR t).length : Int) + 1 = (↑(tokR t).length : Int) + 1) ∧
                 (((↑x2.val : Int) + 1 = (↑x3.val : Int)) ∧
                 ((tokR s = tokR s) ∧
                 ((tokR t = tokR t) ∧
                 ((gF (tokR s) (tokR t) (x1.val * ((tokR t).length + 1) + x2.val) = gF (tokR s) (tokR t) (x1.val * ((tokR t).length + 1) + x3.val)) ∧
                 (gK (tokR s) (tokR t) (x1.val * ((tokR t).length + 1) + x2.val) = gK (tokR s) (tokR t) (x1.val * ((tokR t).length + 1) + x3.val)))))))))))))))))) ∧
             (¬(↑x2.val : Int) < (↑(tokR t).length : Int) + 1 →
              ((i64R ((↑x1.val : Int) + 1)) ∧
              (∃ x3 : { i : Nat // i ≤ (tokR s).length + 1 },
               (((tokR s).length + 1 - x3.val < (tokR s).length + 1 - x1.val) ∧
               ((tokR t = tokR t) ∧
               (((↑(tokR s).length : Int) + 1 = (↑(tokR s).length : Int) + 1) ∧
               (((↑x1.val : Int) + 1 = (↑x3.val : Int)) ∧
               ((tokR s = tokR s) ∧
               ((tokR t = tokR t) ∧
               ((gF (tokR s) (tokR t) (x1.val * ((tokR t).length + 1) + x2.val) = gF (tokR s) (tokR t) (x3.val * ((tokR t).length + 1))) ∧
               (gK (tokR s) (tokR t) (x1.val * ((tokR t).length + 1) + x2.val) = gK (tokR s) (tokR t) (x3.val * ((tokR t).length + 1)))))))))))))))))) ∧
          (¬(↑x1.val : Int) < (↑(tokR s).length : Int) + 1 →
           ((i64R ((↑(gF (tokR s) (tokR t) (x1.val * ((tokR t).length + 1))).length : Int) - 1)) ∧
           ((0 ≤ (↑(gF (tokR s) (tokR t) (x1.val * ((tokR t).length + 1))).length : Int) - 1 ∧ (↑(gF (tokR s) (tokR t) (x1.val * ((tokR t).length + 1))).length : Int) - 1 < (↑(gF (tokR s) (tokR t) (x1.val * ((tokR t).length + 1))).length : Int)) ∧
           ((((↑(gF (tokR s) (tokR t) (x1.val * ((tokR t).length + 1))).length : Int) - 1).toNat < (gF (tokR s) (tokR t) (x1.val * ((tokR t).length + 1))).length) ∧
           ((i64R ((gF (tokR s) (tokR t) (x1.val * ((tokR t).length + 1))).getD ((↑(gF (tokR s) (tokR t) (x1.val * ((tokR t).length + 1))).length : Int) - 1).toNat 0)) ∧
           (((gF (tokR s) (tokR t) (x1.val * ((tokR t).length + 1))).getD ((↑(gF (tokR s) (tokR t) (x1.val * ((tokR t).length + 1))).length : Int) - 1).toNat 0 = distV s t) ∧
           (0 = twoE s t))))))))))))) ∧
        (((0 ≤ ((↑(tokR s).length : Int) + 1) * ((↑(tokR t).length : Int) + 1) ∧ ((↑(tokR s).length : Int) + 1) * ((↑(tokR t).length : Int) + 1) ≤ ((↑(tokR s).length : Int) + 1) * ((↑(tokR t).length : Int) + 1) ∧ ((↑(tokR s).length : Int) + 1) * ((↑(tokR t).length : Int) + 1) * 1 ≤ 140737488355328 ∧ ((↑(tokR s).length : Int) + 1) * ((↑(tokR t).length : Int) + 1) ≤ 140737488355328) ∧
         ((0 ≤ ((↑(tokR s).length : Int) + 1) * ((↑(tokR t).length : Int) + 1) ∧ ((↑(tokR s).length : Int) + 1) * ((↑(tokR t).length : Int) + 1) ≤ ((↑(tokR s).length : Int) + 1) * ((↑(tokR t).length : Int) + 1) ∧ ((↑(tokR s).length : Int) + 1) * ((↑(tokR t).length : Int) + 1) * 1 ≤ 140737488355328 ∧ ((↑(tokR s).length : Int) + 1) * ((↑(tokR t).length : Int) + 1) ≤ 140737488355328) ∧
         ((i64R ((↑(tokR s).length : Int) + 1)) ∧
         ((∃ x1 : { i : Nat // i ≤ (tokR s).length + 1 },
           ((tokR t = tokR t) ∧
           (((↑(tokR s).length : Int) + 1 = (↑(tokR s).length : Int) + 1) ∧
           ((0 = (↑x1.val : Int)) ∧
           ((tokR s = tokR s) ∧
           ((tokR t = tokR t) ∧
           ((List.replicate (((↑(tokR s).length : Int) + 1) * ((↑(tokR t).length : Int) + 1)).toNat 0 = gK (tokR s) (tokR t) (x1.val * ((tokR t).length + 1))) ∧
           (List.replicate (((↑(tokR s).length : Int) + 1) * ((↑(tokR t).length : Int) + 1)).toNat 0 = gF (tokR s) (tokR t) (x1.val * ((tokR t).length + 1)))))))))) ∧
         (∀ x1 : { i : Nat // i ≤ (tokR s).length + 1 },
          (((↑x1.val : Int) < (↑(tokR s).length : Int) + 1 →
            ((i64R ((↑(tokR t).length : Int) + 1)) ∧
            ((∃ x2 : { j : Nat // j ≤ (tokR t).length + 1 },
              ((tokR t = tokR t) ∧
              (((↑x1.val : Int) = (↑x1.val : Int)) ∧
              (((↑(tokR s).length : Int) + 1 = (↑(tokR s).length : Int) + 1) ∧
              (((↑x1.val : Int) = (↑x1.val : Int)) ∧
              (((↑(tokR t).length : Int) + 1 = (↑(tokR t).length : Int) + 1) ∧
              ((0 = (↑x2.val : Int)) ∧
              ((tokR s = tokR s) ∧
              ((tokR t = tokR t) ∧
              ((gK (tokR s) (tokR t) (x1.val * ((tokR t).length + 1)) = gK (tokR s) (tokR t) (x1.val * ((tokR t).length + 1) + x2.val)) ∧
              (gF (tokR s) (tokR t) (x1.val * ((tokR t).length + 1)) = gF (tokR s) (tokR t) (x1.val * ((tokR t).length + 1) + x2.val)))))))))))) ∧
            (∀ x2 : { j : Nat // j ≤ (tokR t).length + 1 },
             (((↑x2.val : Int) < (↑(tokR t).length : Int) + 1 →
               ((i64R ((↑x1.val : Int) + (↑x2.val : Int))) ∧
               ((0 < (↑x1.val : Int) + (↑x2.val : Int) →
                 ((0 ≤ (↑x1.val : Int) ∧ (↑x1.val : Int) ≤ 1048576) ∧
                 ((0 ≤ (↑x2.val : Int) ∧ (↑x2.val : Int) ≤ 1048576) ∧
                 (((tokR t).length ≤ 1048576) ∧
                 ((0 ≤ (↑x1.val : Int) ∧ (↑x1.val : Int) ≤ 1048576) ∧
                 ((0 ≤ (↑x2.val : Int) ∧ (↑x2.val : Int) ≤ 1048576) ∧
                 (((tokR t).length ≤ 1048576) ∧
                 ((0 ≤ (↑x1.val : Int) ∧ (↑x1.val : Int) ≤ (↑(tokR s).length : Int)) ∧
                 ((0 ≤ (↑x2.val : Int) ∧ (↑x2.val : Int) ≤ (↑(tokR t).length : Int)) ∧
                 (((tokR s).length ≤ 1048575 ∧ (tokR t).length ≤ 1048575) ∧
                 (((↑(gF (tokR s) (tokR t) (x1.val * ((tokR t).length + 1) + x2.val)).length : Int) = ((↑(tokR s).length : Int) + 1) * ((↑(tokR t).length : Int) + 1)) ∧
                 ((0 ≤ (↑x1.val : Int) * ((↑(tokR t).length : Int) + 1) + (↑x2.val : Int) ∧ (↑x1.val : Int) * ((↑(tokR t).length : Int) + 1) + (↑x2.val : Int) < (↑(gK (tokR s) (tokR t) (x1.val * ((tokR t).length + 1) + x2.val)).length : Int)) ∧
                 ((((↑x1.val : Int) * ((↑(tokR t).length : Int) + 1) + (↑x2.val : Int)).toNat < (gK (tokR s) (tokR t) (x1.val * ((tokR t).length + 1) + x2.val)).length) ∧
                 ((0 ≤ (↑x1.val : Int) * ((↑(tokR t).length : Int) + 1) + (↑x2.val : Int) ∧ (↑x1.val : Int) * ((↑(tokR t).length : Int) + 1) + (↑x2.val : Int) < (↑(gF (tokR s) (tokR t) (x1.val * ((tokR t).length + 1) + x2.val)).length : Int)) ∧
                 ((((↑x1.val : Int) * ((↑(tokR t).length : Int) + 1) + (↑x2.val : Int)).toNat < (gF (tokR s) (tokR t) (x1.val * ((tokR t).length + 1) + x2.val)).length) ∧
                 ((i64R ((↑x2.val : Int) + 1)) ∧
                 (∃ x3 : { j : Nat // j ≤ (tokR t).length + 1 },
                  (((tokR t).length + 1 - x3.val < (tokR t).length + 1 - x2.val) ∧
                  ((tokR t = tokR t) ∧
                  (((↑x1.val : Int) = (↑x1.val : Int)) ∧
                  (((↑(tokR s).length : Int) + 1 = (↑(tokR s).length : Int) + 1) ∧
                  (((↑x1.val : Int) = (↑x1.val : Int)) ∧
                  (((↑(tokR t).length : Int) + 1 = (↑(tokR t).length : Int) + 1) ∧
                  (((↑x2.val : Int) + 1 = (↑x3.val : Int)) ∧
                  ((tokR s = tokR s) ∧
                  ((tokR t = tokR t) ∧
                  (((gK (tokR s) (tokR t) (x1.val * ((tokR t).length + 1) + x2.val)).set ((↑x1.val : Int) * ((↑(tokR t).length : Int) + 1) + (↑x2.val : Int)).toNat (bestOf (tokR s) (tokR t) (gF (tokR s) (tokR t) (x1.val * ((tokR t).length + 1) + x2.val)) (↑x1.val : Int) (↑x2.val : Int)).fst = gK (tokR s) (tokR t) (x1.val * ((tokR t).length + 1) + x3.val)) ∧
                  ((gF (tokR s) (tokR t) (x1.val * ((tokR t).length + 1) + x2.val)).set ((↑x1.val : Int) * ((↑(tokR t).length : Int) + 1) + (↑x2.val : Int)).toNat (bestOf (tokR s) (tokR t) (gF (tokR s) (tokR t) (x1.val * ((tokR t).length + 1) + x2.val)) (↑x1.val : Int) (↑x2.val : Int)).snd = gF (tokR s) (tokR t) (x1.val * ((tokR t).length + 1) + x3.val))))))))))))))))))))))))))))) ∧
               (¬0 < (↑x1.val : Int) + (↑x2.val : Int) →
                ((i64R ((↑x2.val : Int) + 1)) ∧
                (∃ x3 : { j : Nat // j ≤ (tokR t).length + 1 },
                 (((tokR t).length + 1 - x3.val < (tokR t).length + 1 - x2.val) ∧
                 ((tokR t = tokR t) ∧
                 (((↑x1.val : Int) = (↑x1.val : Int)) ∧
                 (((↑(tokR s).length : Int) + 1 = (↑(tokR s).length : Int) + 1) ∧
                 (((↑x1.val : Int) = (↑x1.val : Int)) ∧
                 (((↑(tokR t).length : Int) + 1 = (↑(tokR t).length : Int) + 1) ∧
                 (((↑x2.val : Int) + 1 = (↑x3.val : Int)) ∧
                 ((tokR s = tokR s) ∧
                 ((tokR t = tokR t) ∧
                 ((gK (tokR s) (tokR t) (x1.val * ((tokR t).length + 1) + x2.val) = gK (tokR s) (tokR t) (x1.val * ((tokR t).length + 1) + x3.val)) ∧
                 (gF (tokR s) (tokR t) (x1.val * ((tokR t).length + 1) + x2.val) = gF (tokR s) (tokR t) (x1.val * ((tokR t).length + 1) + x3.val)))))))))))))))))) ∧
             (¬(↑x2.val : Int) < (↑(tokR t).length : Int) + 1 →
              ((i64R ((↑x1.val : Int) + 1)) ∧
              (∃ x3 : { i : Nat // i ≤ (tokR s).length + 1 },
               (((tokR s).length + 1 - x3.val < (tokR s).length + 1 - x1.val) ∧
               ((tokR t = tokR t) ∧
               (((↑(tokR s).length : Int) + 1 = (↑(tokR s).length : Int) + 1) ∧
               (((↑x1.val : Int) + 1 = (↑x3.val : Int)) ∧
               ((tokR s = tokR s) ∧
               ((tokR t = tokR t) ∧
               ((gK (tokR s) (tokR t) (x1.val * ((tokR t).length + 1) + x2.val) = gK (tokR s) (tokR t) (x3.val * ((tokR t).length + 1))) ∧
               (gF (tokR s) (tokR t) (x1.val * ((tokR t).length + 1) + x2.val) = gF (tokR s) (tokR t) (x3.val * ((tokR t).length + 1)))))))))))))))))) ∧
          (¬(↑x1.val : Int) < (↑(tokR s).length : Int) + 1 →
           ((i64R ((↑(gF (tokR s) (tokR t) (x1.val * ((tokR t).length + 1))).length : Int) - 1)) ∧
           ((0 ≤ (↑(gF (tokR s) (tokR t) (x1.val * ((tokR t).length + 1))).length : Int) - 1 ∧ (↑(gF (tokR s) (tokR t) (x1.val * ((tokR t).length + 1))).length : Int) - 1 < (↑(gF (tokR s) (tokR t) (x1.val * ((tokR t).length + 1))).length : Int)) ∧
           ((((↑(gF (tokR s) (tokR t) (x1.val * ((tokR t).length + 1))).length : Int) - 1).toNat < (gF (tokR s) (tokR t) (x1.val * ((tokR t).length + 1))).length) ∧
           ((i64R ((gF (tokR s) (tokR t) (x1.val * ((tokR t).length + 1))).getD ((↑(gF (tokR s) (tokR t) (x1.val * ((tokR t).length + 1))).length : Int) - 1).toNat 0)) ∧
           (((gF (tokR s) (tokR t) (x1.val * ((tokR t).length + 1))).getD ((↑(gF (tokR s) (tokR t) (x1.val * ((tokR t).length + 1))).length : Int) - 1).toNat 0 = distV s t) ∧
           (0 = twoE s t))))))))))))) ∧
        ((0 ≤ ((↑(tokR s).length : Int) + 1) * ((↑(tokR t).length : Int) + 1) ∧ ((↑(tokR s).length : Int) + 1) * ((↑(tokR t).length : Int) + 1) ≤ ((↑(tokR s).length : Int) + 1) * ((↑(tokR t).length : Int) + 1) ∧ ((↑(tokR s).length : Int) + 1) * ((↑(tokR t).length : Int) + 1) * 1 ≤ 140737488355328 ∧ ((↑(tokR s).length : Int) + 1) * ((↑(tokR t).length : Int) + 1) ≤ 140737488355328) ∧
        ((0 ≤ ((↑(tokR s).length : Int) + 1) * ((↑(tokR t).length : Int) + 1) ∧ ((↑(tokR s).length : Int) + 1) * ((↑(tokR t).length : Int) + 1) ≤ ((↑(tokR s).length : Int) + 1) * ((↑(tokR t).length : Int) + 1) ∧ ((↑(tokR s).length : Int) + 1) * ((↑(tokR t).length : Int) + 1) * 1 ≤ 140737488355328 ∧ ((↑(tokR s).length : Int) + 1) * ((↑(tokR t).length : Int) + 1) ≤ 140737488355328) ∧
        ((i64R ((↑(tokR s).length : Int) + 1)) ∧
        ((∃ x1 : { i : Nat // i ≤ (tokR s).length + 1 },
          ((tokR t = tokR t) ∧
          (((↑(tokR s).length : Int) + 1 = (↑(tokR s).length : Int) + 1) ∧
          ((0 = (↑x1.val : Int)) ∧
          ((tokR s = tokR s) ∧
          ((tokR t = tokR t) ∧
          ((List.replicate (((↑(tokR s).length : Int) + 1) * ((↑(tokR t).length : Int) + 1)).toNat 0 = gF (tokR s) (tokR t) (x1.val * ((tokR t).length + 1))) ∧
          (List.replicate (((↑(tokR s).length : Int) + 1) * ((↑(tokR t).length : Int) + 1)).toNat 0 = gK (tokR s) (tokR t) (x1.val * ((tokR t).length + 1)))))))))) ∧
        (∀ x1 : { i : Nat // i ≤ (tokR s).length + 1 },
         (((↑x1.val : Int) < (↑(tokR s).length : Int) + 1 →
           ((i64R ((↑(tokR t).length : Int) + 1)) ∧
           ((∃ x2 : { j : Nat // j ≤ (tokR t).length + 1 },
             ((tokR t = tokR t) ∧
             (((↑x1.val : Int) = (↑x1.val : Int)) ∧
             (((↑(tokR s).length : Int) + 1 = (↑(tokR s).length : Int) + 1) ∧
             (((↑x1.val : Int) = (↑x1.val : Int)) ∧
             (((↑(tokR t).length : Int) + 1 = (↑(tokR t).length : Int) + 1) ∧
             ((0 = (↑x2.val : Int)) ∧
             ((tokR s = tokR s) ∧
             ((tokR t = tokR t) ∧
             ((gF (tokR s) (tokR t) (x1.val * ((tokR t).length + 1)) = gF (tokR s) (tokR t) (x1.val * ((tokR t).length + 1) + x2.val)) ∧
             (gK (tokR s) (tokR t) (x1.val * ((tokR t).length + 1)) = gK (tokR s) (tokR t) (x1.val * ((tokR t).length + 1) + x2.val)))))))))))) ∧
           (∀ x2 : { j : Nat // j ≤ (tokR t).length + 1 },
            (((↑x2.val : Int) < (↑(tokR t).length : Int) + 1 →
              ((i64R ((↑x1.val : Int) + (↑x2.val : Int))) ∧
              ((0 < (↑x1.val : Int) + (↑x2.val : Int) →
                ((0 ≤ (↑x1.val : Int) ∧ (↑x1.val : Int) ≤ 1048576) ∧
                ((0 ≤ (↑x2.val : Int) ∧ (↑x2.val : Int) ≤ 1048576) ∧
                (((tokR t).length ≤ 1048576) ∧
                ((0 ≤ (↑x1.val : Int) ∧ (↑x1.val : Int) ≤ 1048576) ∧
                ((0 ≤ (↑x2.val : Int) ∧ (↑x2.val : Int) ≤ 1048576) ∧
                (((tokR t).length ≤ 1048576) ∧
                ((0 ≤ (↑x1.val : Int) ∧ (↑x1.val : Int) ≤ (↑(tokR s).length : Int)) ∧
                ((0 ≤ (↑x2.val : Int) ∧ (↑x2.val : Int) ≤ (↑(tokR t).length : Int)) ∧
                (((tokR s).length ≤ 1048575 ∧ (tokR t).length ≤ 1048575) ∧
                (((↑(gF (tokR s) (tokR t) (x1.val * ((tokR t).length + 1) + x2.val)).length : Int) = ((↑(tokR s).length : Int) + 1) * ((↑(tokR t).length : Int) + 1)) ∧
                ((0 ≤ (↑x1.val : Int) * ((↑(tokR t).length : Int) + 1) + (↑x2.val : Int) ∧ (↑x1.val : Int) * ((↑(tokR t).length : Int) + 1) + (↑x2.val : Int) < (↑(gK (tokR s) (tokR t) (x1.val * ((tokR t).length + 1) + x2.val)).length : Int)) ∧
                ((((↑x1.val : Int) * ((↑(tokR t).length : Int) + 1) + (↑x2.val : Int)).toNat < (gK (tokR s) (tokR t) (x1.val * ((tokR t).length + 1) + x2.val)).length) ∧
                ((0 ≤ (↑x1.val : Int) * ((↑(tokR t).length : Int) + 1) + (↑x2.val : Int) ∧ (↑x1.val : Int) * ((↑(tokR t).length : Int) + 1) + (↑x2.val : Int) < (↑(gF (tokR s) (tokR t) (x1.val * ((tokR t).length + 1) + x2.val)).length : Int)) ∧
                ((((↑x1.val : Int) * ((↑(tokR t).length : Int) + 1) + (↑x2.val : Int)).toNat < (gF (tokR s) (tokR t) (x1.val * ((tokR t).length + 1) + x2.val)).length) ∧
                ((i64R ((↑x2.val : Int) + 1)) ∧
                (∃ x3 : { j : Nat // j ≤ (tokR t).length + 1 },
                 (((tokR t).length + 1 - x3.val < (tokR t).length + 1 - x2.val) ∧
                 ((tokR t = tokR t) ∧
                 (((↑x1.val : Int) = (↑x1.val : Int)) ∧
                 (((↑(tokR s).length : Int) + 1 = (↑(tokR s).length : Int) + 1) ∧
                 (((↑x1.val : Int) = (↑x1.val : Int)) ∧
                 (((↑(tokR t).length : Int) + 1 = (↑(tokR t).length : Int) + 1) ∧
                 (((↑x2.val : Int) + 1 = (↑x3.val : Int)) ∧
                 ((tokR s = tokR s) ∧
                 ((tokR t = tokR t) ∧
                 (((gF (tokR s) (tokR t) (x1.val * ((tokR t).length + 1) + x2.val)).set ((↑x1.val : Int) * ((↑(tokR t).length : Int) + 1) + (↑x2.val : Int)).toNat (bestOf (tokR s) (tokR t) (gF (tokR s) (tokR t) (x1.val * ((tokR t).length + 1) + x2.val)) (↑x1.val : Int) (↑x2.val : Int)).snd = gF (tokR s) (tokR t) (x1.val * ((tokR t).length + 1) + x3.val)) ∧
                 ((gK (tokR s) (tokR t) (x1.val * ((tokR t).length + 1) + x2.val)).set ((↑x1.val : Int) * ((↑(tokR t).length : Int) + 1) + (↑x2.val : Int)).toNat (bestOf (tokR s) (tokR t) (gF (tokR s) (tokR t) (x1.val * ((tokR t).length + 1) + x2.val)) (↑x1.val : Int) (↑x2.val : Int)).fst = gK (tokR s) (tokR t) (x1.val * ((tokR t).length + 1) + x3.val))))))))))))))))))))))))))))) ∧
              (¬0 < (↑x1.val : Int) + (↑x2.val : Int) →
               ((i64R ((↑x2.val : Int) + 1)) ∧
               (∃ x3 : { j : Nat // j ≤ (tokR t).length + 1 },
                (((tokR t).length + 1 - x3.val < (tokR t).length + 1 - x2.val) ∧
                ((tokR t = tokR t) ∧
                (((↑x1.val : Int) = (↑x1.val : Int)) ∧
                (((↑(tokR s).length : Int) + 1 = (↑(tokR s).length : Int) + 1) ∧
                (((↑x1.val : Int) = (↑x1.val : Int)) ∧
                (((↑(tokR t).length : Int) + 1 = (↑(tokR t).length : Int) + 1) ∧
                (((↑x2.val : Int) + 1 = (↑x3.val : Int)) ∧
                ((tokR s = tokR s) ∧
                ((tokR t = tokR t) ∧
                ((gF (tokR s) (tokR t) (x1.val * ((tokR t).length + 1) + x2.val) = gF (tokR s) (tokR t) (x1.val * ((tokR t).length + 1) + x3.val)) ∧
                (gK (tokR s) (tokR t) (x1.val * ((tokR t).length + 1) + x2.val) = gK (tokR s) (tokR t) (x1.val * ((tokR t).length + 1) + x3.val)))))))))))))))))) ∧
            (¬(↑x2.val : Int) < (↑(tokR t).length : Int) + 1 →
             ((i64R ((↑x1.val : Int) + 1)) ∧
             (∃ x3 : { i : Nat // i ≤ (tokR s).length + 1 },
              (((tokR s).length + 1 - x3.val < (tokR s).length + 1 - x1.val) ∧
              ((tokR t = tokR t) ∧
              (((↑(tokR s).length : Int) + 1 = (↑(tokR s).length : Int) + 1) ∧
              (((↑x1.val : Int) + 1 = (↑x3.val : Int)) ∧
              ((tokR s = tokR s) ∧
              ((tokR t = tokR t) ∧
              ((gF (tokR s) (tokR t) (x1.val * ((tokR t).length + 1) + x2.val) = gF (tokR s) (tokR t) (x3.val * ((tokR t).length + 1))) ∧
              (gK (tokR s) (tokR t) (x1.val * ((tokR t).length + 1) + x2.val) = gK (tokR s) (tokR t) (x3.val * ((tokR t).length + 1)))))))))))))))))) ∧
         (¬(↑x1.val : Int) < (↑(tokR s).length : Int) + 1 →
          ((i64R ((↑(gF (tokR s) (tokR t) (x1.val * ((tokR t).length + 1))).length : Int) - 1)) ∧
          ((0 ≤ (↑(gF (tokR s) (tokR t) (x1.val * ((tokR t).length + 1))).length : Int) - 1 ∧ (↑(gF (tokR s) (tokR t) (x1.val * ((tokR t).length + 1))).length : Int) - 1 < (↑(gF (tokR s) (tokR t) (x1.val * ((tokR t).length + 1))).length : Int)) ∧
          ((((↑(gF (tokR s) (tokR t) (x1.val * ((tokR t).length + 1))).length : Int) - 1).toNat < (gF (tokR s) (tokR t) (x1.val * ((tokR t).length + 1))).length) ∧
          ((i64R ((gF (tokR s) (tokR t) (x1.val * ((tokR t).length + 1))).getD ((↑(gF (tokR s) (tokR t) (x1.val * ((tokR t).length + 1))).length : Int) - 1).toNat 0)) ∧
          (((gF (tokR s) (tokR t) (x1.val * ((tokR t).length + 1))).getD ((↑(gF (tokR s) (tokR t) (x1.val * ((tokR t).length + 1))).length : Int) - 1).toNat 0 = distV s t) ∧
          (0 = twoE s t))))))))))))))))))) ∧
      (¬tokE t = 0 →
       ((tokE t = 0 →
         False) ∧
       (¬tokE t = 0 →
        ((0 = distV s t) ∧
        (tokE t = twoE s t)))))))) ∧
    (¬tokE s = 0 →
     ((tokE s = 0 →
       False) ∧
     (¬tokE s = 0 →
      ((0 = distV s t) ∧
      (tokE s = twoE s t)))))))) (by kernel_rfl) ?_
  have ha := tok64 (s := s)
  have hb := tok64 (s := t)
  have hc := gN_cast (tokR s) (tokR t)
  have hN := gN_le ha hb
  have hN0 := gN_pos (tokR s) (tokR t)
  refine ⟨hc1, fun h1 => ⟨hc2, fun h2 => ?_, fun h2 => ⟨fun h3 => absurd h3 h2, fun _ => ⟨(two_b h1 h2).2, (two_b h1 h2).1⟩⟩⟩, fun h1 => ⟨fun h3 => absurd h3 h1, fun _ => ⟨(two_a h1).2, (two_a h1).1⟩⟩⟩
  have hE := two_ok h1 h2
  refine ⟨by unfold i64R; omega, by unfold i64R; omega, by unfold i64R; omega, ?_, ?_, ?_⟩
  · refine ⟨by omega, by omega, by unfold i64R; omega, ⟨⟨0, by omega⟩, rfl, rfl, rfl, rfl, rfl, fill_zero (fewAt (tokR s) (tokR t)) _ _, fill_zero (kindAt (tokR s) (tokR t)) _ _⟩, ?_⟩
    rintro ⟨x, hx⟩
    dsimp only
    refine ⟨fun h => ⟨by unfold i64R; omega, ⟨⟨0, by omega⟩, rfl, rfl, rfl, rfl, rfl, rfl, rfl, rfl, rfl, rfl⟩, ?_⟩, fun h => ?_⟩
    · rintro ⟨y, hy⟩
      dsimp only
      refine ⟨fun h2 => ⟨by unfold i64R; omega, fun h3 => ?_, fun h3 => ⟨by unfold i64R; omega, ⟨⟨y + 1, by omega⟩, by dsimp only; omega, rfl, rfl, rfl, rfl, rfl, by push_cast; rfl, rfl, rfl, fill_skipF h3, fill_skipK h3⟩⟩⟩,
        fun h2 => ⟨by unfold i64R; omega, ⟨⟨x + 1, by omega⟩, by dsimp only; omega, rfl, rfl, by push_cast; rfl, rfl, rfl, fill_next hy h2, fill_next hy h2⟩⟩⟩
      have hp : x * ((tokR t).length + 1) + y < gN (tokR s) (tokR t) := place_lt (by omega) (by omega)
      have hq : 0 ≤ (x : Int) * (((tokR t).length : Int) + 1) + (y : Int) ∧ (x : Int) * (((tokR t).length : Int) + 1) + (y : Int) < ((gN (tokR s) (tokR t) : Nat) : Int) := by rw [place]; omega
      refine ⟨by omega, by omega, by omega, by omega, by omega, by omega, by omega, by omega, by omega, fill_len _ _ _ _, by rw [tabl_len]; exact hq, by rw [tabl_len]; omega, by rw [tabl_len]; exact hq, by rw [tabl_len]; omega, by unfold i64R; omega, ⟨⟨y + 1, by omega⟩, by dsimp only; omega, rfl, rfl, rfl, rfl, rfl, by push_cast; rfl, rfl, rfl, fill_setF ha hb (by omega) (by omega) h3, fill_setK ha hb (by omega) (by omega) h3⟩⟩
    · have hv := fill_end (b := tokR t) hx h
      have hl : lev (tokR s).reverse (tokR t).reverse ≤ 64 := by
        have := lev_le (tokR s).reverse (tokR t).reverse
        simp only [List.length_reverse] at this
        omega
      refine ⟨?_, ?_, ?_, by rw [hv]; unfold i64R; omega, by rw [hv, hE.2], hE.1.symm⟩
      all_goals rw [tabl_len]
      · unfold i64R; omega
      · omega
      · omega
  · refine ⟨by omega, by omega, by unfold i64R; omega, ⟨⟨0, by omega⟩, rfl, rfl, rfl, rfl, rfl, fill_zero (kindAt (tokR s) (tokR t)) _ _, fill_zero (fewAt (tokR s) (tokR t)) _ _⟩, ?_⟩
    rintro ⟨x, hx⟩
    dsimp only
    refine ⟨fun h => ⟨by unfold i64R; omega, ⟨⟨0, by omega⟩, rfl, rfl, rfl, rfl, rfl, rfl, rfl, rfl, rfl, rfl⟩, ?_⟩, fun h => ?_⟩
    · rintro ⟨y, hy⟩
      dsimp only
      refine ⟨fun h2 => ⟨by unfold i64R; omega, fun h3 => ?_, fun h3 => ⟨by unfold i64R; omega, ⟨⟨y + 1, by omega⟩, by dsimp only; omega, rfl, rfl, rfl, rfl, rfl, by push_cast; rfl, rfl, rfl, fill_skipK h3, fill_skipF h3⟩⟩⟩,
        fun h2 => ⟨by unfold i64R; omega, ⟨⟨x + 1, by omega⟩, by dsimp only; omega, rfl, rfl, by push_cast; rfl, rfl, rfl, fill_next hy h2, fill_next hy h2⟩⟩⟩
      have hp : x * ((tokR t).length + 1) + y < gN (tokR s) (tokR t) := place_lt (by omega) (by omega)
      have hq : 0 ≤ (x : Int) * (((tokR t).length : Int) + 1) + (y : Int) ∧ (x : Int) * (((tokR t).length : Int) + 1) + (y : Int) < ((gN (tokR s) (tokR t) : Nat) : Int) := by rw [place]; omega
      refine ⟨by omega, by omega, by omega, by omega, by omega, by omega, by omega, by omega, by omega, fill_len _ _ _ _, by rw [tabl_len]; exact hq, by rw [tabl_len]; omega, by rw [tabl_len]; exact hq, by rw [tabl_len]; omega, by unfold i64R; omega, ⟨⟨y + 1, by omega⟩, by dsimp only; omega, rfl, rfl, rfl, rfl, rfl, by push_cast; rfl, rfl, rfl, fill_setK ha hb (by omega) (by omega) h3, fill_setF ha hb (by omega) (by omega) h3⟩⟩
    · have hv := fill_end (b := tokR t) hx h
      have hl : lev (tokR s).reverse (tokR t).reverse ≤ 64 := by
        have := lev_le (tokR s).reverse (tokR t).reverse
        simp only [List.length_reverse] at this
        omega
      refine ⟨?_, ?_, ?_, by rw [hv]; unfold i64R; omega, by rw [hv, hE.2], hE.1.symm⟩
      all_goals rw [tabl_len]
      · unfold i64R; omega
      · omega
      · omega
  · refine ⟨by omega, by omega, by unfold i64R; omega, ⟨⟨0, by omega⟩, rfl, rfl, rfl, rfl, rfl, fill_zero (fewAt (tokR s) (tokR t)) _ _, fill_zero (kindAt (tokR s) (tokR t)) _ _⟩, ?_⟩
    rintro ⟨x, hx⟩
    dsimp only
    refine ⟨fun h => ⟨by unfold i64R; omega, ⟨⟨0, by omega⟩, rfl, rfl, rfl, rfl, rfl, rfl, rfl, rfl, rfl, rfl⟩, ?_⟩, fun h => ?_⟩
    · rintro ⟨y, hy⟩
      dsimp only
      refine ⟨fun h2 => ⟨by unfold i64R; omega, fun h3 => ?_, fun h3 => ⟨by unfold i64R; omega, ⟨⟨y + 1, by omega⟩, by dsimp only; omega, rfl, rfl, rfl, rfl, rfl, by push_cast; rfl, rfl, rfl, fill_skipF h3, fill_skipK h3⟩⟩⟩,
        fun h2 => ⟨by unfold i64R; omega, ⟨⟨x + 1, by omega⟩, by dsimp only; omega, rfl, rfl, by push_cast; rfl, rfl, rfl, fill_next hy h2, fill_next hy h2⟩⟩⟩
      have hp : x * ((tokR t).length + 1) + y < gN (tokR s) (tokR t) := place_lt (by omega) (by omega)
      have hq : 0 ≤ (x : Int) * (((tokR t).length : Int) + 1) + (y : Int) ∧ (x : Int) * (((tokR t).length : Int) + 1) + (y : Int) < ((gN (tokR s) (tokR t) : Nat) : Int) := by rw [place]; omega
      refine ⟨by omega, by omega, by omega, by omega, by omega, by omega, by omega, by omega, by omega, fill_len _ _ _ _, by rw [tabl_len]; exact hq, by rw [tabl_len]; omega, by rw [tabl_len]; exact hq, by rw [tabl_len]; omega, by unfold i64R; omega, ⟨⟨y + 1, by omega⟩, by dsimp only; omega, rfl, rfl, rfl, rfl, rfl, by push_cast; rfl, rfl, rfl, fill_setF ha hb (by omega) (by omega) h3, fill_setK ha hb (by omega) (by omega) h3⟩⟩
    · have hv := fill_end (b := tokR t) hx h
      have hl : lev (tokR s).reverse (tokR t).reverse ≤ 64 := by
        have := lev_le (tokR s).reverse (tokR t).reverse
        simp only [List.length_reverse] at this
        omega
      refine ⟨?_, ?_, ?_, by rw [hv]; unfold i64R; omega, by rw [hv, hE.2], hE.1.symm⟩
      all_goals rw [tabl_len]
      · unfold i64R; omega
      · omega
      · omega
end Go.EA

