/- Layer 1: two laws. Conditions: none. (Printed by a program of this project's own.) -/
import Derived.Test.YtngcpifknomecaaDoorEAf1
import Derived.Test.YtngcpifknomecaaDoorEK9
import Derived.Test.YtngcpifknomecaaDoorEMean6
import Derived.Test.YtngcpifknomecaaDoorERx
import Derived.Test.YtngcpifknomecaaDoorECmp
import Derived.Test.YtngcpifknomecaaDoorERf
import Derived.Test.YtngcpifknomecaaDoorERu
import Derived.Test.YtngcpifknomecaaDoorEPrim2
import Derived.KernelRfl
set_option linter.unusedVariables false
set_option linter.unusedSimpArgs false
set_option maxRecDepth 100000
set_option maxHeartbeats 0
namespace Go.EA
open F
def P16 : Unit → List SV := fun _ => []
def R16 : Unit → SV × List Prop := fun _ => (.one .tt, [])
def K16 : Con := ⟨[], fun xs => match xs with | [] => some (R16 ()) | _ => none⟩
noncomputable def G16 : GP := conG P16 R16
theorem P16_inj : ∀ a b, (P16 a).map den0 = (P16 b).map den0 → a = b := by
  intro a b _; rfl
theorem K16_ok : ConG G16 K16 := conG_of P16_inj fun xs r h => by
  simp only [K16] at h
  split at h
  · cases h; exact ⟨(), rfl, rfl⟩
  · cases h
theorem pr16 {S : SC} (hB : SB S) (q17 : PrOk S 17 (pureP G17)) (q35 : PrOk S 35 (pureP G35)) (h16 : S.has 16 f16) : PrOk S 16 (pureP G16) := by
  refine prM hB [] [⟨17, G17, K17⟩, ⟨35, G35, K35⟩] trivial ⟨⟨q17, K17_ok⟩, ⟨q35, K35_ok⟩, trivial⟩ h16 (fun _ => ⟨rfl, rfl, rfl⟩) (fun _ => fun _ _ _ _ => none) 400 ?_
  rintro _ hc
  refine VC.use (p :=
    (((2 : Nat) ≤ (1099511627776 : Nat)) ∧
    (((2 : Nat) ≤ (1099511627776 : Nat)) ∧
    (((1 : Int) = (1 : Int) →
      (((0 : Int) ≤ (0 : Int) ∧ (0 : Int) < (1 : Int)) ∧
      (((228 : Int) = (228 : Int) →
        (((0 : Int) = (0 : Int) →
          (((3 : Int) = (3 : Int) →
            (letterB (97 : Int) = true)) ∧
          (¬(3 : Int) = (3 : Int) →
           (false = true)))) ∧
        (¬(0 : Int) = (0 : Int) →
         (false = true)))) ∧
      (¬(228 : Int) = (228 : Int) →
       (false = true))))) ∧
    (¬(1 : Int) = (1 : Int) →
     (false = true)))))) (by kernel_rfl) ?_
  exact ⟨by decide, by decide, fun _ => ⟨by decide, fun _ => ⟨fun _ => ⟨fun _ => rfl, fun h => absurd rfl h⟩, fun h => absurd rfl h⟩, fun h => absurd rfl h⟩, fun h => absurd rfl h⟩
theorem w9 {S : SC} (hB : SB S) (q16 : PrOk S 16 (pureP G16)) (q33 : PrOk S 33 (pureP G33)) (q17 : PrOk S 17 (pureP G17)) (q18 : PrOk S 18 (pureP G18)) (q38 : PrOk S 38 (pureP G38)) (h9 : S.has 9 f9) (l : List Int) (s : List UInt8) : MF S 9 [] [den0 (.one (.row (.int .i32) l)), den0 (.one (.str s))] (hl []) fun v _ => v = .one (.bool true) :=
  mfM hB [] [⟨16, G16, K16⟩, ⟨33, G33, K33⟩, ⟨17, G17, K17⟩, ⟨18, G18, K18⟩, ⟨38, G38, K38⟩] trivial ⟨⟨q16, K16_ok⟩, ⟨q33, K33_ok⟩, ⟨q17, K17_ok⟩, ⟨q18, K18_ok⟩, ⟨q38, K38_ok⟩, trivial⟩ h9 (v := .one .tt) (xs := [.one (.row (.int .i32) l), .one (.str s)]) rfl rfl rfl (fun _ _ _ _ => none) 400 (VC.use (p :=
    ((3000 < (↑l.length : Int) →
      True) ∧
    (¬3000 < (↑l.length : Int) →
     ((5000 < (↑s.length : Int) →
       True) ∧
     (¬5000 < (↑s.length : Int) →
      ((l.length ≤ 1099511627776) ∧
      ((encE l = 0 →
        (((encT l).length ≤ 1099511627776) ∧
        ((decE (encT l) = 0 →
          (((decR (encT l)).length ≤ 1099511627776) ∧
          (((!decide (decR (encT l) = l)) = true →
            (false = true)) ∧
          (¬(!decide (decR (encT l) = l)) = true →
           (((encT l).length ≤ 4611686018427387904) ∧
           (((!decOk (encT l)) = true →
             (false = true)) ∧
           (¬(!decOk (encT l)) = true →
            ((s.length ≤ 1099511627776) ∧
            ((s.length ≤ 4611686018427387904) ∧
            (((!decide (decide (decE s = 0) = decOk s)) = true →
              (false = true)) ∧
            (¬(!decide (decide (decE s = 0) = decOk s)) = true →
             ((decE s = 0 →
               (((decR s).length ≤ 1099511627776) ∧
               ((encE (decR s) = 0 →
                 (decide (encT (decR s) = s) = true)) ∧
               (¬encE (decR s) = 0 →
                (false = true))))) ∧
             (¬decE s = 0 →
              (decide ((↑(decR s).length : Int) = 0) = true)))))))))))))) ∧
        (¬decE (encT l) = 0 →
         (false = true))))) ∧
      (¬encE l = 0 →
       ((s.length ≤ 1099511627776) ∧
       ((s.length ≤ 4611686018427387904) ∧
       (((!decide (decide (decE s = 0) = decOk s)) = true →
         (false = true)) ∧
       (¬(!decide (decide (decE s = 0) = decOk s)) = true →
        ((decE s = 0 →
          (((decR s).length ≤ 1099511627776) ∧
          ((encE (decR s) = 0 →
            (decide (encT (decR s) = s) = true)) ∧
          (¬encE (decR s) = 0 →
           (false = true))))) ∧
        (¬decE s = 0 →
         (decide ((↑(decR s).length : Int) = 0) = true))))))))))))))) (by kernel_rfl) (by
    have e1 : encE l = 0 → decR (encT l) = l ∧ decE (encT l) = 0 ∧ decOk (encT l) = true := back1
    have e2 := decE_dec s
    have e3 : decE s = 0 → encT (decR s) = s ∧ encE (decR s) = 0 := enc_decR
    have e4 : decE s ≠ 0 → decR s = [] := decR_bad
    have l1 := encT_len l
    have l2 := decR_len (encT l)
    have l3 := decR_len s
    repeat' (first | intro _ | apply And.intro)
    all_goals first
      | trivial
      | omega
      | (exfalso; simp_all; done)
      | (simp_all; done)))
end Go.EA
