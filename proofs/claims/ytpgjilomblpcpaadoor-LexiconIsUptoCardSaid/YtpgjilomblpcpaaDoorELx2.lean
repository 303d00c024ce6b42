/- Layer 9: where words stand. Conditions: none. (Printed by a program of this project's own.) -/
import Derived.Test.YtpgjilomblpcpaaDoorENr2
import Derived.Test.YtpgjilomblpcpaaDoorELx1
import Derived.KernelRfl
set_option linter.unusedVariables false
set_option linter.unusedSimpArgs false
set_option maxRecDepth 100000
set_option maxHeartbeats 0
namespace Go.EA
open F
def P293:Unit→List SV:=fun _=>[]
def R293:Unit→SV×List Prop:=fun _=>(.one (.bool true),[])
def K293:Con:=⟨true,[],fun xs=>match xs with | []=>some (R293 ()) | _=>none⟩
noncomputable def G293:GP:=conG P293 R293
theorem P293_inj:∀ a b,(P293 a).map den0=(P293 b).map den0→a=b:=by
  intro a b _;rfl
theorem K293_ok:ConG G293 K293:=conG_of P293_inj (fun _ _=>rfl) (fun _=>rfl) fun xs r h=>by
  simp only [K293] at h
  split at h
  · cases h;exact ⟨(),rfl,rfl⟩
  · cases h
theorem pr293 {S:SC} (hB:SB S) (q295:PrOk S 295 (pureP G295)) (q298:PrOk S 298 (pureP G298)) (h293:S.has 293 f293):PrOk S 293 (pureP G293):=by
  refine prM hB [] [⟨295,G295,K295⟩,⟨298,G298,K298⟩] trivial ⟨⟨q295,K295_ok⟩,⟨q298,K298_ok⟩,trivial⟩ h293 (fun _=>⟨rfl,rfl,rfl⟩) (fun _=>fun _ _ _ _=>none) 400 ?_
  rintro _ hc
  refine VC.use (p:=
    (((3:Nat)≤(1099511627776:Nat)) ∧
    ((SmW [([98],1),([97],2),([98],3)]) ∧
    (((2:Int)=(2:Int) →
      (((0:Int)≤(0:Int)∧(0:Int) < (2:Int)) ∧
      ((((norO [([(98:UInt8)],(1:Int)),([(97:UInt8)],(2:Int)),([(98:UInt8)],(3:Int))]).getD (0:Nat) ([],(0:Int))).fst=[(97:UInt8)] →
        (((0:Int)≤(1:Int)∧(1:Int) < (2:Int)) ∧
        (((4:Int)=(4:Int) →
          (((0:Int)=(0:Int) →
            (((0:Nat)≤(1099511627776:Nat)) ∧
            (decide ((4:Int)=(4:Int))=true))) ∧
          (¬(0 : Int) = (0 : Int) →
           (false=true)))) ∧
        (¬(4 : Int) = (4 : Int) →
         (false=true))))) ∧
      (¬((norO [([(98 : UInt8)], (1 : Int)), ([(97 : UInt8)], (2 : Int)), ([(98 : UInt8)], (3 : Int))]).getD (0 : Nat) ([], (0 : Int))).fst = [(97 : UInt8)] →
       (false=true))))) ∧
    (¬(2 : Int) = (2 : Int) →
     (false=true)))))) (by kernel_rfl) ?_
  refine ⟨by decide,fun x hx=>?_,fun _=>⟨by omega,fun _=>⟨by omega,fun _=>⟨fun _=>⟨by decide,rfl⟩,fun h=>absurd rfl h⟩,fun h=>absurd rfl h⟩,fun h=>absurd rfl h⟩,fun h=>absurd rfl h⟩
  simp only [List.mem_cons,List.not_mem_nil,or_false] at hx
  rcases hx with rfl | rfl | rfl <;> decide
end Go.EA
