/- Layer 15: laws (where any stands; two rows; of three). Conditions: none. (Printed by a program of this project's own.) -/
import Derived.Test.YtfkejbbajggmnaaDoorERc3
import Derived.KernelRfl
set_option linter.unusedVariables false
set_option linter.unusedSimpArgs false
set_option maxRecDepth 100000
set_option maxHeartbeats 0
namespace Go.EA
open F
theorem w372 {S:SC} (hB:SB S) (q377:PrOk S 377 (pureP G377)) (q378:PrOk S 378 (pureP G378)) (q382:PrOk S 382 (pureP G382)) (q383:PrOk S 383 (pureP G383)) (h372:S.has 372 f372) (l:List (List UInt8×Int×Int)) (s:List UInt8) (hl0:l.length≤1048576) (hs0:∀ x∈l,x.1.length≤1048576):MF S 372 [] [den0 (.one (.row (.pair .str (.pair (.int .i64) (.int .i64))) l)),den0 (.one (.str s))] (hl []) fun v _=>v=.one (.bool true):=
  mfM hB [] [⟨377,G377,K377⟩,⟨378,G378,K378⟩,⟨382,G382,K382⟩,⟨383,G383,K383⟩] trivial ⟨⟨q377,K377_ok⟩,⟨q378,K378_ok⟩,⟨q382,K382_ok⟩,⟨q383,K383_ok⟩,trivial⟩ h372 (v:=.one .tt) (xs:=[.one (.row (.pair .str (.pair (.int .i64) (.int .i64))) l),.one (.str s)]) rfl rfl rfl (fun _ _ _ _=>none) 2000 (VC.use (p:=
    (((!true)=true →
      (false=true)) ∧
    (¬(!true) = true →
     ((l.length≤4194304) ∧
     ((∀ (x:List UInt8×Int×Int),x∈l→x.fst.length≤1099511627776) ∧
     ((decide (200 < l.length∨4000 < lenC l)=true →
       True) ∧
     (¬decide (200 < l.length ∨ 4000 < lenC l) = true →
      ((500 < (↑s.length:Int) →
        True) ∧
      (¬500 < (↑s.length : Int) →
       ((l.length≤1099511627776) ∧
       ((SmC l) ∧
       ((l.length≤1099511627776) ∧
       ((SmC l) ∧
       ((plcV l s=plcV l s →
         (decide (plcE l s=plcE l s)=true)) ∧
       (¬plcV l s = plcV l s →
        (false=true)))))))))))))))) (by kernel_rfl) (by
    have hw:SmC l:=fun x hx=>Nat.le_trans (hs0 x hx) (by decide)
    have q:l.length≤1099511627776:=by omega
    refine ⟨fun h=>(by cases h),fun _=>⟨by omega,hw,fun _=>by trivial,fun _=>⟨fun _=>by trivial,fun _=>⟨q,hw,q,hw,fun _=>decide_eq_true rfl,fun h=>absurd rfl h⟩⟩⟩⟩))
end Go.EA
