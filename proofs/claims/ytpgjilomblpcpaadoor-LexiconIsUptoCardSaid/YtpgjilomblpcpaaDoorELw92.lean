/- Layer 9: the law whether words may be, are normal. Conditions: none. (Printed by a program of this project's own.) -/
import Derived.Test.YtpgjilomblpcpaaDoorELx5
import Derived.KernelRfl
set_option linter.unusedVariables false
set_option linter.unusedSimpArgs false
set_option maxRecDepth 100000
set_option maxHeartbeats 0
namespace Go.EA
open F
theorem w266 {S:SC} (hB:SB S) (q293:PrOk S 293 (pureP G293)) (q294:PrOk S 294 (pureP G294)) (q295:PrOk S 295 (pureP G295)) (q291:PrOk S 291 (pureP G291)) (q296:PrOk S 296 (pureP G296)) (q297:PrOk S 297 (pureP G297)) (q298:PrOk S 298 (pureP G298)) (q299:PrOk S 299 (pureP G299)) (q300:PrOk S 300 (pureP G300)) (h266:S.has 266 f266) (l:List (List UInt8×Int)) (w0:List UInt8) (w1:Int) (hl0:l.length≤1048576) (hs0:∀ x∈l,x.1.length≤1048576) (hw0:w0.length≤1048576):MF S 266 [] [den0 (.one (.row (.pair .str (.int .i64)) l)),den0 (.agg [.str w0,.int .i64 w1])] (hl []) fun v _=>v=.one (.bool true):=
  mfM hB [] [⟨293,G293,K293⟩,⟨294,G294,K294⟩,⟨295,G295,K295⟩,⟨291,G291,K291⟩,⟨296,G296,K296⟩,⟨297,G297,K297⟩,⟨298,G298,K298⟩,⟨299,G299,K299⟩,⟨300,G300,K300⟩] trivial ⟨⟨q293,K293_ok⟩,⟨q294,K294_ok⟩,⟨q295,K295_ok⟩,⟨q291,K291_ok⟩,⟨q296,K296_ok⟩,⟨q297,K297_ok⟩,⟨q298,K298_ok⟩,⟨q299,K299_ok⟩,⟨q300,K300_ok⟩,trivial⟩ h266 (v:=.one .tt) (xs:=[.one (.row (.pair .str (.int .i64)) l),.agg [.str w0,.int .i64 w1]]) rfl rfl rfl (fun _ _ _ _=>none) 2000 (VC.use (p:=
    (((!true)=true →
      (false=true)) ∧
    (¬(!true) = true →
     ((l.length≤4194304) ∧
     ((∀ (x:List UInt8×Int),x∈l→x.fst.length≤1099511627776) ∧
     ((decide (500 < l.length∨8000 < lenL l)=true →
       True) ∧
     (¬decide (500 < l.length ∨ 8000 < lenL l) = true →
      ((3000 < (↑w0.length:Int) →
        True) ∧
      (¬3000 < (↑w0.length : Int) →
       ((l.length≤1099511627776) ∧
       ((SmW l) ∧
       ((l.length≤1099511627776) ∧
       ((SmW l) ∧
       ((l.length≤1099511627776) ∧
       ((SmW l) ∧
       ((l.length≤1099511627776) ∧
       ((SmW l) ∧
       ((isE l=isE l →
         ((w0.length≤1099511627776) ∧
         ((w0.length≤1099511627776) ∧
         ((wE (w0,w1)=wE (w0,w1) →
           (((norO l).length≤1099511627776) ∧
           (((norO l).length≤1099511627776) ∧
           ((sameW (norO l) (norO l)=true →
             (decide (norE l=norE l)=true)) ∧
           (¬sameW (norO l) (norO l) = true →
            (false=true)))))) ∧
         (¬wE (w0, w1) = wE (w0, w1) →
          (false=true)))))) ∧
       (¬isE l = isE l →
        (false=true)))))))))))))))))))) (by kernel_rfl) (by
    have hw:∀ x∈l,x.1.length≤1099511627776:=fun x hx=>Nat.le_trans (hs0 x hx) (by decide)
    have hn:(norO l).length≤1099511627776:=by
      have:=len_normV l
      unfold norO
      split
      · omega
      · exact Nat.zero_le _
    have q:l.length≤1099511627776:=by omega
    have qw:w0.length≤1099511627776:=by omega
    refine ⟨fun h=>(by cases h),fun _=>⟨by omega,hw,fun _=>by trivial,fun _=>⟨fun _=>by trivial,fun _=>⟨q,hw,q,hw,q,hw,q,hw,fun _=>⟨qw,qw,fun _=>⟨hn,hn,fun _=>decide_eq_true rfl,fun h=>absurd (decide_eq_true rfl) h⟩,fun h=>absurd rfl h⟩,fun h=>absurd rfl h⟩⟩⟩⟩))
end Go.EA
