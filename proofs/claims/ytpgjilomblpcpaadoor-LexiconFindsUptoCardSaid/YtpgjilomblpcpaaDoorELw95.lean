/- Layer 9: the law how frequent words are, where those stand that begin so, the most frequent ones. Conditions: none. (Printed by a program of this project's own.) -/
import Derived.Test.YtpgjilomblpcpaaDoorELx6
import Derived.KernelRfl
set_option linter.unusedVariables false
set_option linter.unusedSimpArgs false
set_option maxRecDepth 100000
set_option maxHeartbeats 0
namespace Go.EA
open F
theorem w275 {S:SC} (hB:SB S) (q293:PrOk S 293 (pureP G293)) (q294:PrOk S 294 (pureP G294)) (q291:PrOk S 291 (pureP G291)) (q303:PrOk S 303 (pureP G303)) (q308:PrOk S 308 (pureP G308)) (q305:PrOk S 305 (pureP G305)) (q309:PrOk S 309 (pureP G309)) (q307:PrOk S 307 (pureP G307)) (q310:PrOk S 310 (pureP G310)) (q300:PrOk S 300 (pureP G300)) (h275:S.has 275 f275) (q0:List (List UInt8×Int)) (q1:List UInt8) (q2:Int) (q3:Bool) (hl0:q0.length≤1048576) (hs0:∀ x∈q0,x.1.length≤1048576) (hw0:q1.length≤1048576):MF S 275 [] [den0 (.agg [.row (.pair .str (.int .i64)) q0,.str q1,.int .i64 q2,.bool q3])] (hl []) fun v _=>v=.one (.bool true):=
  mfM hB [] [⟨293,G293,K293⟩,⟨294,G294,K294⟩,⟨291,G291,K291⟩,⟨303,G303,K303⟩,⟨308,G308,K308⟩,⟨305,G305,K305⟩,⟨309,G309,K309⟩,⟨307,G307,K307⟩,⟨310,G310,K310⟩,⟨300,G300,K300⟩] trivial ⟨⟨q293,K293_ok⟩,⟨q294,K294_ok⟩,⟨q291,K291_ok⟩,⟨q303,K303_ok⟩,⟨q308,K308_ok⟩,⟨q305,K305_ok⟩,⟨q309,K309_ok⟩,⟨q307,K307_ok⟩,⟨q310,K310_ok⟩,⟨q300,K300_ok⟩,trivial⟩ h275 (v:=.one .tt) (xs:=[.agg [.row (.pair .str (.int .i64)) q0,.str q1,.int .i64 q2,.bool q3]]) rfl rfl rfl (fun _ _ _ _=>none) 2000 (VC.use (p:=
    (((!true)=true →
      (false=true)) ∧
    (¬(!true) = true →
     ((q0.length≤4194304) ∧
     ((∀ (x:List UInt8×Int),x∈q0→x.fst.length≤1099511627776) ∧
     ((decide (500 < q0.length∨8000 < lenL q0)=true →
       True) ∧
     (¬decide (500 < q0.length ∨ 8000 < lenL q0) = true →
      ((1000 < (↑q1.length:Int) →
        True) ∧
      (¬1000 < (↑q1.length : Int) →
       ((q3=true →
         ((q0.length≤1099511627776) ∧
         ((SmW q0) ∧
         (((norO q0).length≤1099511627776) ∧
         ((SmW (norO q0)) ∧
         (((norO q0).length≤1099511627776) ∧
         ((SmW (norO q0)) ∧
         (((norO q0).length≤1099511627776) ∧
         ((SmW (norO q0)) ∧
         (((norO q0).length≤1099511627776) ∧
         ((SmW (norO q0)) ∧
         (((norO q0).length≤1099511627776) ∧
         ((SmW (norO q0)) ∧
         (((norO q0).length≤1099511627776) ∧
         ((SmW (norO q0)) ∧
         ((fndV (norO q0) q1=fndV (norO q0) q1 →
           ((fndE (norO q0) q1=fndE (norO q0) q1 →
             ((begA (norO q0) q1=begA (norO q0) q1 →
               ((begB (norO q0) q1=begB (norO q0) q1 →
                 ((isE (norO q0)=isE (norO q0) →
                   (((bstO (norO q0) q2).length≤1099511627776) ∧
                   (((bstO (norO q0) q2).length≤1099511627776) ∧
                   ((sameW (bstO (norO q0) q2) (bstO (norO q0) q2)=true →
                     (decide (bstE (norO q0) q2=bstE (norO q0) q2)=true)) ∧
                   (¬sameW (bstO (norO q0) q2) (bstO (norO q0) q2) = true →
                    (false=true)))))) ∧
                 (¬isE (norO q0) = isE (norO q0) →
                  (false=true)))) ∧
               (¬begB (norO q0) q1 = begB (norO q0) q1 →
                (false=true)))) ∧
             (¬begA (norO q0) q1 = begA (norO q0) q1 →
              (false=true)))) ∧
           (¬fndE (norO q0) q1 = fndE (norO q0) q1 →
            (false=true)))) ∧
         (¬fndV (norO q0) q1 = fndV (norO q0) q1 →
          (false=true)))))))))))))))))) ∧
       (¬q3 = true →
        ((q0.length≤1099511627776) ∧
        ((SmW q0) ∧
        ((q0.length≤1099511627776) ∧
        ((SmW q0) ∧
        ((q0.length≤1099511627776) ∧
        ((SmW q0) ∧
        ((q0.length≤1099511627776) ∧
        ((SmW q0) ∧
        ((q0.length≤1099511627776) ∧
        ((SmW q0) ∧
        ((q0.length≤1099511627776) ∧
        ((SmW q0) ∧
        ((fndV q0 q1=fndV q0 q1 →
          ((fndE q0 q1=fndE q0 q1 →
            ((begA q0 q1=begA q0 q1 →
              ((begB q0 q1=begB q0 q1 →
                ((isE q0=isE q0 →
                  (((bstO q0 q2).length≤1099511627776) ∧
                  (((bstO q0 q2).length≤1099511627776) ∧
                  ((sameW (bstO q0 q2) (bstO q0 q2)=true →
                    (decide (bstE q0 q2=bstE q0 q2)=true)) ∧
                  (¬sameW (bstO q0 q2) (bstO q0 q2) = true →
                   (false=true)))))) ∧
                (¬isE q0 = isE q0 →
                 (false=true)))) ∧
              (¬begB q0 q1 = begB q0 q1 →
               (false=true)))) ∧
            (¬begA q0 q1 = begA q0 q1 →
             (false=true)))) ∧
          (¬fndE q0 q1 = fndE q0 q1 →
           (false=true)))) ∧
        (¬fndV q0 q1 = fndV q0 q1 →
         (false=true)))))))))))))))))))))))))) (by kernel_rfl) (by
    have hw:∀ x∈q0,x.1.length≤1099511627776:=fun x hx=>Nat.le_trans (hs0 x hx) (by decide)
    have q:q0.length≤1099511627776:=by omega
    have hn:(norO q0).length≤1099511627776:=by
      have:=len_normV q0
      unfold norO
      split
      · omega
      · exact Nat.zero_le _
    have hm:SmW (norO q0):=by
      unfold norO
      split
      · exact fun x hx=>Nat.le_trans (SmW.norm hs0 x hx) (by decide)
      · exact fun x hx=>by cases hx
    have hb:∀ l:List Wd,l.length≤1099511627776→(bstO l q2).length≤1099511627776:=fun l hl=>by
      unfold bstO
      split
      · have:=(srtB_perm l).length_eq
        rw [List.length_take]
        omega
      · exact Nat.zero_le _
    have ab:∀ {p:Prop} {a b:Int},a=b→¬ a=b→p:=fun h h'=>absurd h h'
    refine ⟨fun h=>(by cases h),fun _=>⟨by omega,hw,fun _=>by trivial,fun _=>⟨fun _=>by trivial,fun _=>⟨fun _=>?_,fun _=>?_⟩⟩⟩⟩
    · refine ⟨q,hw,hn,hm,hn,hm,hn,hm,hn,hm,hn,hm,hn,hm,fun _=>⟨fun _=>⟨fun _=>⟨fun _=>⟨fun _=>⟨hb _ hn,hb _ hn,fun _=>decide_eq_true rfl,fun h=>absurd (decide_eq_true rfl) h⟩,ab rfl⟩,ab rfl⟩,ab rfl⟩,ab rfl⟩,ab rfl⟩
    · refine ⟨q,hw,q,hw,q,hw,q,hw,q,hw,q,hw,fun _=>⟨fun _=>⟨fun _=>⟨fun _=>⟨fun _=>⟨hb _ q,hb _ q,fun _=>decide_eq_true rfl,fun h=>absurd (decide_eq_true rfl) h⟩,ab rfl⟩,ab rfl⟩,ab rfl⟩,ab rfl⟩,ab rfl⟩))
end Go.EA
