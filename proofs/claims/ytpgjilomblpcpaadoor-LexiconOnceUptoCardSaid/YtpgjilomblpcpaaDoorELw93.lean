/- Layer 9: the law that normal words are normal. Conditions: none. (Printed by a program of this project's own.) -/
import Derived.Test.YtpgjilomblpcpaaDoorELx2
import Derived.Test.YtpgjilomblpcpaaDoorENr3
import Derived.KernelRfl
set_option linter.unusedVariables false
set_option linter.unusedSimpArgs false
set_option maxRecDepth 100000
set_option maxHeartbeats 0
namespace Go.EA
open F
theorem w267 {S:SC} (hB:SB S) (q293:PrOk S 293 (pureP G293)) (q294:PrOk S 294 (pureP G294)) (q295:PrOk S 295 (pureP G295)) (q296:PrOk S 296 (pureP G296)) (q300:PrOk S 300 (pureP G300)) (h267:S.has 267 f267) (l:List (List UInt8×Int)) (t:Int) (hl0:l.length≤1048576) (hs0:∀ x∈l,x.1.length≤1048576) (ht0:0≤t∧t≤65535):MF S 267 [] [den0 (.one (.row (.pair .str (.int .i64)) l)),den0 (.one (.int .u16 t))] (hl []) fun v _=>v=.one (.bool true):=
  mfM hB [] [⟨293,G293,K293⟩,⟨294,G294,K294⟩,⟨295,G295,K295⟩,⟨296,G296,K296⟩,⟨300,G300,K300⟩] trivial ⟨⟨q293,K293_ok⟩,⟨q294,K294_ok⟩,⟨q295,K295_ok⟩,⟨q296,K296_ok⟩,⟨q300,K300_ok⟩,trivial⟩ h267 (v:=.one .tt) (xs:=[.one (.row (.pair .str (.int .i64)) l),.one (.int .u16 t)]) rfl rfl rfl (fun _ _ _ _=>none) 2000 (VC.use (p:=
    (((!true)=true →
      (false=true)) ∧
    (¬(!true) = true →
     ((l.length≤4194304) ∧
     ((∀ (x:List UInt8×Int),x∈l→x.fst.length≤1099511627776) ∧
     ((decide (500 < l.length∨8000 < lenL l)=true →
       True) ∧
     (¬decide (500 < l.length ∨ 8000 < lenL l) = true →
      ((l.length≤1099511627776) ∧
      ((SmW l) ∧
      ((norE l=0 →
        ((i64R t) ∧
        ((i64R ((↑l.length:Int)+1)) ∧
        (((↑l.length:Int)+1≠0) ∧
        (((0 ≤ t.tmod ((↑l.length : Int) + 1) ∧ t.tmod ((↑l.length : Int) + 1) ≤ (↑l.length : Int)) ∧
         (((0+(cutR l (some (t.tmod ((↑l.length:Int)+1))) none).length)*24≤140737488355328) ∧
         ((0≤t.tmod ((↑l.length:Int)+1)∧t.tmod ((↑l.length:Int)+1)≤(↑l.length:Int)) ∧
         (((([]++cutR l (some (t.tmod ((↑l.length:Int)+1))) none).length+(cutR l none (some (t.tmod ((↑l.length:Int)+1)))).length)*24≤140737488355328) ∧
         ((([]++cutR l (some (t.tmod ((↑l.length:Int)+1))) none++cutR l none (some (t.tmod ((↑l.length:Int)+1)))).length≤1099511627776) ∧
         ((SmW ([]++cutR l (some (t.tmod ((↑l.length:Int)+1))) none++cutR l none (some (t.tmod ((↑l.length:Int)+1))))) ∧
         (((norO l).length≤1099511627776) ∧
         ((SmW (norO l)) ∧
         (((norO l).length≤1099511627776) ∧
         ((SmW (norO l)) ∧
         ((isE (norO l)=0 →
           ((norE ([]++cutR l (some (t.tmod ((↑l.length:Int)+1))) none++cutR l none (some (t.tmod ((↑l.length:Int)+1))))=0 →
             ((norE (norO l)=0 →
               (((norO l).length≤1099511627776) ∧
               (((norO ([]++cutR l (some (t.tmod ((↑l.length:Int)+1))) none++cutR l none (some (t.tmod ((↑l.length:Int)+1))))).length≤1099511627776) ∧
               ((sameW (norO l) (norO ([]++cutR l (some (t.tmod ((↑l.length:Int)+1))) none++cutR l none (some (t.tmod ((↑l.length:Int)+1)))))=true →
                 (((norO l).length≤1099511627776) ∧
                 (((norO (norO l)).length≤1099511627776) ∧
                 (sameW (norO l) (norO (norO l))=true)))) ∧
               (¬sameW (norO l) (norO ([] ++ cutR l (some (t.tmod ((↑l.length : Int) + 1))) none ++ cutR l none (some (t.tmod ((↑l.length : Int) + 1))))) = true →
                (false=true)))))) ∧
             (¬norE (norO l) = 0 →
              (false=true)))) ∧
           (¬norE ([] ++ cutR l (some (t.tmod ((↑l.length : Int) + 1))) none ++ cutR l none (some (t.tmod ((↑l.length : Int) + 1)))) = 0 →
            (false=true)))) ∧
         (¬isE (norO l) = 0 →
          (false=true))))))))))))) ∧
        ((0≤t.tmod ((↑l.length:Int)+1)∧t.tmod ((↑l.length:Int)+1)≤(↑l.length:Int)) ∧
        ((0≤t.tmod ((↑l.length:Int)+1)∧t.tmod ((↑l.length:Int)+1)≤(↑l.length:Int)) ∧
        (((0+(cutR l (some (t.tmod ((↑l.length:Int)+1))) none).length)*24≤140737488355328) ∧
        (((([]++cutR l (some (t.tmod ((↑l.length:Int)+1))) none).length+(cutR l none (some (t.tmod ((↑l.length:Int)+1)))).length)*24≤140737488355328) ∧
        ((([]++cutR l (some (t.tmod ((↑l.length:Int)+1))) none++cutR l none (some (t.tmod ((↑l.length:Int)+1)))).length≤1099511627776) ∧
        ((SmW ([]++cutR l (some (t.tmod ((↑l.length:Int)+1))) none++cutR l none (some (t.tmod ((↑l.length:Int)+1))))) ∧
        (((norO l).length≤1099511627776) ∧
        ((SmW (norO l)) ∧
        (((norO l).length≤1099511627776) ∧
        ((SmW (norO l)) ∧
        ((isE (norO l)=0 →
          ((norE ([]++cutR l (some (t.tmod ((↑l.length:Int)+1))) none++cutR l none (some (t.tmod ((↑l.length:Int)+1))))=0 →
            ((norE (norO l)=0 →
              (((norO l).length≤1099511627776) ∧
              (((norO ([]++cutR l (some (t.tmod ((↑l.length:Int)+1))) none++cutR l none (some (t.tmod ((↑l.length:Int)+1))))).length≤1099511627776) ∧
              ((sameW (norO l) (norO ([]++cutR l (some (t.tmod ((↑l.length:Int)+1))) none++cutR l none (some (t.tmod ((↑l.length:Int)+1)))))=true →
                (((norO l).length≤1099511627776) ∧
                (((norO (norO l)).length≤1099511627776) ∧
                (sameW (norO l) (norO (norO l))=true)))) ∧
              (¬sameW (norO l) (norO ([] ++ cutR l (some (t.tmod ((↑l.length : Int) + 1))) none ++ cutR l none (some (t.tmod ((↑l.length : Int) + 1))))) = true →
               (false=true)))))) ∧
            (¬norE (norO l) = 0 →
             (false=true)))) ∧
          (¬norE ([] ++ cutR l (some (t.tmod ((↑l.length : Int) + 1))) none ++ cutR l none (some (t.tmod ((↑l.length : Int) + 1)))) = 0 →
           (false=true)))) ∧
        (¬isE (norO l) = 0 →
         (false=true)))))))))))))))))) ∧
      (¬norE l = 0 →
       (((↑(norO l).length:Int)=0 →
         ((l.length≤1099511627776) ∧
         ((SmW l) ∧
         ((!decide (isE l=0))=true)))) ∧
       (¬(↑(norO l).length : Int) = 0 →
        (false=true)))))))))))))) (by kernel_rfl) (by
    have hw:∀ x∈l,x.1.length≤1099511627776:=fun x hx=>Nat.le_trans (hs0 x hx) (by decide)
    refine ⟨fun h=>(by cases h),fun _=>⟨by omega,hw,fun _=>by trivial,fun _=>⟨by omega,hw,fun he=>?_,fun he=>⟨fun _=>⟨by omega,hw,by simpa using nor_not he⟩,fun h=>absurd (by
      unfold norO;rw [if_neg he];rfl) h⟩⟩⟩⟩
    have k0:0≤t.tmod ((l.length:Int)+1):=Int.tmod_nonneg _ ht0.1
    have k1:t.tmod ((l.length:Int)+1) < (l.length:Int)+1:=Int.tmod_lt_of_pos _ (by omega)
    generalize t.tmod ((l.length:Int)+1)=k at k0 k1 ⊢
    have hp:=rot_perm l k
    have hrl:=hp.length_eq
    obtain ⟨e1,e2,e3⟩:=nor_zero he
    obtain ⟨p1,p2⟩:=nor_perm hp e2
    obtain ⟨p3,p4⟩:=nor_of_zero p1 p2 he
    have hself:=normV_self (normV_ris l)
    have q0:normV (norO l)=normV l:=by rw [e1];exact hself
    have q1:errL (norO l)=0:=by rw [e1];exact errL_normV e2
    obtain ⟨q3,q4⟩:=nor_of_zero q0 q1 he
    have hlen:=len_normV l
    have hnl:(norO l).length≤1099511627776:=by rw [e1];omega
    have hsm:SmW (norO l):=by rw [e1];exact fun x hx=>Nat.le_trans (SmW.norm hs0 x hx) (by decide)
    have hsr:SmW (rotW l k):=fun x hx=>hw x (hp.mem_iff.1 hx)
    have c1:(cutR l (some k) none).length≤l.length:=by show (l.drop _).length≤_;rw [List.length_drop];omega
    have c2:(cutR l none (some k)).length≤l.length:=by show (l.take _).length≤_;rw [List.length_take];omega
    have c3:([]++cutR l (some k) none).length≤l.length:=by rw [List.nil_append];exact c1
    have same:sameW (norO l) (norO (rotW l k))=true:=by rw [p4];exact decide_eq_true rfl
    have same2:sameW (norO l) (norO (norO l))=true:=by rw [q4];exact decide_eq_true rfl
    have hrn:(norO (rotW l k)).length≤1099511627776:=by rw [p4];exact hnl
    have hrr:(norO (norO l)).length≤1099511627776:=by rw [q4];exact hnl
    have hio:isE (norO l)=0:=by rw [e1];exact e3
    have fin:((rotW l k).length≤1099511627776)∧(SmW (rotW l k))∧((norO l).length≤1099511627776)∧(SmW (norO l))∧((norO l).length≤1099511627776)∧(SmW (norO l))∧(isE (norO l)=0→(norE (rotW l k)=0→(norE (norO l)=0→(norO l).length≤1099511627776∧(norO (rotW l k)).length≤1099511627776∧(sameW (norO l) (norO (rotW l k))=true→(norO l).length≤1099511627776∧(norO (norO l)).length≤1099511627776∧sameW (norO l) (norO (norO l))=true)∧(¬sameW (norO l) (norO (rotW l k))=true→false=true))∧(¬norE (norO l)=0→false=true))∧(¬norE (rotW l k)=0→false=true))∧(¬isE (norO l)=0→false=true):=
      ⟨by omega,hsr,hnl,hsm,hnl,hsm,fun _=>⟨fun _=>⟨fun _=>⟨hnl,hrn,fun _=>⟨hnl,hrr,same2⟩,fun h=>absurd same h⟩,fun h=>absurd q3 h⟩,fun h=>absurd p3 h⟩,fun h=>absurd hio h⟩
    refine ⟨by unfold i64R;omega,by unfold i64R;omega,by omega,⟨by omega,by omega,by omega,by omega,fin⟩,by omega,by omega,by omega,by omega,fin⟩))
end Go.EA
