/- Layer 9: the law of those that begin so. Conditions: none. (Printed by a program of this project's own.) -/
import Derived.Test.YtpgjilomblpcpaaDoorELx2
import Derived.Test.YtpgjilomblpcpaaDoorENr3
import Derived.KernelRfl
set_option linter.unusedVariables false
set_option linter.unusedSimpArgs false
set_option maxRecDepth 100000
set_option maxHeartbeats 0
namespace Go.EA
open F
theorem w272 {S:SC} (hB:SB S) (q293:PrOk S 293 (pureP G293)) (q294:PrOk S 294 (pureP G294)) (q295:PrOk S 295 (pureP G295)) (q305:PrOk S 305 (pureP G305)) (q65:PrOk S 65 (pureP G65)) (h272:S.has 272 f272) (l:List (List UInt8×Int)) (s:List UInt8) (b:Int) (hl0:l.length≤1048576) (hs0:∀ x∈l,x.1.length≤1048576) (hs1:s.length≤1048576):MF S 272 [] [den0 (.one (.row (.pair .str (.int .i64)) l)),den0 (.one (.str s)),den0 (.one (.int .u8 b))] (hl []) fun v _=>v=.one (.bool true):=
  mfM hB [] [⟨293,G293,K293⟩,⟨294,G294,K294⟩,⟨295,G295,K295⟩,⟨305,G305,K305⟩,⟨65,G65,K65⟩] trivial ⟨⟨q293,K293_ok⟩,⟨q294,K294_ok⟩,⟨q295,K295_ok⟩,⟨q305,K305_ok⟩,⟨q65,K65_ok⟩,trivial⟩ h272 (v:=.one .tt) (xs:=[.one (.row (.pair .str (.int .i64)) l),.one (.str s),.one (.int .u8 b)]) rfl rfl rfl (fun f id T L=>match f,id with
      | 272,0=>match T.getD 7 .junk with | .one (.row (.pair .str (.int .i64)) a)=>some (.inv { i:Nat // i≤a.length } (fun x=>([(91,.one (.int .i64 x.1))],[])) (fun x=>a.length - x.1)) | _=>none
      | _,_=>none) 2000 (VC.use (p:=
    (((!true)=true →
      (false=true)) ∧
    (¬(!true) = true →
     ((l.length≤1099511627776) ∧
     ((SmW l) ∧
     ((l.length≤4194304) ∧
     ((∀ (x:List UInt8×Int),x∈l→x.fst.length≤1099511627776) ∧
     ((decide (500 < l.length∨8000 < lenL l)=true →
       True) ∧
     (¬decide (500 < l.length ∨ 8000 < lenL l) = true →
      ((1000 < (↑s.length:Int) →
        True) ∧
      (¬1000 < (↑s.length : Int) →
       ((norE l=0 →
         (((norO l).length≤1099511627776) ∧
         ((SmW (norO l)) ∧
         ((s.length+(List.map (fun z=>UInt8.ofNat (Int.toNat z)) [b]).length≤9223372036854775807) ∧
         (((norO l).length≤1099511627776) ∧
         ((SmW (norO l)) ∧
         ((isE (norO l)=0 →
           ((isE (norO l)=0 →
             ((begA (norO l) s < 0 →
               (false=true)) ∧
             (¬begA (norO l) s < 0 →
              ((begB (norO l) s < begA (norO l) s →
                (false=true)) ∧
              (¬begB (norO l) s < begA (norO l) s →
               (((↑(norO l).length:Int) < begB (norO l) s →
                 (false=true)) ∧
               (¬(↑(norO l).length : Int) < begB (norO l) s →
                ((begB (norO l) (s++List.map (fun z=>UInt8.ofNat (Int.toNat z)) [b]) < begA (norO l) (s++List.map (fun z=>UInt8.ofNat (Int.toNat z)) [b]) →
                  (false=true)) ∧
                (¬begB (norO l) (s ++ List.map (fun z => UInt8.ofNat (Int.toNat z)) [b]) < begA (norO l) (s ++ List.map (fun z => UInt8.ofNat (Int.toNat z)) [b]) →
                 ((begA (norO l) (s++List.map (fun z=>UInt8.ofNat (Int.toNat z)) [b]) < begA (norO l) s →
                   (false=true)) ∧
                 (¬begA (norO l) (s ++ List.map (fun z => UInt8.ofNat (Int.toNat z)) [b]) < begA (norO l) s →
                  ((begB (norO l) s < begB (norO l) (s++List.map (fun z=>UInt8.ofNat (Int.toNat z)) [b]) →
                    (false=true)) ∧
                  (¬begB (norO l) s < begB (norO l) (s ++ List.map (fun z => UInt8.ofNat (Int.toNat z)) [b]) →
                   ((∃ x1:{ i:Nat // i≤(norO l).length },
                     ((s=s) ∧
                     ((begA (norO l) s=begA (norO l) s) ∧
                     ((begB (norO l) s=begB (norO l) s) ∧
                     ((norO l=norO l) ∧
                     (((↑(norO l).length:Int)=(↑(norO l).length:Int)) ∧
                     ((0=(↑x1.val:Int)) ∧
                     ([b]=[b])))))))) ∧
                   (∀ x1 : { i : Nat // i ≤ (norO l).length },
                    (((↑x1.val:Int) < (↑(norO l).length:Int) →
                      ((0≤(↑x1.val:Int)∧(↑x1.val:Int) < (↑(norO l).length:Int)) ∧
                      ((begA (norO l) s≤(↑x1.val:Int) →
                        (((!decide (preB ((norO l).getD x1.val ([],0)).fst s=decide ((↑x1.val:Int) < begB (norO l) s)))=true →
                          (false=true)) ∧
                        (¬(!decide (preB ((norO l).getD x1.val ([], 0)).fst s = decide ((↑x1.val : Int) < begB (norO l) s))) = true →
                         ((i64R ((↑x1.val:Int)+1)) ∧
                         (∃ x2 : { i : Nat // i ≤ (norO l).length },
                          (((norO l).length - x2.val < (norO l).length - x1.val) ∧
                          ((s=s) ∧
                          ((begA (norO l) s=begA (norO l) s) ∧
                          ((begB (norO l) s=begB (norO l) s) ∧
                          ((norO l=norO l) ∧
                          (((↑(norO l).length:Int)=(↑(norO l).length:Int)) ∧
                          (((↑x1.val:Int)+1=(↑x2.val:Int)) ∧
                          ([b]=[b]))))))))))))) ∧
                      (¬begA (norO l) s ≤ (↑x1.val : Int) →
                       (((!decide (preB ((norO l).getD x1.val ([],0)).fst s=false))=true →
                         (false=true)) ∧
                       (¬(!decide (preB ((norO l).getD x1.val ([], 0)).fst s = false)) = true →
                        ((i64R ((↑x1.val:Int)+1)) ∧
                        (∃ x2 : { i : Nat // i ≤ (norO l).length },
                         (((norO l).length - x2.val < (norO l).length - x1.val) ∧
                         ((s=s) ∧
                         ((begA (norO l) s=begA (norO l) s) ∧
                         ((begB (norO l) s=begB (norO l) s) ∧
                         ((norO l=norO l) ∧
                         (((↑(norO l).length:Int)=(↑(norO l).length:Int)) ∧
                         (((↑x1.val:Int)+1=(↑x2.val:Int)) ∧
                         ([b]=[b])))))))))))))))) ∧
                    (¬(↑x1.val : Int) < (↑(norO l).length : Int) →
                     True))))))))))))))))) ∧
           (¬isE (norO l) = 0 →
            (false=true)))) ∧
         (¬isE (norO l) = 0 →
          (false=true))))))))) ∧
       (¬norE l = 0 →
        True))))))))))))) (by kernel_rfl) (by
    have hw:∀ x∈l,x.1.length≤1099511627776:=fun x hx=>Nat.le_trans (hs0 x hx) (by decide)
    refine ⟨fun h=>(by cases h),fun _=>⟨by omega,hw,by omega,hw,fun _=>by trivial,fun _=>⟨fun _=>by trivial,fun hs=>⟨fun he=>?_,fun _=>by trivial⟩⟩⟩⟩
    obtain ⟨e1,e2,e3⟩:=nor_zero he
    rw [e1]
    have hlen:=len_normV l
    have hr:=(isE_zero.1 e3).2.1
    have hsm:SmW (normV l):=fun x hx=>Nat.le_trans (SmW.norm hs0 x hx) (by decide)
    have go:∀ t:List UInt8,0≤begA (normV l) t:=fun t=>by rw [(beg_zero e3 t).1];omega
    have hb:=fun t=>beg_zero e3 t
    have hsp:=fun t=>endN_spec (normV l) t
    refine ⟨by omega,hsm,by simp only [List.map_cons,List.map_nil,List.length_cons,List.length_nil];omega,by omega,hsm,fun _=>⟨fun _=>⟨fun h=>absurd h (by have:=go s;omega),fun _=>⟨fun h=>?_,fun _=>⟨fun h=>?_,fun _=>⟨fun h=>?_,fun _=>⟨fun h=>?_,fun _=>⟨fun h=>?_,fun _=>⟨⟨⟨0,Nat.zero_le _⟩,rfl,rfl,rfl,rfl,rfl,rfl,rfl⟩,?_⟩⟩⟩⟩⟩⟩⟩,fun h=>absurd e3 h⟩,fun h=>absurd e3 h⟩
    · rw [(hb _).1,(hb _).2] at h;have:=(hsp s).1;omega
    · rw [(hb _).2] at h;have:=(hsp s).2.1;omega
    · rw [(hb _).1,(hb _).2] at h;have:=(hsp (s++List.map (fun z=>UInt8.ofNat (Int.toNat z)) [b])).1;omega
    · rw [(hb _).1,(hb _).1] at h;have:=pos_more hr s (List.map (fun z=>UInt8.ofNat (Int.toNat z)) [b]);omega
    · rw [(hb _).2,(hb _).2] at h;have:=end_more hr s (List.map (fun z=>UInt8.ofNat (Int.toNat z)) [b]);omega
    rintro ⟨i,hi⟩
    dsimp only
    rw [(hb s).1,(hb s).2]
    refine ⟨fun h=>⟨by omega,fun h1=>⟨fun h2=>?_,fun _=>⟨by unfold i64R;omega,⟨i+1,by omega⟩,by show (normV l).length - (i+1) < (normV l).length - i;omega,rfl,rfl,rfl,rfl,rfl,rfl,rfl⟩⟩,fun h1=>⟨fun h2=>?_,fun _=>⟨by unfold i64R;omega,⟨i+1,by omega⟩,by show (normV l).length - (i+1) < (normV l).length - i;omega,rfl,rfl,rfl,rfl,rfl,rfl,rfl⟩⟩⟩,fun _=>by trivial⟩
    · exfalso
      have e:preB ((normV l).getD i ([],0)).1 s=decide ((i:Int) < endN (normV l) s):=by
        rw [Bool.eq_iff_iff,pre_iff hr (by omega),decide_eq_true_eq]
        omega
      rw [e] at h2
      simp at h2
    · exfalso
      have e:preB ((normV l).getD i ([],0)).1 s=false:=by
        rw [Bool.eq_false_iff,Ne,pre_iff hr (by omega)]
        omega
      rw [e] at h2
      simp at h2))
end Go.EA
