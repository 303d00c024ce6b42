/- Layer 15: laws (the first ones of the first ones; nothing; places). Conditions: none. (Printed by a program of this project's own.) -/
import Derived.Test.YtfkejbbajggmnaaDoorERc3
import Derived.KernelRfl
set_option linter.unusedVariables false
set_option linter.unusedSimpArgs false
set_option maxRecDepth 100000
set_option maxHeartbeats 0
namespace Go.EA
open F
theorem topE_zero {l:List Cd} {k:Int} (hk:0≤k∧k≤1000):topE l k=0↔errC l=0:=by
  unfold topE
  split
  · rename_i h
    rw [if_neg (by omega)]
    exact ⟨fun _=>h,fun _=>rfl⟩
  · exact Iff.rfl
theorem topO_eq {l:List Cd} {k:Int} (hk:0≤k∧k≤1000) (he:errC l=0):topO l k=(allC l).take k.toNat:=(top_of he (by omega)).1
theorem plcE_has {l:List Cd} (he:errC l=0) (s:List UInt8):decide (plcE l s=0)=hasK (allC l) s∧(¬ hasK (allC l) s=true→plcE l s=10):=by
  cases h:posK (allC l) s with
  | some i=>
    have h1:=posK_has.2 ⟨i,h⟩
    have h2:=(plc_some he h).2
    rw [h1,← h2]
    exact ⟨rfl,fun h=>absurd rfl h⟩
  | none=>
    have h1:hasK (allC l) s=false:=Bool.eq_false_iff.2 fun e=>by
      obtain ⟨i,hi⟩:=posK_has.1 e
      rw [h] at hi;cases hi
    have h2:=(plc_none he h).2
    rw [h1,← h2]
    exact ⟨rfl,fun _=>rfl⟩
theorem w373 {S:SC} (hB:SB S) (q377:PrOk S 377 (pureP G377)) (q378:PrOk S 378 (pureP G378)) (q379:PrOk S 379 (pureP G379)) (q382:PrOk S 382 (pureP G382)) (h373:S.has 373 f373) (l:List (List UInt8×Int×Int)) (s:List UInt8) (hl0:l.length≤1048576) (hs0:∀ x∈l,x.1.length≤1048576):MF S 373 [] [den0 (.one (.row (.pair .str (.pair (.int .i64) (.int .i64))) l)),den0 (.one (.str s))] (hl []) fun v _=>v=.one (.bool true):=
  mfM hB [] [⟨377,G377,K377⟩,⟨378,G378,K378⟩,⟨379,G379,K379⟩,⟨382,G382,K382⟩] trivial ⟨⟨q377,K377_ok⟩,⟨q378,K378_ok⟩,⟨q379,K379_ok⟩,⟨q382,K382_ok⟩,trivial⟩ h373 (v:=.one .tt) (xs:=[.one (.row (.pair .str (.pair (.int .i64) (.int .i64))) l),.one (.str s)]) rfl rfl rfl (fun f id T L=>match f,id with
      | 373,0=>some (.inv { i:Nat // i≤(topO l 1000).length } (fun x=>([(32,.one (.int .i64 x.1)),(7,.one (.bool (hasK ((topO l 1000).take x.1) s)))],[])) (fun x=>(topO l 1000).length - x.1))
      | _,_=>none) 3000 (VC.use (p:=
    (((!true)=true →
      (false=true)) ∧
    (¬(!true) = true →
     ((l.length≤4194304) ∧
     ((∀ (x:List UInt8×Int×Int),x∈l→x.fst.length≤1099511627776) ∧
     ((decide (200 < l.length∨4000 < lenC l)=true →
       True) ∧
     (¬decide (200 < l.length ∨ 4000 < lenC l) = true →
      ((500 < (↑s.length:Int) →
        True) ∧
      (¬500 < (↑s.length : Int) →
       ((l.length≤1099511627776) ∧
       ((SmC l) ∧
       ((topE l 1000=0 →
         ((∃ x1:{ i:Nat // i≤(topO l 1000).length },
           ((l=l) ∧
           ((s=s) ∧
           ((false=hasK (List.take x1.val (topO l 1000)) s) ∧
           ((topO l 1000=topO l 1000) ∧
           (((↑(topO l 1000).length:Int)=(↑(topO l 1000).length:Int)) ∧
           (0=(↑x1.val:Int)))))))) ∧
         (∀ x1 : { i : Nat // i ≤ (topO l 1000).length },
          (((↑x1.val:Int) < (↑(topO l 1000).length:Int) →
            ((0≤(↑x1.val:Int)∧(↑x1.val:Int) < (↑(topO l 1000).length:Int)) ∧
            ((l.length≤1099511627776) ∧
            ((SmC l) ∧
            ((plcV l ((topO l 1000).getD x1.val ([],0,0)).fst=(↑x1.val:Int) →
              ((plcE l ((topO l 1000).getD x1.val ([],0,0)).fst=0 →
                ((hasK (List.take x1.val (topO l 1000)) s=true →
                  ((i64R ((↑x1.val:Int)+1)) ∧
                  (∃ x2 : { i : Nat // i ≤ (topO l 1000).length },
                   (((topO l 1000).length - x2.val < (topO l 1000).length - x1.val) ∧
                   ((l=l) ∧
                   ((s=s) ∧
                   ((true=hasK (List.take x2.val (topO l 1000)) s) ∧
                   ((topO l 1000=topO l 1000) ∧
                   (((↑(topO l 1000).length:Int)=(↑(topO l 1000).length:Int)) ∧
                   ((↑x1.val:Int)+1=(↑x2.val:Int))))))))))) ∧
                (¬hasK (List.take x1.val (topO l 1000)) s = true →
                 ((i64R ((↑x1.val:Int)+1)) ∧
                 (∃ x2 : { i : Nat // i ≤ (topO l 1000).length },
                  (((topO l 1000).length - x2.val < (topO l 1000).length - x1.val) ∧
                  ((l=l) ∧
                  ((s=s) ∧
                  ((decide (((topO l 1000).getD x1.val ([],0,0)).fst=s)=hasK (List.take x2.val (topO l 1000)) s) ∧
                  ((topO l 1000=topO l 1000) ∧
                  (((↑(topO l 1000).length:Int)=(↑(topO l 1000).length:Int)) ∧
                  ((↑x1.val:Int)+1=(↑x2.val:Int))))))))))))) ∧
              (¬plcE l ((topO l 1000).getD x1.val ([], 0, 0)).fst = 0 →
               (false=true)))) ∧
            (¬plcV l ((topO l 1000).getD x1.val ([], 0, 0)).fst = (↑x1.val : Int) →
             (false=true))))))) ∧
          (¬(↑x1.val : Int) < (↑(topO l 1000).length : Int) →
           ((l.length≤1099511627776) ∧
           ((SmC l) ∧
           ((decide (decide (plcE l s=0)=hasK (List.take x1.val (topO l 1000)) s)=true →
             ((hasK (List.take x1.val (topO l 1000)) s=true →
               True) ∧
             (¬hasK (List.take x1.val (topO l 1000)) s = true →
              (decide (plcE l s=10)=true)))) ∧
           (¬decide (decide (plcE l s = 0) = hasK (List.take x1.val (topO l 1000)) s) = true →
            (false=true)))))))))) ∧
       (¬topE l 1000 = 0 →
        True))))))))))))) (by kernel_rfl) (by
    have hw:SmC l:=fun x hx=>Nat.le_trans (hs0 x hx) (by decide)
    have q:l.length≤1099511627776:=by omega
    refine ⟨fun h=>(by cases h),fun _=>⟨by omega,hw,fun _=>by trivial,fun hg=>⟨fun _=>by trivial,fun _=>⟨q,hw,fun h0=>?_,fun _=>by trivial⟩⟩⟩⟩
    have he:=(topE_zero (by omega)).1 h0
    rw [decide_eq_true_eq,not_or] at hg
    have hl:=allC_len l
    have e:topO l 1000=allC l:=by rw [topO_eq (by omega) he];exact List.take_of_length_le (by show _≤1000;omega)
    rw [e]
    refine ⟨⟨⟨0,Nat.zero_le _⟩,rfl,rfl,rfl,rfl,rfl,rfl⟩,?_⟩
    rintro ⟨i,hi⟩
    dsimp only
    refine ⟨fun h=>⟨by omega,q,hw,?_⟩,fun h=>⟨q,hw,?_⟩⟩
    · obtain ⟨p1,p2⟩:=plc_some he (posK_at (allC_keys l) (i:=i) (by omega))
      refine ⟨fun _=>⟨fun _=>⟨fun h3=>⟨by unfold i64R;omega,⟨i+1,by omega⟩,by dsimp only;omega,rfl,rfl,?_,rfl,rfl,by push_cast;rfl⟩,fun h3=>⟨by unfold i64R;omega,⟨i+1,by omega⟩,by dsimp only;omega,rfl,rfl,?_,rfl,rfl,by push_cast;rfl⟩⟩,fun h=>absurd p2.symm h⟩,fun h=>absurd p1.symm h⟩
      · dsimp only;rw [hasK_step (by omega),h3];rfl
      · dsimp only;rw [hasK_step (by omega),Bool.eq_false_iff.2 h3];rfl
    · rw [List.take_of_length_le (show (allC l).length≤i by omega)]
      obtain ⟨p1,p2⟩:=plcE_has he s
      exact ⟨fun _=>⟨fun _=>by trivial,fun h=>decide_eq_true (p2 h)⟩,fun h=>absurd (decide_eq_true p1) h⟩))
end Go.EA
