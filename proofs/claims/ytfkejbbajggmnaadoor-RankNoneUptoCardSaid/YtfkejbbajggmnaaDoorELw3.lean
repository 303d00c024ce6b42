/- Layer 15: laws (the first ones of the first ones; nothing; places). Conditions: none. (Printed by a program of this project's own.) -/
import Derived.Test.YtfkejbbajggmnaaDoorELw1
import Derived.KernelRfl
set_option linter.unusedVariables false
set_option linter.unusedSimpArgs false
set_option maxRecDepth 100000
set_option maxHeartbeats 0
namespace Go.EA
open F
theorem topE_zero {l:List Cd} {k:Int} (hk:0≤k∧k≤1000):topE l k=0↔errC l=0:=by
  unfold topE
  split
  · rename_i h
    rw [if_neg (by omega)]
    exact ⟨fun _=>h,fun _=>rfl⟩
  · exact Iff.rfl
theorem topO_eq {l:List Cd} {k:Int} (hk:0≤k∧k≤1000) (he:errC l=0):topO l k=(allC l).take k.toNat:=(top_of he (by omega)).1
theorem allC_nil:allC []=[]:=by unfold allC srtC;simp [onceC]
def badC (l:List Cd) (z:Int):List Cd:=l.take z.toNat++[([97],-1,1)]++l.drop z.toNat
theorem badC_err (l:List Cd) (z:Int):¬ errC (badC l z)=0:=by
  rw [errC_zero]
  intro h
  have:=h ([97],-1,1) (by unfold badC;simp)
  revert this
  decide
theorem w376 {S:SC} (hB:SB S) (q377:PrOk S 377 (pureP G377)) (q378:PrOk S 378 (pureP G378)) (q379:PrOk S 379 (pureP G379)) (q384:PrOk S 384 (pureP G384)) (q380:PrOk S 380 (pureP G380)) (q382:PrOk S 382 (pureP G382)) (h376:S.has 376 f376) (l:List (List UInt8×Int×Int)) (k:Int) (t:Int) (hl0:l.length≤1048576) (hs0:∀ x∈l,x.1.length≤1048576) (hk0:0≤k∧k≤255) (ht0:0≤t∧t≤255):MF S 376 [] [den0 (.one (.row (.pair .str (.pair (.int .i64) (.int .i64))) l)),den0 (.one (.int .u8 k)),den0 (.one (.int .u8 t))] (hl []) fun v _=>v=.one (.bool true):=
  mfM hB [] [⟨377,G377,K377⟩,⟨378,G378,K378⟩,⟨379,G379,K379⟩,⟨384,G384,K384⟩,⟨380,G380,K380⟩,⟨382,G382,K382⟩] trivial ⟨⟨q377,K377_ok⟩,⟨q378,K378_ok⟩,⟨q379,K379_ok⟩,⟨q384,K384_ok⟩,⟨q380,K380_ok⟩,⟨q382,K382_ok⟩,trivial⟩ h376 (v:=.one .tt) (xs:=[.one (.row (.pair .str (.pair (.int .i64) (.int .i64))) l),.one (.int .u8 k),.one (.int .u8 t)]) rfl rfl rfl (fun f id T L=>match f,id with
      | 376,4100=>match T.getD 15 .junk with | .one (.int .i64 z)=>some (.cut Unit (fun _=>([(16,.one (.row CdT (badC l z)))],[]))) | _=>none
      | _,_=>none) 3000 (VC.use (p:=
    (((!true)=true →
      (false=true)) ∧
    (¬(!true) = true →
     ((l.length≤4194304) ∧
     ((∀ (x:List UInt8×Int×Int),x∈l→x.fst.length≤1099511627776) ∧
     ((decide (200 < l.length∨4000 < lenC l)=true →
       True) ∧
     (¬decide (200 < l.length ∨ 4000 < lenC l) = true →
      ((i64R k) ∧
      (((0:Nat)≤(1099511627776:Nat)) ∧
      ((SmC []) ∧
      ((i64R k) ∧
      ((l.length≤1099511627776) ∧
      ((SmC l) ∧
      ((i64R k) ∧
      ((l.length≤549755813888) ∧
      (((0:Nat)≤(549755813888:Nat)) ∧
      ((SmC l) ∧
      ((SmC []) ∧
      ((i64R k) ∧
      (((0:Nat)≤(549755813888:Nat)) ∧
      ((l.length≤549755813888) ∧
      ((SmC []) ∧
      ((SmC l) ∧
      ((topE [] k=0 →
        ((0 < (↑(topO [] k).length:Int) →
          (false=true)) ∧
        (¬0 < (↑(topO [] k).length : Int) →
         ((topE l k=topE (l++[]) k →
           ((topE l k=topE ([]++l) k →
             (((topO l k).length≤1099511627776) ∧
             (((topO (l++[]) k).length≤1099511627776) ∧
             (((!sameC (topO l k) (topO (l++[]) k))=true →
               (false=true)) ∧
             (¬(!sameC (topO l k) (topO (l ++ []) k)) = true →
              (((topO l k).length≤1099511627776) ∧
              (((topO ([]++l) k).length≤1099511627776) ∧
              (((!sameC (topO l k) (topO ([]++l) k))=true →
                (false=true)) ∧
              (¬(!sameC (topO l k) (topO ([] ++ l) k)) = true →
               ((i64R t) ∧
               ((i64R ((↑l.length:Int)+1)) ∧
               (((↑l.length:Int)+1≠0) ∧
               ((((0≤t.tmod ((↑l.length:Int)+1)∧t.tmod ((↑l.length:Int)+1)≤(↑l.length:Int)) ∧
                 (((0+(cutR l none (some (t.tmod ((↑l.length:Int)+1)))).length)*32≤140737488355328) ∧
                 (((([]++cutR l none (some (t.tmod ((↑l.length:Int)+1)))).length+1)*32≤140737488355328) ∧
                 ((0≤t.tmod ((↑l.length:Int)+1)∧t.tmod ((↑l.length:Int)+1)≤(↑l.length:Int)) ∧
                 (((([]++cutR l none (some (t.tmod ((↑l.length:Int)+1)))++[([97],-1,1)]).length+(cutR l (some (t.tmod ((↑l.length:Int)+1))) none).length)*32≤140737488355328) ∧
                 (∃ x1 : Unit,
                  ((k=k) ∧
                  ([]++cutR l none (some (t.tmod ((↑l.length:Int)+1)))++[([97],-1,1)]++cutR l (some (t.tmod ((↑l.length:Int)+1))) none=badC l (t.tmod ((↑l.length:Int)+1)))))))))) ∧
                (((0 ≤ t.tmod ((↑l.length : Int) + 1) ∧ t.tmod ((↑l.length : Int) + 1) ≤ (↑l.length : Int)) ∧
                 (((0+(cutR l none (some (t.tmod ((↑l.length:Int)+1)))).length)*32≤140737488355328) ∧
                 (((([]++cutR l none (some (t.tmod ((↑l.length:Int)+1)))).length+1)*32≤140737488355328) ∧
                 ((0≤t.tmod ((↑l.length:Int)+1)∧t.tmod ((↑l.length:Int)+1)≤(↑l.length:Int)) ∧
                 (((([]++cutR l none (some (t.tmod ((↑l.length:Int)+1)))++[([97],-1,1)]).length+(cutR l (some (t.tmod ((↑l.length:Int)+1))) none).length)*32≤140737488355328) ∧
                 (∃ x1 : Unit,
                  ((k=k) ∧
                  ([]++cutR l none (some (t.tmod ((↑l.length:Int)+1)))++[([97],-1,1)]++cutR l (some (t.tmod ((↑l.length:Int)+1))) none=badC l (t.tmod ((↑l.length:Int)+1)))))))))) ∧
                (((0 ≤ t.tmod ((↑l.length : Int) + 1) ∧ t.tmod ((↑l.length : Int) + 1) ≤ (↑l.length : Int)) ∧
                 (((0+(cutR l none (some (t.tmod ((↑l.length:Int)+1)))).length)*32≤140737488355328) ∧
                 (((([]++cutR l none (some (t.tmod ((↑l.length:Int)+1)))).length+1)*32≤140737488355328) ∧
                 ((0≤t.tmod ((↑l.length:Int)+1)∧t.tmod ((↑l.length:Int)+1)≤(↑l.length:Int)) ∧
                 (((([]++cutR l none (some (t.tmod ((↑l.length:Int)+1)))++[([97],-1,1)]).length+(cutR l (some (t.tmod ((↑l.length:Int)+1))) none).length)*32≤140737488355328) ∧
                 (∃ x1 : Unit,
                  ((k=k) ∧
                  ([]++cutR l none (some (t.tmod ((↑l.length:Int)+1)))++[([97],-1,1)]++cutR l (some (t.tmod ((↑l.length:Int)+1))) none=badC l (t.tmod ((↑l.length:Int)+1)))))))))) ∧
                (((0 ≤ t.tmod ((↑l.length : Int) + 1) ∧ t.tmod ((↑l.length : Int) + 1) ≤ (↑l.length : Int)) ∧
                 (((0+(cutR l none (some (t.tmod ((↑l.length:Int)+1)))).length)*32≤140737488355328) ∧
                 ((0≤t.tmod ((↑l.length:Int)+1)∧t.tmod ((↑l.length:Int)+1)≤(↑l.length:Int)) ∧
                 (((([]++cutR l none (some (t.tmod ((↑l.length:Int)+1)))).length+1)*32≤140737488355328) ∧
                 (((([]++cutR l none (some (t.tmod ((↑l.length:Int)+1)))++[([97],-1,1)]).length+(cutR l (some (t.tmod ((↑l.length:Int)+1))) none).length)*32≤140737488355328) ∧
                 (∃ x1 : Unit,
                  ((k=k) ∧
                  ([]++cutR l none (some (t.tmod ((↑l.length:Int)+1)))++[([97],-1,1)]++cutR l (some (t.tmod ((↑l.length:Int)+1))) none=badC l (t.tmod ((↑l.length:Int)+1)))))))))) ∧
                (((0 ≤ t.tmod ((↑l.length : Int) + 1) ∧ t.tmod ((↑l.length : Int) + 1) ≤ (↑l.length : Int)) ∧
                 (((0+(cutR l none (some (t.tmod ((↑l.length:Int)+1)))).length)*32≤140737488355328) ∧
                 ((0≤t.tmod ((↑l.length:Int)+1)∧t.tmod ((↑l.length:Int)+1)≤(↑l.length:Int)) ∧
                 (((([]++cutR l none (some (t.tmod ((↑l.length:Int)+1)))).length+1)*32≤140737488355328) ∧
                 (((([]++cutR l none (some (t.tmod ((↑l.length:Int)+1)))++[([97],-1,1)]).length+(cutR l (some (t.tmod ((↑l.length:Int)+1))) none).length)*32≤140737488355328) ∧
                 (∃ x1 : Unit,
                  ((k=k) ∧
                  ([]++cutR l none (some (t.tmod ((↑l.length:Int)+1)))++[([97],-1,1)]++cutR l (some (t.tmod ((↑l.length:Int)+1))) none=badC l (t.tmod ((↑l.length:Int)+1)))))))))) ∧
                (((0 ≤ t.tmod ((↑l.length : Int) + 1) ∧ t.tmod ((↑l.length : Int) + 1) ≤ (↑l.length : Int)) ∧
                 (((0+(cutR l none (some (t.tmod ((↑l.length:Int)+1)))).length)*32≤140737488355328) ∧
                 ((0≤t.tmod ((↑l.length:Int)+1)∧t.tmod ((↑l.length:Int)+1)≤(↑l.length:Int)) ∧
                 (((([]++cutR l none (some (t.tmod ((↑l.length:Int)+1)))).length+1)*32≤140737488355328) ∧
                 (((([]++cutR l none (some (t.tmod ((↑l.length:Int)+1)))++[([97],-1,1)]).length+(cutR l (some (t.tmod ((↑l.length:Int)+1))) none).length)*32≤140737488355328) ∧
                 (∃ x1 : Unit,
                  ((k=k) ∧
                  ([]++cutR l none (some (t.tmod ((↑l.length:Int)+1)))++[([97],-1,1)]++cutR l (some (t.tmod ((↑l.length:Int)+1))) none=badC l (t.tmod ((↑l.length:Int)+1)))))))))) ∧
                (((0 ≤ t.tmod ((↑l.length : Int) + 1) ∧ t.tmod ((↑l.length : Int) + 1) ≤ (↑l.length : Int)) ∧
                 ((0≤t.tmod ((↑l.length:Int)+1)∧t.tmod ((↑l.length:Int)+1)≤(↑l.length:Int)) ∧
                 (((0+(cutR l none (some (t.tmod ((↑l.length:Int)+1)))).length)*32≤140737488355328) ∧
                 (((([]++cutR l none (some (t.tmod ((↑l.length:Int)+1)))).length+1)*32≤140737488355328) ∧
                 (((([]++cutR l none (some (t.tmod ((↑l.length:Int)+1)))++[([97],-1,1)]).length+(cutR l (some (t.tmod ((↑l.length:Int)+1))) none).length)*32≤140737488355328) ∧
                 (∃ x1 : Unit,
                  ((k=k) ∧
                  ([]++cutR l none (some (t.tmod ((↑l.length:Int)+1)))++[([97],-1,1)]++cutR l (some (t.tmod ((↑l.length:Int)+1))) none=badC l (t.tmod ((↑l.length:Int)+1)))))))))) ∧
                (((0 ≤ t.tmod ((↑l.length : Int) + 1) ∧ t.tmod ((↑l.length : Int) + 1) ≤ (↑l.length : Int)) ∧
                 ((0≤t.tmod ((↑l.length:Int)+1)∧t.tmod ((↑l.length:Int)+1)≤(↑l.length:Int)) ∧
                 (((0+(cutR l none (some (t.tmod ((↑l.length:Int)+1)))).length)*32≤140737488355328) ∧
                 (((([]++cutR l none (some (t.tmod ((↑l.length:Int)+1)))).length+1)*32≤140737488355328) ∧
                 (((([]++cutR l none (some (t.tmod ((↑l.length:Int)+1)))++[([97],-1,1)]).length+(cutR l (some (t.tmod ((↑l.length:Int)+1))) none).length)*32≤140737488355328) ∧
                 (∃ x1 : Unit,
                  ((k=k) ∧
                  ([]++cutR l none (some (t.tmod ((↑l.length:Int)+1)))++[([97],-1,1)]++cutR l (some (t.tmod ((↑l.length:Int)+1))) none=badC l (t.tmod ((↑l.length:Int)+1)))))))))) ∧
                ((0≤t.tmod ((↑l.length:Int)+1)∧t.tmod ((↑l.length:Int)+1)≤(↑l.length:Int)) ∧
                ((0≤t.tmod ((↑l.length:Int)+1)∧t.tmod ((↑l.length:Int)+1)≤(↑l.length:Int)) ∧
                (((0+(cutR l none (some (t.tmod ((↑l.length:Int)+1)))).length)*32≤140737488355328) ∧
                (((([]++cutR l none (some (t.tmod ((↑l.length:Int)+1)))).length+1)*32≤140737488355328) ∧
                (((([]++cutR l none (some (t.tmod ((↑l.length:Int)+1)))++[([97],-1,1)]).length+(cutR l (some (t.tmod ((↑l.length:Int)+1))) none).length)*32≤140737488355328) ∧
                (∃ x1 : Unit,
                 ((k=k) ∧
                 ([]++cutR l none (some (t.tmod ((↑l.length:Int)+1)))++[([97],-1,1)]++cutR l (some (t.tmod ((↑l.length:Int)+1))) none=badC l (t.tmod ((↑l.length:Int)+1)))))))))))))))))) ∧
               (∀ x1 : Unit,
                ((i64R k) ∧
                (((badC l (t.tmod ((↑l.length:Int)+1))).length≤1099511627776) ∧
                ((SmC (badC l (t.tmod ((↑l.length:Int)+1)))) ∧
                (((badC l (t.tmod ((↑l.length:Int)+1))).length≤1099511627776) ∧
                ((SmC (badC l (t.tmod ((↑l.length:Int)+1)))) ∧
                (((↑(topO (badC l (t.tmod ((↑l.length:Int)+1))) k).length:Int)=0 →
                  ((topE (badC l (t.tmod ((↑l.length:Int)+1))) k=0 →
                    (false=true)) ∧
                  (¬topE (badC l (t.tmod ((↑l.length : Int) + 1))) k = 0 →
                   (decide (plcE (badC l (t.tmod ((↑l.length:Int)+1))) [97]=topE (badC l (t.tmod ((↑l.length:Int)+1))) k)=true)))) ∧
                (¬(↑(topO (badC l (t.tmod ((↑l.length : Int) + 1))) k).length : Int) = 0 →
                 (false=true)))))))))))))))))))))) ∧
           (¬topE l k = topE ([] ++ l) k →
            (false=true)))) ∧
         (¬topE l k = topE (l ++ []) k →
          (false=true)))))) ∧
      (¬topE [] k = 0 →
       (false=true)))))))))))))))))))))))))) (by kernel_rfl) (by
    have hw:SmC l:=fun x hx=>Nat.le_trans (hs0 x hx) (by decide)
    have q:l.length≤1099511627776:=by omega
    have q':l.length≤549755813888:=by omega
    have ik:i64R k:=by unfold i64R;omega
    have it:i64R t:=by unfold i64R;omega
    have kk:0≤k∧k≤1000:=by omega
    have sn:SmC []:=fun x hx=>by cases hx
    have n1:(0:Nat)≤1099511627776:=Nat.zero_le _
    have n2:(0:Nat)≤549755813888:=Nat.zero_le _
    have en:topE [] k=0:=(topE_zero kk).2 rfl
    have tn:topO [] k=[]:=by rw [topO_eq kk rfl,allC_nil];exact List.take_nil
    have e1:l++[]=l:=List.append_nil l
    have e2:[]++l=l:=List.nil_append l
    have t1:=topO_len l k
    have q1:(topO l k).length≤1099511627776:=by omega
    have ns:∀ {l:List Cd} {p:Prop},(!sameC l l)=true→p:=fun h=>by rw [sameC_self] at h;cases h
    have ab:∀ {p:Prop} {a:Int},¬ a=a→p:=fun h=>absurd rfl h
    rw [e1,e2,tn]
    refine ⟨fun h=>(by cases h),fun _=>⟨by omega,hw,fun _=>by trivial,fun _=>⟨ik,n1,sn,ik,q,hw,ik,q',n2,hw,sn,ik,n2,q',sn,hw,fun _=>⟨fun h=>absurd h (by decide),fun _=>⟨fun _=>⟨fun _=>⟨q1,q1,ns,fun _=>⟨q1,q1,ns,fun _=>⟨it,by unfold i64R;omega,by omega,?_⟩⟩⟩,ab⟩,ab⟩⟩,fun h=>absurd en h⟩⟩⟩
    have k0:0≤t.tmod ((l.length:Int)+1):=Int.tmod_nonneg _ ht0.1
    have k1:t.tmod ((l.length:Int)+1) < (l.length:Int)+1:=Int.tmod_lt_of_pos _ (by omega)
    generalize t.tmod ((l.length:Int)+1)=z at k0 k1 ⊢
    have c1:(cutR l none (some z)).length≤l.length:=by show (l.take _).length≤_;rw [List.length_take];omega
    have c2:(cutR l (some z) none).length≤l.length:=by show (l.drop _).length≤_;rw [List.length_drop];omega
    have g1:0≤z∧z≤(l.length:Int):=by omega
    have g2:(0+(cutR l none (some z)).length)*32≤140737488355328:=by omega
    have g3:(([]++cutR l none (some z)).length+1)*32≤140737488355328:=by rw [List.nil_append];omega
    have g4:(([]++cutR l none (some z)++[([97],-1,1)]).length+(cutR l (some z) none).length)*32≤140737488355328:=by
      rw [List.nil_append,List.length_append,List.length_cons,List.length_nil];omega
    have g5:∃ x1:Unit,k=k∧[]++cutR l none (some z)++[([97],-1,1)]++cutR l (some z) none=badC l z:=⟨(),rfl,rfl⟩
    refine ⟨by repeat' (first | exact g1 | exact g2 | exact g3 | exact g4 | exact g5 | apply And.intro),fun _=>?_⟩
    have bl:(badC l z).length≤1099511627776:=by
      unfold badC
      rw [List.length_append,List.length_append,List.length_take,List.length_drop,List.length_cons,List.length_nil];omega
    have bs:SmC (badC l z):=fun x hx=>by
      unfold badC at hx
      rcases List.mem_append.1 hx with hx | hx
      · rcases List.mem_append.1 hx with hx | hx
        · exact hw x (List.mem_of_mem_take hx)
        · rw [List.mem_singleton.1 hx];decide
      · exact hw x (List.mem_of_mem_drop hx)
    have be:=badC_err l z
    obtain ⟨b1,b2⟩:=top_bad (k:=k) be
    obtain ⟨_,b3⟩:=plc_bad (s:=[97]) be
    refine ⟨ik,bl,bs,bl,bs,fun _=>⟨fun h=>absurd h (by rw [← b2];exact be),fun _=>decide_eq_true (by rw [← b2,← b3])⟩,fun h=>absurd (by rw [b1];rfl) h⟩))
end Go.EA
