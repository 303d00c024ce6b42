/- Layer 15: laws (the first ones of the first ones; nothing; places). Conditions: none. (Printed by a program of this project's own.) -/
import Derived.Test.YtfkejbbajggmnaaDoorELw1
import Derived.KernelRfl
set_option linter.unusedVariables false
set_option linter.unusedSimpArgs false
set_option maxRecDepth 100000
set_option maxHeartbeats 0
namespace Go.EA
open F
theorem topE_zero {l:List Cd} {k:Int} (hk:0≤k∧k≤1000):topE l k=0↔errC l=0:=by
  unfold topE
  split
  · rename_i h
    rw [if_neg (by omega)]
    exact ⟨fun _=>h,fun _=>rfl⟩
  · exact Iff.rfl
theorem topO_eq {l:List Cd} {k:Int} (hk:0≤k∧k≤1000) (he:errC l=0):topO l k=(allC l).take k.toNat:=(top_of he (by omega)).1
theorem errC_append {a b:List Cd}:errC (a++b)=0↔errC a=0∧errC b=0:=by
  rw [errC_zero,errC_zero,errC_zero]
  exact ⟨fun h=>⟨fun x hx=>h x (List.mem_append_left _ hx),fun x hx=>h x (List.mem_append_right _ hx)⟩,fun h x hx=>(List.mem_append.1 hx).elim (h.1 x) (h.2 x)⟩
theorem topO_errC {l:List Cd} {k:Int} (he:errC l=0):errC (topO l k)=0:=by
  rw [errC_zero] at he ⊢
  unfold topO
  split
  · exact fun x hx=>he x (allC_mem.1 (List.mem_of_mem_take hx)).1
  · exact fun x hx=>by cases hx
theorem w374 {S:SC} (hB:SB S) (q377:PrOk S 377 (pureP G377)) (q378:PrOk S 378 (pureP G378)) (q379:PrOk S 379 (pureP G379)) (q384:PrOk S 384 (pureP G384)) (q380:PrOk S 380 (pureP G380)) (h374:S.has 374 f374) (q0:List (List UInt8×Int×Int)) (q1:List (List UInt8×Int×Int)) (q2:Int) (q3:Int) (hl0:q0.length≤1048576) (hs0:∀ x∈q0,x.1.length≤1048576) (hl1:q1.length≤1048576) (hs1:∀ x∈q1,x.1.length≤1048576) (r2:0≤q2∧q2≤255) (r3:0≤q3∧q3≤255):MF S 374 [] [den0 (.agg [.row (.pair .str (.pair (.int .i64) (.int .i64))) q0,.row (.pair .str (.pair (.int .i64) (.int .i64))) q1,.int .u8 q2,.int .u8 q3])] (hl []) fun v _=>v=.one (.bool true):=
  mfM hB [] [⟨377,G377,K377⟩,⟨378,G378,K378⟩,⟨379,G379,K379⟩,⟨384,G384,K384⟩,⟨380,G380,K380⟩] trivial ⟨⟨q377,K377_ok⟩,⟨q378,K378_ok⟩,⟨q379,K379_ok⟩,⟨q384,K384_ok⟩,⟨q380,K380_ok⟩,trivial⟩ h374 (v:=.one .tt) (xs:=[.agg [.row (.pair .str (.pair (.int .i64) (.int .i64))) q0,.row (.pair .str (.pair (.int .i64) (.int .i64))) q1,.int .u8 q2,.int .u8 q3]]) rfl rfl rfl (fun _ _ _ _=>none) 3000 (VC.use (p:=
    (((!true)=true →
      (false=true)) ∧
    (¬(!true) = true →
     ((q0.length≤4194304) ∧
     ((∀ (x:List UInt8×Int×Int),x∈q0→x.fst.length≤1099511627776) ∧
     ((decide (200 < q0.length∨4000 < lenC q0)=true →
       True) ∧
     (¬decide (200 < q0.length ∨ 4000 < lenC q0) = true →
      ((q1.length≤4194304) ∧
      ((∀ (x:List UInt8×Int×Int),x∈q1→x.fst.length≤1099511627776) ∧
      ((decide (200 < q1.length∨4000 < lenC q1)=true →
        True) ∧
      (¬decide (200 < q1.length ∨ 4000 < lenC q1) = true →
       ((i64R q2) ∧
       ((q0.length≤1099511627776) ∧
       ((SmC q0) ∧
       ((i64R q2) ∧
       ((q1.length≤1099511627776) ∧
       ((SmC q1) ∧
       ((i64R q2) ∧
       ((q0.length≤549755813888) ∧
       ((q1.length≤549755813888) ∧
       ((SmC q0) ∧
       ((SmC q1) ∧
       ((topE q0 q2=0 →
         ((topE q1 q2=0 →
           ((i64R q2) ∧
           (((topO q0 q2).length≤549755813888) ∧
           (((topO q1 q2).length≤549755813888) ∧
           ((SmC (topO q0 q2)) ∧
           ((SmC (topO q1 q2)) ∧
           ((i64R q3) ∧
           ((i64R q2) ∧
           ((q0.length≤549755813888) ∧
           ((q1.length≤549755813888) ∧
           ((SmC q0) ∧
           ((SmC q1) ∧
           ((topE (q0++q1) q2=0 →
             ((topE (topO q0 q2++topO q1 q2) q2=0 →
               (((topO (q0++q1) q2).length≤1099511627776) ∧
               (((topO (topO q0 q2++topO q1 q2) q2).length≤1099511627776) ∧
               ((sameC (topO (q0++q1) q2) (topO (topO q0 q2++topO q1 q2) q2)=true →
                 ((topE (q0++q1)     ((if q2 < q3 then q2 else q3)) =   0 →
                   (((0 ≤     (if (↑(topO (q0++q1) q2).length:Int) < (if q2 < q3 then q2 else q3)then (↑(topO (q0++q1) q2).length:Int) else (if q2 < q3 then q2 else q3))) ∧   ((if (↑(topO (q0++q1) q2).length:Int) < (if q2 < q3 then q2 else q3)then (↑(topO (q0++q1) q2).length:Int) else (if q2 < q3 then q2 else q3))) ≤     (↑(topO (q0++q1) q2).length:Int)) ∧
                   (((topO (q0++q1)       ((if q2 < q3 then q2 else q3))).length ≤   1099511627776) ∧
                   (((cutR (topO (q0++q1) q2) none       (some         ((if (↑(topO (q0++q1) q2).length:Int) < (if q2 < q3 then q2 else q3)then (↑(topO (q0++q1) q2).length:Int) else (if q2 < q3 then q2 else q3))))).length ≤   1099511627776) ∧
                   (sameC     (topO (q0++q1)       ((if q2 < q3 then q2 else q3)))     (cutR (topO (q0++q1) q2) none       (some         ((if (↑(topO (q0++q1) q2).length:Int) < (if q2 < q3 then q2 else q3)then (↑(topO (q0++q1) q2).length:Int) else (if q2 < q3 then q2 else q3))))) =   true))))) ∧
                 (¬topE (q0 ++ q1)       ((if q2 < q3 then q2 else q3)) =     0 →
                  (false=true)))) ∧
               (¬sameC (topO (q0 ++ q1) q2) (topO (topO q0 q2 ++ topO q1 q2) q2) = true →
                (false=true)))))) ∧
             (¬topE (topO q0 q2 ++ topO q1 q2) q2 = 0 →
              (false=true)))) ∧
           (¬topE (q0 ++ q1) q2 = 0 →
            (false=true))))))))))))))) ∧
         (¬topE q1 q2 = 0 →
          ((!decide (topE (q0++q1) q2=0))=true)))) ∧
       (¬topE q0 q2 = 0 →
        ((!decide (topE (q0++q1) q2=0))=true))))))))))))))))))))))))) (by kernel_rfl) (by
    have ha:SmC q0:=fun x hx=>Nat.le_trans (hs0 x hx) (by decide)
    have hb:SmC q1:=fun x hx=>Nat.le_trans (hs1 x hx) (by decide)
    have qa:q0.length≤1099511627776:=by omega
    have qa':q0.length≤549755813888:=by omega
    have qb:q1.length≤1099511627776:=by omega
    have qb':q1.length≤549755813888:=by omega
    have i2:i64R q2:=by unfold i64R;omega
    have i3:i64R q3:=by unfold i64R;omega
    have k2:0≤q2∧q2≤1000:=by omega
    refine ⟨fun h=>(by cases h),fun _=>⟨by omega,ha,fun _=>by trivial,fun _=>⟨by omega,hb,fun _=>by trivial,fun _=>⟨i2,qa,ha,i2,qb,hb,i2,qa',qb',ha,hb,fun h0=>⟨fun h1=>?_,fun h1=>?_⟩,fun h0=>?_⟩⟩⟩⟩
    rotate_left
    · rw [topE_zero k2] at h1
      have:¬ topE (q0++q1) q2=0:=by rw [topE_zero k2,errC_append];exact fun h=>h1 h.2
      rw [decide_eq_false this];rfl
    · rw [topE_zero k2] at h0
      have:¬ topE (q0++q1) q2=0:=by rw [topE_zero k2,errC_append];exact fun h=>h0 h.1
      rw [decide_eq_false this];rfl
    rw [topE_zero k2] at h0 h1
    have h2:errC (q0++q1)=0:=errC_append.2 ⟨h0,h1⟩
    have h3:errC (topO q0 q2++topO q1 q2)=0:=errC_append.2 ⟨topO_errC h0,topO_errC h1⟩
    have t1:=topO_len q0 q2
    have t2:=topO_len q1 q2
    have t3:=topO_len (q0++q1) q2
    have t4:=topO_len (topO q0 q2++topO q1 q2) q2
    rw [List.length_append] at t3 t4
    have hn:0≤(if q2 < q3 then q2 else q3)∧(if q2 < q3 then q2 else q3)≤q2:=by split <;> omega
    generalize (if q2 < q3 then q2 else q3)=n at hn ⊢
    have kn:0≤n∧n≤1000:=by omega
    have t5:=topO_len (q0++q1) n
    rw [List.length_append] at t5
    have hsame:sameC (topO (q0++q1) q2) (topO (topO q0 q2++topO q1 q2) q2)=true:=by
      unfold sameC
      rw [decide_eq_true_eq,topO_eq k2 h2,topO_eq k2 h3,topO_eq k2 h0,topO_eq k2 h1,parts_of]
    refine ⟨i2,by omega,by omega,topO_sm ha _,topO_sm hb _,i3,i2,qa',qb',ha,hb,fun _=>⟨fun _=>⟨by omega,by omega,fun _=>⟨fun _=>?_,fun h=>absurd ((topE_zero kn).2 h2) h⟩,fun h=>absurd hsame h⟩,fun h=>absurd ((topE_zero k2).2 h3) h⟩,fun h=>absurd ((topE_zero k2).2 h2) h⟩
    refine ⟨by split <;> omega,by omega,?_,?_⟩
    · show (List.take _ _).length≤_
      rw [List.length_take];omega
    · unfold sameC
      rw [decide_eq_true_eq]
      show _=List.take _ _
      rw [topO_eq k2 h2,topO_eq kn h2,List.length_take,List.take_take]
      split
      · rename_i hlt
        rw [Int.toNat_natCast,List.take_of_length_le (by omega),List.take_of_length_le (by omega)]
      · rw [Nat.min_eq_left (by omega)]))
end Go.EA
