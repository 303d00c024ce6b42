/- Layer 15: laws (where any stands; two rows; of three). Conditions: none. (Printed by a program of this project's own.) -/
import Derived.Test.YtfkejbbajggmnaaDoorERc3
import Derived.KernelRfl
set_option linter.unusedVariables false
set_option linter.unusedSimpArgs false
set_option maxRecDepth 100000
set_option maxHeartbeats 0
namespace Go.EA
open F
theorem topO_len (l:List Cd) (k:Int):(topO l k).length≤l.length:=by
  have:=allC_len l
  unfold topO
  split
  · rw [List.length_take];omega
  · exact Nat.zero_le _
theorem sameC_self (l:List Cd):sameC l l=true:=decide_eq_true rfl
theorem w375 {S:SC} (hB:SB S) (q377:PrOk S 377 (pureP G377)) (q378:PrOk S 378 (pureP G378)) (q379:PrOk S 379 (pureP G379)) (q385:PrOk S 385 (pureP G385)) (q384:PrOk S 384 (pureP G384)) (q386:PrOk S 386 (pureP G386)) (q380:PrOk S 380 (pureP G380)) (q387:PrOk S 387 (pureP G387)) (q388:PrOk S 388 (pureP G388)) (q381:PrOk S 381 (pureP G381)) (q389:PrOk S 389 (pureP G389)) (h375:S.has 375 f375) (a:List (List UInt8×Int×Int)) (b:List (List UInt8×Int×Int)) (k:Int) (hl0:a.length≤1048576) (hs0:∀ x∈a,x.1.length≤1048576) (hl1:b.length≤1048576) (hs1:∀ x∈b,x.1.length≤1048576):MF S 375 [] [den0 (.one (.row (.pair .str (.pair (.int .i64) (.int .i64))) a)),den0 (.one (.row (.pair .str (.pair (.int .i64) (.int .i64))) b)),den0 (.one (.int .i64 k))] (hl []) fun v _=>v=.one (.bool true):=
  mfM hB [] [⟨377,G377,K377⟩,⟨378,G378,K378⟩,⟨379,G379,K379⟩,⟨385,G385,K385⟩,⟨384,G384,K384⟩,⟨386,G386,K386⟩,⟨380,G380,K380⟩,⟨387,G387,K387⟩,⟨388,G388,K388⟩,⟨381,G381,K381⟩,⟨389,G389,K389⟩] trivial ⟨⟨q377,K377_ok⟩,⟨q378,K378_ok⟩,⟨q379,K379_ok⟩,⟨q385,K385_ok⟩,⟨q384,K384_ok⟩,⟨q386,K386_ok⟩,⟨q380,K380_ok⟩,⟨q387,K387_ok⟩,⟨q388,K388_ok⟩,⟨q381,K381_ok⟩,⟨q389,K389_ok⟩,trivial⟩ h375 (v:=.one .tt) (xs:=[.one (.row (.pair .str (.pair (.int .i64) (.int .i64))) a),.one (.row (.pair .str (.pair (.int .i64) (.int .i64))) b),.one (.int .i64 k)]) rfl rfl rfl (fun f id T L=>match f,id with
      | 375,0=>some (.inv { i:Nat // i≤a.length∧i≤b.length } (fun x=>([(75,.one (.int .i64 x.1))],[])) (fun x=>a.length - x.1))
      | _,_=>none) 3000 (VC.use (p:=
    (((!true)=true →
      (false=true)) ∧
    (¬(!true) = true →
     ((a.length≤4194304) ∧
     ((∀ (x:List UInt8×Int×Int),x∈a→x.fst.length≤1099511627776) ∧
     ((decide (200 < a.length∨4000 < lenC a)=true →
       True) ∧
     (¬decide (200 < a.length ∨ 4000 < lenC a) = true →
      ((b.length≤4194304) ∧
      ((∀ (x:List UInt8×Int×Int),x∈b→x.fst.length≤1099511627776) ∧
      ((decide (200 < b.length∨4000 < lenC b)=true →
        True) ∧
      (¬decide (200 < b.length ∨ 4000 < lenC b) = true →
       ((a.length≤1099511627776) ∧
       ((SmC a) ∧
       ((a.length≤1099511627776) ∧
       ((SmC a) ∧
       ((a.length≤549755813888) ∧
       ((b.length≤549755813888) ∧
       ((SmC a) ∧
       ((SmC b) ∧
       ((a.length≤549755813888) ∧
       ((b.length≤549755813888) ∧
       ((SmC a) ∧
       ((SmC b) ∧
       (((topO a k).length≤1099511627776) ∧
       (((topO a k).length≤1099511627776) ∧
       (((!sameC (topO a k) (topO a k))=true →
         (false=true)) ∧
       (¬(!sameC (topO a k) (topO a k)) = true →
        ((topE a k=topE a k →
          (((topO (a++b) k).length≤1099511627776) ∧
          (((topO (a++b) k).length≤1099511627776) ∧
          (((!sameC (topO (a++b) k) (topO (a++b) k))=true →
            (false=true)) ∧
          (¬(!sameC (topO (a ++ b) k) (topO (a ++ b) k)) = true →
           ((topE (a++b) k=topE (a++b) k →
             ((∃ x1:{ i:Nat // i≤a.length∧i≤b.length },
               ((a=a) ∧
               ((b=b) ∧
               ((((if (↑b.length:Int) < (↑a.length:Int) then (↑b.length:Int) else (↑a.length:Int))) =   (if (↑b.length:Int) < (↑a.length:Int) then (↑b.length:Int) else (↑a.length:Int))) ∧
               (0=(↑x1.val:Int)))))) ∧
             (∀ x1 : { i : Nat // i ≤ a.length ∧ i ≤ b.length },
              (((↑x1.val:Int) <   (if (↑b.length:Int) < (↑a.length:Int) then (↑b.length:Int) else (↑a.length:Int)) →
                ((0≤(↑x1.val:Int)∧(↑x1.val:Int) < (↑a.length:Int)) ∧
                ((List.length (a.getD x1.val ([],0,0)).fst≤1099511627776) ∧
                ((0≤(↑x1.val:Int)∧(↑x1.val:Int) < (↑a.length:Int)) ∧
                ((List.length (a.getD x1.val ([],0,0)).fst≤1099511627776) ∧
                ((cE ((a.getD x1.val ([],0,0)).fst,(a.getD x1.val ([],0,0)).snd.fst,(a.getD x1.val ([],0,0)).snd.snd)=cE ((a.getD x1.val ([],0,0)).fst,(a.getD x1.val ([],0,0)).snd.fst,(a.getD x1.val ([],0,0)).snd.snd) →
                  ((0≤(↑x1.val:Int)∧(↑x1.val:Int) < (↑a.length:Int)) ∧
                  ((0≤(↑x1.val:Int)∧(↑x1.val:Int) < (↑b.length:Int)) ∧
                  ((0≤(↑x1.val:Int)∧(↑x1.val:Int) < (↑a.length:Int)) ∧
                  ((0≤(↑x1.val:Int)∧(↑x1.val:Int) < (↑b.length:Int)) ∧
                  (((!decide (ltC ((a.getD x1.val ([],0,0)).fst,(a.getD x1.val ([],0,0)).snd.fst,(a.getD x1.val ([],0,0)).snd.snd) ((b.getD x1.val ([],0,0)).fst,(b.getD x1.val ([],0,0)).snd.fst,(b.getD x1.val ([],0,0)).snd.snd)=ltC ((a.getD x1.val ([],0,0)).fst,(a.getD x1.val ([],0,0)).snd.fst,(a.getD x1.val ([],0,0)).snd.snd) ((b.getD x1.val ([],0,0)).fst,(b.getD x1.val ([],0,0)).snd.fst,(b.getD x1.val ([],0,0)).snd.snd)))=true →
                    (false=true)) ∧
                  (¬(!decide (ltC ((a.getD x1.val ([], 0, 0)).fst, (a.getD x1.val ([], 0, 0)).snd.fst, (a.getD x1.val ([], 0, 0)).snd.snd) ((b.getD x1.val ([], 0, 0)).fst, (b.getD x1.val ([], 0, 0)).snd.fst, (b.getD x1.val ([], 0, 0)).snd.snd) = ltC ((a.getD x1.val ([], 0, 0)).fst, (a.getD x1.val ([], 0, 0)).snd.fst, (a.getD x1.val ([], 0, 0)).snd.snd) ((b.getD x1.val ([], 0, 0)).fst, (b.getD x1.val ([], 0, 0)).snd.fst, (b.getD x1.val ([], 0, 0)).snd.snd))) = true →
                   ((i64R ((↑x1.val:Int)+1)) ∧
                   (∃ x2 : { i : Nat // i ≤ a.length ∧ i ≤ b.length },
                    ((a.length - x2.val < a.length - x1.val) ∧
                    ((a=a) ∧
                    ((b=b) ∧
                    ((((if (↑b.length:Int) < (↑a.length:Int) then (↑b.length:Int) else (↑a.length:Int))) =   (if (↑b.length:Int) < (↑a.length:Int) then (↑b.length:Int) else (↑a.length:Int))) ∧
                    ((↑x1.val:Int)+1=(↑x2.val:Int))))))))))))))) ∧
                (¬cE ((a.getD x1.val ([], 0, 0)).fst, (a.getD x1.val ([], 0, 0)).snd.fst, (a.getD x1.val ([], 0, 0)).snd.snd) = cE ((a.getD x1.val ([], 0, 0)).fst, (a.getD x1.val ([], 0, 0)).snd.fst, (a.getD x1.val ([], 0, 0)).snd.snd) →
                 (false=true)))))))) ∧
              (¬(↑x1.val : Int) <     (if (↑b.length : Int) < (↑a.length : Int) then (↑b.length : Int) else (↑a.length : Int)) →
               True))))) ∧
           (¬topE (a ++ b) k = topE (a ++ b) k →
            (false=true)))))))) ∧
        (¬topE a k = topE a k →
         (false=true)))))))))))))))))))))))))))))) (by kernel_rfl) (by
    have ha:SmC a:=fun x hx=>Nat.le_trans (hs0 x hx) (by decide)
    have hb:SmC b:=fun x hx=>Nat.le_trans (hs1 x hx) (by decide)
    have qa:a.length≤1099511627776:=by omega
    have qa':a.length≤549755813888:=by omega
    have qb':b.length≤549755813888:=by omega
    have t1:=topO_len a k
    have t2:=topO_len (a++b) k
    rw [List.length_append] at t2
    have q1:(topO a k).length≤1099511627776:=by omega
    have q2:(topO (a++b) k).length≤1099511627776:=by omega
    have ns:∀ {l:List Cd} {p:Prop},(!sameC l l)=true→p:=fun h=>by rw [sameC_self] at h;cases h
    refine ⟨fun h=>(by cases h),fun _=>⟨by omega,ha,fun _=>by trivial,fun _=>⟨by omega,hb,fun _=>by trivial,fun _=>⟨qa,ha,qa,ha,qa',qb',ha,hb,qa',qb',ha,hb,q1,q1,ns,fun _=>⟨fun _=>⟨q2,q2,ns,fun _=>⟨fun _=>⟨⟨⟨0,Nat.zero_le _,Nat.zero_le _⟩,rfl,rfl,rfl,rfl⟩,?_⟩,fun h=>absurd rfl h⟩⟩,fun h=>absurd rfl h⟩⟩⟩⟩⟩
    rintro ⟨i,hi1,hi2⟩
    dsimp only
    refine ⟨fun h=>?_,fun _=>by trivial⟩
    have h1:i < a.length∧i < b.length:=by split at h <;> omega
    have x1:0≤(i:Int)∧(i:Int) < (a.length:Int):=by omega
    have x2:0≤(i:Int)∧(i:Int) < (b.length:Int):=by omega
    refine ⟨x1,ha.at i,x1,ha.at i,fun _=>⟨x1,x2,x1,x2,fun h2=>?_,fun _=>⟨by unfold i64R;omega,⟨i+1,by omega,by omega⟩,by dsimp only;omega,rfl,rfl,rfl,by push_cast;rfl⟩⟩,fun h2=>absurd rfl h2⟩
    simp at h2))
end Go.EA
