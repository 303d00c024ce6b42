/- Layer 15: laws (where any stands; two rows; of three). Conditions: none. (Printed by a program of this project's own.) -/
import Derived.Test.YtfkejbbajggmnaaDoorERc3
import Derived.KernelRfl
set_option linter.unusedVariables false
set_option linter.unusedSimpArgs false
set_option maxRecDepth 100000
set_option maxHeartbeats 0
namespace Go.EA
open F
theorem w371 {S:SC} (hB:SB S) (q377:PrOk S 377 (pureP G377)) (q381:PrOk S 381 (pureP G381)) (h371:S.has 371 f371) (a0:List UInt8) (a1:Int) (a2:Int) (b0:List UInt8) (b1:Int) (b2:Int) (c0:List UInt8) (c1:Int) (c2:Int):MF S 371 [] [den0 (.agg [.str a0,.int .i64 a1,.int .i64 a2]),den0 (.agg [.str b0,.int .i64 b1,.int .i64 b2]),den0 (.agg [.str c0,.int .i64 c1,.int .i64 c2])] (hl []) fun v _=>v=.one (.bool true):=
  mfM hB [] [⟨377,G377,K377⟩,⟨381,G381,K381⟩] trivial ⟨⟨q377,K377_ok⟩,⟨q381,K381_ok⟩,trivial⟩ h371 (v:=.one .tt) (xs:=[.agg [.str a0,.int .i64 a1,.int .i64 a2],.agg [.str b0,.int .i64 b1,.int .i64 b2],.agg [.str c0,.int .i64 c1,.int .i64 c2]]) rfl rfl rfl (fun f id T L=>match f,id with
      | 371,0=>some (.rnd 4)
      | _,_=>none) 3000 (VC.use (p:=
    (((!true)=true →
      (false=true)) ∧
    (¬(!true) = true →
     ((ltC (a0,a1,a2) (b0,b1,b2)=true →
       ((ltC (b0,b1,b2) (a0,a1,a2)=true →
         ((sameS (List.take 3 (List.drop 0 [SL.str a0,SL.int IntKind.i64 a1,SL.int IntKind.i64 a2])) (List.take 3 (List.drop 0 [SL.str b0,SL.int IntKind.i64 b1,SL.int IntKind.i64 b2]))=true →
           (false=true)) ∧
         (¬sameS (List.take 3 (List.drop 0 [SL.str a0, SL.int IntKind.i64 a1, SL.int IntKind.i64 a2])) (List.take 3 (List.drop 0 [SL.str b0, SL.int IntKind.i64 b1, SL.int IntKind.i64 b2])) = true →
          (false=true)))) ∧
       (¬ltC (b0, b1, b2) (a0, a1, a2) = true →
        ((sameS (List.take 3 (List.drop 0 [SL.str a0,SL.int IntKind.i64 a1,SL.int IntKind.i64 a2])) (List.take 3 (List.drop 0 [SL.str b0,SL.int IntKind.i64 b1,SL.int IntKind.i64 b2]))=true →
          (false=true)) ∧
        (¬sameS (List.take 3 (List.drop 0 [SL.str a0, SL.int IntKind.i64 a1, SL.int IntKind.i64 a2])) (List.take 3 (List.drop 0 [SL.str b0, SL.int IntKind.i64 b1, SL.int IntKind.i64 b2])) = true →
         (((!ltC (a0,a1,a2) (b0,b1,b2))=true →
           True) ∧
         (¬(!ltC (a0, a1, a2) (b0, b1, b2)) = true →
          (((!ltC (b0,b1,b2) (c0,c1,c2))=true →
            True) ∧
          (¬(!ltC (b0, b1, b2) (c0, c1, c2)) = true →
           (ltC (a0,a1,a2) (c0,c1,c2)=true)))))))))) ∧
     (¬ltC (a0, a1, a2) (b0, b1, b2) = true →
      ((ltC (b0,b1,b2) (a0,a1,a2)=true →
        ((sameS (List.take 3 (List.drop 0 [SL.str a0,SL.int IntKind.i64 a1,SL.int IntKind.i64 a2])) (List.take 3 (List.drop 0 [SL.str b0,SL.int IntKind.i64 b1,SL.int IntKind.i64 b2]))=true →
          (false=true)) ∧
        (¬sameS (List.take 3 (List.drop 0 [SL.str a0, SL.int IntKind.i64 a1, SL.int IntKind.i64 a2])) (List.take 3 (List.drop 0 [SL.str b0, SL.int IntKind.i64 b1, SL.int IntKind.i64 b2])) = true →
         (((!ltC (a0,a1,a2) (b0,b1,b2))=true →
           True) ∧
         (¬(!ltC (a0, a1, a2) (b0, b1, b2)) = true →
          (((!ltC (b0,b1,b2) (c0,c1,c2))=true →
            True) ∧
          (¬(!ltC (b0, b1, b2) (c0, c1, c2)) = true →
           (ltC (a0,a1,a2) (c0,c1,c2)=true)))))))) ∧
      (¬ltC (b0, b1, b2) (a0, a1, a2) = true →
       ((sameS (List.take 3 (List.drop 0 [SL.str a0,SL.int IntKind.i64 a1,SL.int IntKind.i64 a2])) (List.take 3 (List.drop 0 [SL.str b0,SL.int IntKind.i64 b1,SL.int IntKind.i64 b2]))=true →
         (((!ltC (a0,a1,a2) (b0,b1,b2))=true →
           True) ∧
         (¬(!ltC (a0, a1, a2) (b0, b1, b2)) = true →
          (((!ltC (b0,b1,b2) (c0,c1,c2))=true →
            True) ∧
          (¬(!ltC (b0, b1, b2) (c0, c1, c2)) = true →
           (ltC (a0,a1,a2) (c0,c1,c2)=true)))))) ∧
       (¬sameS (List.take 3 (List.drop 0 [SL.str a0, SL.int IntKind.i64 a1, SL.int IntKind.i64 a2])) (List.take 3 (List.drop 0 [SL.str b0, SL.int IntKind.i64 b1, SL.int IntKind.i64 b2])) = true →
        (false=true)))))))))) (by kernel_rfl) (by
    refine ⟨fun h=>(by cases h),fun _=>?_⟩
    have hs:sameS (List.take 3 (List.drop 0 [SL.str a0,SL.int IntKind.i64 a1,SL.int IntKind.i64 a2])) (List.take 3 (List.drop 0 [SL.str b0,SL.int IntKind.i64 b1,SL.int IntKind.i64 b2]))=decide (((a0,a1,a2):Cd)=(b0,b1,b2)):=same_cd (a0,a1,a2) (b0,b1,b2)
    rw [hs]
    have nn:∀ {x:Bool} {p:Prop},¬ (!x)=true→(x=true→p)→p:=fun {x} {p} h k=>k (by cases x <;> simp at h ⊢)
    have fin:((!ltC (a0,a1,a2) (b0,b1,b2))=true→True)∧(¬(!ltC (a0,a1,a2) (b0,b1,b2))=true→(((!ltC (b0,b1,b2) (c0,c1,c2))=true→True)∧(¬(!ltC (b0,b1,b2) (c0,c1,c2))=true→(ltC (a0,a1,a2) (c0,c1,c2)=true)))):=
      ⟨fun _=>trivial,fun h1=>⟨fun _=>trivial,fun h2=>nn h1 fun h1=>nn h2 fun h2=>ltC_trans h1 h2⟩⟩
    refine ⟨fun h1=>⟨fun h2=>?_,fun h2=>⟨fun h3=>?_,fun h3=>fin⟩⟩,fun h1=>⟨fun h2=>⟨fun h3=>?_,fun h3=>fin⟩,fun h2=>⟨fun h3=>fin,fun h3=>?_⟩⟩⟩
    · rw [ltC_asy h1] at h2;cases h2
    · rw [decide_eq_true_eq] at h3;rw [h3,ltC_irr] at h1;cases h1
    · rw [decide_eq_true_eq] at h3;rw [h3,ltC_irr] at h2;cases h2
    · rw [decide_eq_true_eq] at h3
      rcases ltC_tot (a0,a1,a2) (b0,b1,b2) with h | h | h
      · exact absurd h h1
      · exact absurd h h3
      · exact absurd h h2))
end Go.EA
