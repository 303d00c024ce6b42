/- The law RunesJoin: the walk. Conditions: none. (Printed by a program of this project's own.) -/
import Derived.Test.YtngcpifknomecaaDoorEAf1
import Derived.Test.YtngcpifknomecaaDoorERng
import Derived.Test.YtngcpifknomecaaDoorEMean1
import Derived.Test.YtngcpifknomecaaDoorEDecLaw
import Derived.KernelRfl
set_option linter.unusedVariables false
set_option linter.unusedSimpArgs false
set_option maxRecDepth 100000
set_option maxHeartbeats 0
namespace Go.EA
open F
section
variable {S : SC} {X : Cx}
theorem w3 (hS : S.Good X) (hp16 : X.pr 16 = some (pureP g16)) (hp17 : X.pr 17 = some (pureP g17)) (hp18 : X.pr 18 = some (pureP g18)) (h3 : S.has 3 f3) (a b : List UInt8) : MF S 3 [] [.one (.str a), .one (.str b)] (hl []) fun v _ => v = .one (.bool true) := by
  have la := decR_len a
  have lb := decR_len b
  have lab := decR_len (a ++ b)
  rw [List.length_append] at lab
  refine MF.run hS h3 ([.one (.str a), .one (.str b)] ++ List.replicate (f3.nt - f3.np) und) rfl rfl ?_
  refine run_sound hS (n := 7) (b := bm 65 [0, 1]) (s' := ⟨.normal, [.ops f3_1 0, .code f3_4, .code f3_25], tl 65 [(0, (.one (.str (a)))), (1, (.one (.str (b))))], []⟩) (c := []) (by kernel_rfl) ⟨⟩ ?_
  refine SemS.callP hS hp16 rfl (by kernel_rfl) (by kernel_rfl) (vs := []) (by kernel_rfl) (v := (.one (.bool true))) (c := []) (c16) ⟨⟩ (T' := tl 65 [(0, (.one (.str (a)))), (1, (.one (.str (b)))), (11, (.one (.bool true)))]) (by kernel_rfl) ?_
  refine run_sound hS (n := 11) (b := bm 65 [0, 1, 16]) (s' := ⟨.normal, [.ops f3_6 4, .code f3_9, .code f3_24], tl 65 [(0, (.one (.str (a)))), (1, (.one (.str (b)))), (16, (.one (.bool (decide (2000 < (↑a.length : Int))))))], []⟩) (c := []) (by kernel_rfl) ⟨⟩ ?_
  cases hb0 : decide (2000 < (↑a.length : Int))
  · replace hb0 := of_decide_eq_false hb0; try simp only [List.length_map] at hb0
    refine run_sound hS (n := 5) (b := bm 65 [0, 1, 20]) (s' := ⟨.normal, [.code f3_9, .code f3_24], tl 65 [(0, (.one (.str (a)))), (1, (.one (.str (b)))), (20, (.one (.bool (decide (2000 < (↑b.length : Int))))))], []⟩) (c := []) (by kernel_rfl) ⟨⟩ ?_
    cases hb1 : decide (2000 < (↑b.length : Int))
    · replace hb1 := of_decide_eq_false hb1; try simp only [List.length_map] at hb1
      refine run_sound hS (n := 5) (b := bm 65 [0, 1, 22]) (s' := ⟨.normal, [.ops f3_11 1, .code f3_23], tl 65 [(0, (.one (.str (a)))), (1, (.one (.str (b)))), (22, (.one (.str (a))))], []⟩) (c := []) (by kernel_rfl) ⟨⟩ ?_
      refine SemS.callP hS hp17 rfl (by kernel_rfl) (by kernel_rfl) (vs := [(.one (.str (a)))]) (by kernel_rfl) (v := (.tup [(.one (.vrow 1 (R32 (decR a)))), (.one (.int .i64 (decE a)))])) (c := [a.length ≤ (1099511627776 : Nat)]) (c17 (a)) ⟨by omega, ⟨⟩⟩ (T' := tl 65 [(0, (.one (.str (a)))), (1, (.one (.str (b)))), (22, (.one (.str (a)))), (23, (.tup [(.one (.vrow 1 (R32 (decR a)))), (.one (.int .i64 (decE a)))]))]) (by kernel_rfl) ?_
      refine run_sound hS (n := 9) (b := bm 65 [0, 1, 5, 6, 27]) (s' := ⟨.normal, [.ops f3_12 1, .code f3_22], tl 65 [(0, (.one (.str (a)))), (1, (.one (.str (b)))), (5, (.one (.vrow 1 (R32 (decR a))))), (6, (.one (.int .i64 (decE a)))), (27, (.one (.str (b))))], []⟩) (c := []) (by kernel_rfl) ⟨⟩ ?_
      refine SemS.callP hS hp17 rfl (by kernel_rfl) (by kernel_rfl) (vs := [(.one (.str (b)))]) (by kernel_rfl) (v := (.tup [(.one (.vrow 1 (R32 (decR b)))), (.one (.int .i64 (decE b)))])) (c := [b.length ≤ (1099511627776 : Nat)]) (c17 (b)) ⟨by omega, ⟨⟩⟩ (T' := tl 65 [(0, (.one (.str (a)))), (1, (.one (.str (b)))), (5, (.one (.vrow 1 (R32 (decR a))))), (6, (.one (.int .i64 (decE a)))), (27, (.one (.str (b)))), (28, (.tup [(.one (.vrow 1 (R32 (decR b)))), (.one (.int .i64 (decE b)))]))]) (by kernel_rfl) ?_
      refine run_sound hS (n := 11) (b := bm 65 [5, 6, 7, 8, 34]) (s' := ⟨.normal, [.ops f3_13 3, .code f3_21], tl 65 [(5, (.one (.vrow 1 (R32 (decR a))))), (6, (.one (.int .i64 (decE a)))), (7, (.one (.vrow 1 (R32 (decR b))))), (8, (.one (.int .i64 (decE b)))), (34, (.one (.str (a ++ b))))], []⟩) (c := [a.length + b.length ≤ (9223372036854775807 : Nat)]) (by kernel_rfl) ⟨by omega, ⟨⟩⟩ ?_
      refine SemS.callP hS hp17 rfl (by kernel_rfl) (by kernel_rfl) (vs := [(.one (.str (a ++ b)))]) (by kernel_rfl) (v := (.tup [(.one (.vrow 1 (R32 (decR (a ++ b))))), (.one (.int .i64 (decE (a ++ b))))])) (c := [(a ++ b).length ≤ (1099511627776 : Nat)]) (c17 (a ++ b)) ⟨by (try simp only [List.length_map, List.length_cons, List.length_nil, List.length_append, List.length_take, List.length_drop]); omega, ⟨⟩⟩ (T' := tl 65 [(5, (.one (.vrow 1 (R32 (decR a))))), (6, (.one (.int .i64 (decE a)))), (7, (.one (.vrow 1 (R32 (decR b))))), (8, (.one (.int .i64 (decE b)))), (34, (.one (.str (a ++ b)))), (35, (.tup [(.one (.vrow 1 (R32 (decR (a ++ b))))), (.one (.int .i64 (decE (a ++ b))))]))]) (by kernel_rfl) ?_
      refine run_sound hS (n := 12) (b := bm 65 [5, 6, 7, 8, 9, 10, 40]) (s' := ⟨.normal, [.ops f3_14 3, .code f3_17, .code f3_20], tl 65 [(5, (.one (.vrow 1 (R32 (decR a))))), (6, (.one (.int .i64 (decE a)))), (7, (.one (.vrow 1 (R32 (decR b))))), (8, (.one (.int .i64 (decE b)))), (9, (.one (.vrow 1 (R32 (decR (a ++ b)))))), (10, (.one (.int .i64 (decE (a ++ b))))), (40, (.one (.bool (decide (decE a = 0)))))], []⟩) (c := []) (by kernel_rfl) ⟨⟩ ?_
      cases hb2 : decide (decE a = 0)
      · replace hb2 := of_decide_eq_false hb2; try simp only [List.length_map] at hb2
        refine run_sound hS (n := 11) (b := bm 65 [8, 10, 57]) (s' := ⟨.normal, [.ops f3_19 3, .code .ret], tl 65 [(8, (.one (.int .i64 (decE b)))), (10, (.one (.int .i64 (decE (a ++ b))))), (57, (.one (.bool (decide (decE a ≠ 0)))))], []⟩) (c := []) (by kernel_rfl) ⟨⟩ ?_
        cases hb3 : decide (decE a ≠ 0)
        · replace hb3 := of_decide_eq_false hb3; try simp only [List.length_map] at hb3
          refine run_sound hS (n := 10) (b := []) (s' := ⟨.ret, [], tl 65 [(4, (.one (.bool (decide (decE (a ++ b) ≠ 0))))), (8, (.one (.int .i64 (decE b)))), (10, (.one (.int .i64 (decE (a ++ b))))), (57, (.one (.bool false))), (58, und), (59, und), (60, (.one (.bool false))), (61, (.one (.bool false))), (62, (.one (.int .i64 (decE (a ++ b))))), (63, (.one (.bool (decide (decE (a ++ b) ≠ 0))))), (64, (.one (.bool (decide (decE (a ++ b) ≠ 0)))))], []⟩) (c := []) (by kernel_rfl) ⟨⟩ ?_
          refine SemS.done (.inl rfl) Abs.refl (v := (.one (.bool (decide (decE (a ++ b) ≠ 0))))) (by kernel_rfl) ?_
          have L1 := dec_join a b
          have L2 := dec_split a b
          simp_all
        · replace hb3 := of_decide_eq_true hb3; try simp only [List.length_map] at hb3
          refine run_sound hS (n := 4) (b := bm 65 [10, 61]) (s' := ⟨.normal, [.ops f3_19 7, .code .ret], tl 65 [(10, (.one (.int .i64 (decE (a ++ b))))), (61, (.one (.bool (decide (decE b ≠ 0)))))], []⟩) (c := []) (by kernel_rfl) ⟨⟩ ?_
          cases hb4 : decide (decE b ≠ 0)
          · replace hb4 := of_decide_eq_false hb4; try simp only [List.length_map] at hb4
            refine run_sound hS (n := 6) (b := []) (s' := ⟨.ret, [], tl 65 [(4, (.one (.bool (decide (decE (a ++ b) ≠ 0))))), (10, (.one (.int .i64 (decE (a ++ b))))), (61, (.one (.bool false))), (62, (.one (.int .i64 (decE (a ++ b))))), (63, (.one (.bool (decide (decE (a ++ b) ≠ 0))))), (64, (.one (.bool (decide (decE (a ++ b) ≠ 0)))))], []⟩) (c := []) (by kernel_rfl) ⟨⟩ ?_
            refine SemS.done (.inl rfl) Abs.refl (v := (.one (.bool (decide (decE (a ++ b) ≠ 0))))) (by kernel_rfl) ?_
            have L1 := dec_join a b
            have L2 := dec_split a b
            simp_all
          · replace hb4 := of_decide_eq_true hb4; try simp only [List.length_map] at hb4
            refine run_sound hS (n := 6) (b := []) (s' := ⟨.ret, [], tl 65 [(4, (.one (.bool true))), (10, (.one (.int .i64 (decE (a ++ b))))), (61, (.one (.bool true))), (62, und), (63, und), (64, (.one (.bool true)))], []⟩) (c := []) (by kernel_rfl) ⟨⟩ ?_
            refine SemS.done (.inl rfl) Abs.refl (v := (.one (.bool true))) (by kernel_rfl) ?_
            have L1 := dec_join a b
            have L2 := dec_split a b
            simp_all
      · replace hb2 := of_decide_eq_true hb2; try simp only [List.length_map] at hb2
        refine run_sound hS (n := 4) (b := bm 65 [5, 6, 7, 8, 9, 10, 43]) (s' := ⟨.normal, [.code f3_17, .code f3_20], tl 65 [(5, (.one (.vrow 1 (R32 (decR a))))), (6, (.one (.int .i64 (decE a)))), (7, (.one (.vrow 1 (R32 (decR b))))), (8, (.one (.int .i64 (decE b)))), (9, (.one (.vrow 1 (R32 (decR (a ++ b)))))), (10, (.one (.int .i64 (decE (a ++ b))))), (43, (.one (.bool (decide (decE b = 0)))))], []⟩) (c := []) (by kernel_rfl) ⟨⟩ ?_
        cases hb3 : decide (decE b = 0)
        · replace hb3 := of_decide_eq_false hb3; try simp only [List.length_map] at hb3
          refine run_sound hS (n := 7) (b := bm 65 [8, 10, 57]) (s' := ⟨.normal, [.ops f3_19 3, .code .ret], tl 65 [(8, (.one (.int .i64 (decE b)))), (10, (.one (.int .i64 (decE (a ++ b))))), (57, (.one (.bool (decide (decE a ≠ 0)))))], []⟩) (c := []) (by kernel_rfl) ⟨⟩ ?_
          cases hb4 : decide (decE a ≠ 0)
          · replace hb4 := of_decide_eq_false hb4; try simp only [List.length_map] at hb4
            refine run_sound hS (n := 10) (b := []) (s' := ⟨.ret, [], tl 65 [(4, (.one (.bool (decide (decE (a ++ b) ≠ 0))))), (8, (.one (.int .i64 (decE b)))), (10, (.one (.int .i64 (decE (a ++ b))))), (57, (.one (.bool false))), (58, und), (59, und), (60, (.one (.bool false))), (61, (.one (.bool false))), (62, (.one (.int .i64 (decE (a ++ b))))), (63, (.one (.bool (decide (decE (a ++ b) ≠ 0))))), (64, (.one (.bool (decide (decE (a ++ b) ≠ 0)))))], []⟩) (c := []) (by kernel_rfl) ⟨⟩ ?_
            refine SemS.done (.inl rfl) Abs.refl (v := (.one (.bool (decide (decE (a ++ b) ≠ 0))))) (by kernel_rfl) ?_
            have L1 := dec_join a b
            have L2 := dec_split a b
            simp_all
          · replace hb4 := of_decide_eq_true hb4; try simp only [List.length_map] at hb4
            refine run_sound hS (n := 4) (b := bm 65 [10, 61]) (s' := ⟨.normal, [.ops f3_19 7, .code .ret], tl 65 [(10, (.one (.int .i64 (decE (a ++ b))))), (61, (.one (.bool (decide (decE b ≠ 0)))))], []⟩) (c := []) (by kernel_rfl) ⟨⟩ ?_
            cases hb5 : decide (decE b ≠ 0)
            · replace hb5 := of_decide_eq_false hb5; try simp only [List.length_map] at hb5
              refine run_sound hS (n := 6) (b := []) (s' := ⟨.ret, [], tl 65 [(4, (.one (.bool (decide (decE (a ++ b) ≠ 0))))), (10, (.one (.int .i64 (decE (a ++ b))))), (61, (.one (.bool false))), (62, (.one (.int .i64 (decE (a ++ b))))), (63, (.one (.bool (decide (decE (a ++ b) ≠ 0))))), (64, (.one (.bool (decide (decE (a ++ b) ≠ 0)))))], []⟩) (c := []) (by kernel_rfl) ⟨⟩ ?_
              refine SemS.done (.inl rfl) Abs.refl (v := (.one (.bool (decide (decE (a ++ b) ≠ 0))))) (by kernel_rfl) ?_
              have L1 := dec_join a b
              have L2 := dec_split a b
              simp_all
            · replace hb5 := of_decide_eq_true hb5; try simp only [List.length_map] at hb5
              refine run_sound hS (n := 6) (b := []) (s' := ⟨.ret, [], tl 65 [(4, (.one (.bool true))), (10, (.one (.int .i64 (decE (a ++ b))))), (61, (.one (.bool true))), (62, und), (63, und), (64, (.one (.bool true)))], []⟩) (c := []) (by kernel_rfl) ⟨⟩ ?_
              refine SemS.done (.inl rfl) Abs.refl (v := (.one (.bool true))) (by kernel_rfl) ?_
              have L1 := dec_join a b
              have L2 := dec_split a b
              simp_all
        · replace hb3 := of_decide_eq_true hb3; try simp only [List.length_map] at hb3
          refine run_sound hS (n := 6) (b := bm 65 [5, 7, 9, 46]) (s' := ⟨.normal, [.ops f3_15 3, .code .ret, .code f3_20], tl 65 [(5, (.one (.vrow 1 (R32 (decR a))))), (7, (.one (.vrow 1 (R32 (decR b))))), (9, (.one (.vrow 1 (R32 (decR (a ++ b)))))), (46, (.one (.bool (decide (decE (a ++ b) = 0)))))], []⟩) (c := []) (by kernel_rfl) ⟨⟩ ?_
          cases hb4 : decide (decE (a ++ b) = 0)
          · replace hb4 := of_decide_eq_false hb4; try simp only [List.length_map] at hb4
            refine run_sound hS (n := 11) (b := []) (s' := ⟨.ret, [], tl 65 [(4, (.one (.bool false))), (5, (.one (.vrow 1 (R32 (decR a))))), (7, (.one (.vrow 1 (R32 (decR b))))), (9, (.one (.vrow 1 (R32 (decR (a ++ b)))))), (46, (.one (.bool false))), (47, und), (48, und), (49, und), (50, und), (51, und), (52, und), (53, und), (54, (.one (.bool false)))], []⟩) (c := []) (by kernel_rfl) ⟨⟩ ?_
            refine SemS.done (.inl rfl) Abs.refl (v := (.one (.bool false))) (by kernel_rfl) ?_
            have L1 := dec_join a b
            have L2 := dec_split a b
            simp_all
          · replace hb4 := of_decide_eq_true hb4; try simp only [List.length_map] at hb4
            refine run_sound hS (n := 3) (b := bm 65 [7, 46, 47, 48, 49]) (s' := ⟨.normal, [.ops f3_15 6, .code .ret, .code f3_20], tl 65 [(7, (.one (.vrow 1 (R32 (decR b))))), (46, (.one (.bool true))), (47, (.one (.vrow 1 (R32 (decR (a ++ b)))))), (48, (.one (.sl 0 0 0))), (49, (.one (.vrow 1 (R32 (decR a)))))], [(.blk 1 [] true)]⟩) (c := []) (by kernel_rfl) ⟨⟩ ?_
            rcases hb5 : decR a with _ | ⟨y5, t5⟩
            · skip
              refine run_sound hS (n := 2) (b := bm 65 [46, 47, 50, 51]) (s' := ⟨.normal, [.ops f3_15 8, .code .ret, .code f3_20], tl 65 [(46, (.one (.bool true))), (47, (.one (.vrow 1 (R32 (decR (a ++ b)))))), (50, (.one (.sl 0 0 0))), (51, (.one (.vrow 1 (R32 (decR b)))))], [(.blk 1 [] true)]⟩) (c := []) (by kernel_rfl) ⟨⟩ ?_
              rcases hb6 : decR b with _ | ⟨y6, t6⟩
              · skip
                refine run_sound hS (n := 1) (b := bm 65 [46, 47, 52]) (s' := ⟨.normal, [.ops f3_15 9, .code .ret, .code f3_20], tl 65 [(46, (.one (.bool true))), (47, (.one (.vrow 1 (R32 (decR (a ++ b)))))), (52, (.one (.sl 0 0 0)))], [(.blk 1 [] true)]⟩) (c := []) (by kernel_rfl) ⟨⟩ ?_
                refine SemS.absO (abs_l (L1 := [.dead]) [1000] [0] 65 [(46, (.one (.bool true))), (47, (.one (.vrow 1 (R32 (decR (a ++ b)))))), (52, (.one (.vrow 1 [])))] (by kernel_rfl) ⟨⟨_, _, rfl, by first | rfl | simp [elsClosed, Lf.closed]⟩, ⟨⟩⟩ ⟨.dead, ⟨⟩⟩ ⟨.one (.same rfl), .one (.same rfl), .one (.row0 (by decide) rfl (by first | rfl | (simp <;> omega)) rfl), ⟨⟩⟩) ?_
                refine SemS.callP hS hp18 rfl (by kernel_rfl) (by kernel_rfl) (vs := [(.one (.vrow 1 (R32 (decR (a ++ b))))), (.one (.vrow 1 []))]) (by kernel_rfl) (v := (.one (.bool (decide (decR (a ++ b) = []))))) (c := [(decR (a ++ b)).length ≤ (1099511627776 : Nat)]) (c18 (decR (a ++ b)) ([])) ⟨by (try simp only [List.length_map, List.length_cons, List.length_nil, List.length_append, List.length_take, List.length_drop]); omega, ⟨⟩⟩ (T' := tl 65 [(46, (.one (.bool true))), (47, (.one (.vrow 1 (R32 (decR (a ++ b)))))), (52, (.one (.vrow 1 []))), (53, (.one (.bool (decide (decR (a ++ b) = [])))))]) (by kernel_rfl) ?_
                refine run_sound hS (n := 4) (b := []) (s' := ⟨.ret, [], tl 65 [(4, (.one (.bool (decide (decR (a ++ b) = []))))), (46, (.one (.bool true))), (47, (.one (.vrow 1 (R32 (decR (a ++ b)))))), (52, (.one (.vrow 1 []))), (53, (.one (.bool (decide (decR (a ++ b) = []))))), (54, (.one (.bool (decide (decR (a ++ b) = [])))))], [.dead]⟩) (c := []) (by kernel_rfl) ⟨⟩ ?_
                refine SemS.done (.inl rfl) Abs.refl (v := (.one (.bool (decide (decR (a ++ b) = []))))) (by kernel_rfl) ?_
                have L1 := dec_join a b
                have L2 := dec_split a b
                simp_all
              · skip
                refine SemS.step hS rfl (by kernel_rfl) rfl (v := (.one (.sl 1 0 (0 + (y6 :: t6).length)))) (L1 := [.dead, (.blk 1 (R32 (y6 :: t6)) true)]) (app_map (b := 0) (s := 1) (bytes := 4) (n := 0) (f := fun r => [Lf.int IntKind.i32 r]) (l := []) (l2 := y6 :: t6) (by kernel_rfl) (by kernel_rfl) (by kernel_rfl) (by simp) (by first | rfl | (simp <;> omega)) (by simp only [*, List.length_cons, List.length_nil, List.length_append] at la lb ⊢; omega) (by kernel_rfl) (by kernel_rfl)) (T' := tl 65 [(46, (.one (.bool true))), (47, (.one (.vrow 1 (R32 (decR (a ++ b)))))), (50, (.one (.sl 0 0 0))), (51, (.one (.vrow 1 (R32 (y6 :: t6))))), (52, (.one (.sl 1 0 (0 + (y6 :: t6).length))))]) (by kernel_rfl) ?_
                refine SemS.absO (abs_l (L1 := [.dead, .dead]) [0, 1001] [1] 65 [(46, (.one (.bool true))), (47, (.one (.vrow 1 (R32 (decR (a ++ b)))))), (52, (.one (.vrow 1 (R32 (y6 :: t6)))))] (by kernel_rfl) ⟨⟨_, _, rfl, by first | rfl | simp [elsClosed, Lf.closed]⟩, ⟨⟩⟩ ⟨.dead, .dead, ⟨⟩⟩ ⟨.one (.same rfl), .one (.same rfl), .one (.row0 (by decide) rfl (by first | rfl | (simp <;> omega)) rfl), ⟨⟩⟩) ?_
                refine SemS.callP hS hp18 rfl (by kernel_rfl) (by kernel_rfl) (vs := [(.one (.vrow 1 (R32 (decR (a ++ b))))), (.one (.vrow 1 (R32 (y6 :: t6))))]) (by kernel_rfl) (v := (.one (.bool (decide (decR (a ++ b) = y6 :: t6))))) (c := [(decR (a ++ b)).length ≤ (1099511627776 : Nat)]) (c18 (decR (a ++ b)) (y6 :: t6)) ⟨by (try simp only [List.length_map, List.length_cons, List.length_nil, List.length_append, List.length_take, List.length_drop]); omega, ⟨⟩⟩ (T' := tl 65 [(46, (.one (.bool true))), (47, (.one (.vrow 1 (R32 (decR (a ++ b)))))), (52, (.one (.vrow 1 (R32 (y6 :: t6))))), (53, (.one (.bool (decide (decR (a ++ b) = y6 :: t6)))))]) (by kernel_rfl) ?_
                refine run_sound hS (n := 4) (b := []) (s' := ⟨.ret, [], tl 65 [(4, (.one (.bool (decide (decR (a ++ b) = y6 :: t6))))), (46, (.one (.bool true))), (47, (.one (.vrow 1 (R32 (decR (a ++ b)))))), (52, (.one (.vrow 1 (R32 (y6 :: t6))))), (53, (.one (.bool (decide (decR (a ++ b) = y6 :: t6))))), (54, (.one (.bool (decide (decR (a ++ b) = y6 :: t6)))))], [.dead, .dead]⟩) (c := []) (by kernel_rfl) ⟨⟩ ?_
                refine SemS.done (.inl rfl) Abs.refl (v := (.one (.bool (decide (decR (a ++ b) = y6 :: t6))))) (by kernel_rfl) ?_
                have L1 := dec_join a b
                have L2 := dec_split a b
                simp_all
            · skip
              refine SemS.step hS rfl (by kernel_rfl) rfl (v := (.one (.sl 1 0 (0 + (y5 :: t5).length)))) (L1 := [.dead, (.blk 1 (R32 (y5 :: t5)) true)]) (app_map (b := 0) (s := 1) (bytes := 4) (n := 0) (f := fun r => [Lf.int IntKind.i32 r]) (l := []) (l2 := y5 :: t5) (by kernel_rfl) (by kernel_rfl) (by kernel_rfl) (by simp) (by first | rfl | (simp <;> omega)) (by simp only [*, List.length_cons, List.length_nil, List.length_append] at la lb ⊢; omega) (by kernel_rfl) (by kernel_rfl)) (T' := tl 65 [(7, (.one (.vrow 1 (R32 (decR b))))), (46, (.one (.bool true))), (47, (.one (.vrow 1 (R32 (decR (a ++ b)))))), (48, (.one (.sl 0 0 0))), (49, (.one (.vrow 1 (R32 (y5 :: t5))))), (50, (.one (.sl 1 0 (0 + (y5 :: t5).length))))]) (by kernel_rfl) ?_
              refine run_sound hS (n := 1) (b := bm 65 [46, 47, 50, 51]) (s' := ⟨.normal, [.ops f3_15 8, .code .ret, .code f3_20], tl 65 [(46, (.one (.bool true))), (47, (.one (.vrow 1 (R32 (decR (a ++ b)))))), (50, (.one (.sl 1 0 (0 + (y5 :: t5).length)))), (51, (.one (.vrow 1 (R32 (decR b)))))], [.dead, (.blk 1 (R32 (y5 :: t5)) true)]⟩) (c := []) (by kernel_rfl) ⟨⟩ ?_
              rcases hb6 : decR b with _ | ⟨y6, t6⟩
              · skip
                refine run_sound hS (n := 1) (b := bm 65 [46, 47, 52]) (s' := ⟨.normal, [.ops f3_15 9, .code .ret, .code f3_20], tl 65 [(46, (.one (.bool true))), (47, (.one (.vrow 1 (R32 (decR (a ++ b)))))), (52, (.one (.sl 1 0 (0 + (y5 :: t5).length))))], [.dead, (.blk 1 (R32 (y5 :: t5)) true)]⟩) (c := []) (by kernel_rfl) ⟨⟩ ?_
                refine SemS.absO (abs_l (L1 := [.dead, .dead]) [0, 1001] [1] 65 [(46, (.one (.bool true))), (47, (.one (.vrow 1 (R32 (decR (a ++ b)))))), (52, (.one (.vrow 1 (R32 (y5 :: t5)))))] (by kernel_rfl) ⟨⟨_, _, rfl, by first | rfl | simp [elsClosed, Lf.closed]⟩, ⟨⟩⟩ ⟨.dead, .dead, ⟨⟩⟩ ⟨.one (.same rfl), .one (.same rfl), .one (.row0 (by decide) rfl (by first | rfl | (simp <;> omega)) rfl), ⟨⟩⟩) ?_
                refine SemS.callP hS hp18 rfl (by kernel_rfl) (by kernel_rfl) (vs := [(.one (.vrow 1 (R32 (decR (a ++ b))))), (.one (.vrow 1 (R32 (y5 :: t5))))]) (by kernel_rfl) (v := (.one (.bool (decide (decR (a ++ b) = y5 :: t5))))) (c := [(decR (a ++ b)).length ≤ (1099511627776 : Nat)]) (c18 (decR (a ++ b)) (y5 :: t5)) ⟨by (try simp only [List.length_map, List.length_cons, List.length_nil, List.length_append, List.length_take, List.length_drop]); omega, ⟨⟩⟩ (T' := tl 65 [(46, (.one (.bool true))), (47, (.one (.vrow 1 (R32 (decR (a ++ b)))))), (52, (.one (.vrow 1 (R32 (y5 :: t5))))), (53, (.one (.bool (decide (decR (a ++ b) = y5 :: t5)))))]) (by kernel_rfl) ?_
                refine run_sound hS (n := 4) (b := []) (s' := ⟨.ret, [], tl 65 [(4, (.one (.bool (decide (decR (a ++ b) = y5 :: t5))))), (46, (.one (.bool true))), (47, (.one (.vrow 1 (R32 (decR (a ++ b)))))), (52, (.one (.vrow 1 (R32 (y5 :: t5))))), (53, (.one (.bool (decide (decR (a ++ b) = y5 :: t5))))), (54, (.one (.bool (decide (decR (a ++ b) = y5 :: t5)))))], [.dead, .dead]⟩) (c := []) (by kernel_rfl) ⟨⟩ ?_
                refine SemS.done (.inl rfl) Abs.refl (v := (.one (.bool (decide (decR (a ++ b) = y5 :: t5))))) (by kernel_rfl) ?_
                have L1 := dec_join a b
                have L2 := dec_split a b
                simp_all
              · skip
                refine SemS.step hS rfl (by kernel_rfl) rfl (v := (.one (.sl 2 0 ((y5 :: t5).length + (y6 :: t6).length)))) (L1 := [.dead, .dead, (.blk 1 (R32 (y5 :: t5 ++ y6 :: t6)) true)]) (app_map (b := 1) (s := 1) (bytes := 4) (n := (0 + (y5 :: t5).length)) (f := fun r => [Lf.int IntKind.i32 r]) (l := y5 :: t5) (l2 := y6 :: t6) (by kernel_rfl) (by kernel_rfl) (by kernel_rfl) (by simp) (by first | rfl | (simp <;> omega)) (by simp only [*, List.length_cons, List.length_nil, List.length_append] at la lb ⊢; omega) (by kernel_rfl) (by kernel_rfl)) (T' := tl 65 [(46, (.one (.bool true))), (47, (.one (.vrow 1 (R32 (decR (a ++ b)))))), (50, (.one (.sl 1 0 (0 + (y5 :: t5).length)))), (51, (.one (.vrow 1 (R32 (y6 :: t6))))), (52, (.one (.sl 2 0 ((y5 :: t5).length + (y6 :: t6).length))))]) (by kernel_rfl) ?_
                refine SemS.absO (abs_l (L1 := [.dead, .dead, .dead]) [0, 1, 1002] [2] 65 [(46, (.one (.bool true))), (47, (.one (.vrow 1 (R32 (decR (a ++ b)))))), (52, (.one (.vrow 1 (R32 (y5 :: t5 ++ y6 :: t6)))))] (by kernel_rfl) ⟨⟨_, _, rfl, by first | rfl | simp [elsClosed, Lf.closed]⟩, ⟨⟩⟩ ⟨.dead, .dead, .dead, ⟨⟩⟩ ⟨.one (.same rfl), .one (.same rfl), .one (.row0 (by decide) rfl (by first | rfl | (simp <;> omega)) rfl), ⟨⟩⟩) ?_
                refine SemS.callP hS hp18 rfl (by kernel_rfl) (by kernel_rfl) (vs := [(.one (.vrow 1 (R32 (decR (a ++ b))))), (.one (.vrow 1 (R32 (y5 :: t5 ++ y6 :: t6))))]) (by kernel_rfl) (v := (.one (.bool (decide (decR (a ++ b) = y5 :: t5 ++ y6 :: t6))))) (c := [(decR (a ++ b)).length ≤ (1099511627776 : Nat)]) (c18 (decR (a ++ b)) (y5 :: t5 ++ y6 :: t6)) ⟨by (try simp only [List.length_map, List.length_cons, List.length_nil, List.length_append, List.length_take, List.length_drop]); omega, ⟨⟩⟩ (T' := tl 65 [(46, (.one (.bool true))), (47, (.one (.vrow 1 (R32 (decR (a ++ b)))))), (52, (.one (.vrow 1 (R32 (y5 :: t5 ++ y6 :: t6))))), (53, (.one (.bool (decide (decR (a ++ b) = y5 :: t5 ++ y6 :: t6)))))]) (by kernel_rfl) ?_
                refine run_sound hS (n := 4) (b := []) (s' := ⟨.ret, [], tl 65 [(4, (.one (.bool (decide (decR (a ++ b) = y5 :: t5 ++ y6 :: t6))))), (46, (.one (.bool true))), (47, (.one (.vrow 1 (R32 (decR (a ++ b)))))), (52, (.one (.vrow 1 (R32 (y5 :: t5 ++ y6 :: t6))))), (53, (.one (.bool (decide (decR (a ++ b) = y5 :: t5 ++ y6 :: t6))))), (54, (.one (.bool (decide (decR (a ++ b) = y5 :: t5 ++ y6 :: t6)))))], [.dead, .dead, .dead]⟩) (c := []) (by kernel_rfl) ⟨⟩ ?_
                refine SemS.done (.inl rfl) Abs.refl (v := (.one (.bool (decide (decR (a ++ b) = y5 :: t5 ++ y6 :: t6))))) (by kernel_rfl) ?_
                have L1 := dec_join a b
                have L2 := dec_split a b
                simp_all
    · replace hb1 := of_decide_eq_true hb1; try simp only [List.length_map] at hb1
      refine run_sound hS (n := 6) (b := []) (s' := ⟨.ret, [], tl 65 [(0, (.one (.str (a)))), (1, (.one (.str (b)))), (4, (.one (.bool true))), (20, (.one (.bool true)))], []⟩) (c := []) (by kernel_rfl) ⟨⟩ ?_
      refine SemS.done (.inl rfl) Abs.refl (v := (.one (.bool true))) (by kernel_rfl) ?_
      have L1 := dec_join a b
      have L2 := dec_split a b
      simp_all
  · replace hb0 := of_decide_eq_true hb0; try simp only [List.length_map] at hb0
    refine run_sound hS (n := 11) (b := []) (s' := ⟨.ret, [], tl 65 [(0, (.one (.str (a)))), (1, (.one (.str (b)))), (4, (.one (.bool true))), (16, (.one (.bool true))), (17, und), (18, und), (19, und), (20, (.one (.bool true)))], []⟩) (c := []) (by kernel_rfl) ⟨⟩ ?_
    refine SemS.done (.inl rfl) Abs.refl (v := (.one (.bool true))) (by kernel_rfl) ?_
    have L1 := dec_join a b
    have L2 := dec_split a b
    simp_all
end
end Go.EA
