/- Layer 1: Letter, Compare, Same. Conditions: none. (Printed by a program of this project's own.) -/
import Derived.Test.YtngcpifknomecaaDoorEAf1
import Derived.Test.YtngcpifknomecaaDoorEK4
import Derived.Test.YtngcpifknomecaaDoorEMean1
import Derived.KernelRfl
set_option linter.unusedVariables false
set_option linter.unusedSimpArgs false
set_option maxRecDepth 100000
set_option maxHeartbeats 0
namespace Go.EA
open F
section
variable {S : SC} {X : Cx}
theorem p55 (hS : S.Good X)  (h55 : S.has 55 f55) : PrOk S 55 (pureP g55) := by
  refine pure_rel 55 fun r hc => ⟨rfl, rfl, ?_⟩
  refine MF.run hS h55 ([.one (.int .i32 r)] ++ List.replicate (f55.nt - f55.np) und) rfl rfl ?_
  refine run_sound hS (n := 11) (b := bm 17 [0, 6]) (s' := ⟨.normal, [.ops f55_1 3, .code f55_9, .blk 0, .code f55_13], tl 17 [(0, (.one (.int .i32 (r)))), (6, (.one (.bool (decide (0 ≤ r)))))], []⟩) (c := []) (by kernel_rfl) ⟨⟩ ?_
  cases hb0 : decide (0 ≤ r)
  · replace hb0 := of_decide_eq_false hb0; try simp only [List.length_map] at hb0
    refine run_sound hS (n := 11) (b := bm 17 [0, 13]) (s' := ⟨.normal, [.ops f55_4 3, .code f55_7, .blk 0, .code f55_13], tl 17 [(0, (.one (.int .i32 (r)))), (13, (.one (.bool (decide (57343 < r)))))], []⟩) (c := []) (by kernel_rfl) ⟨⟩ ?_
    cases hb1 : decide (57343 < r)
    · replace hb1 := of_decide_eq_false hb1; try simp only [List.length_map] at hb1
      refine run_sound hS (n := 13) (b := []) (s' := ⟨.ret, [], tl 17 [(0, (.one (.int .i32 (r)))), (2, (.one (.bool false))), (10, (.one (.bool false))), (13, (.one (.bool false))), (14, und), (15, und), (16, (.one (.bool false)))], []⟩) (c := []) (by kernel_rfl) ⟨⟩ ?_
      refine SemS.done (.inl rfl) Abs.refl (v := (.one (.bool false))) (by kernel_rfl) ?_
      · show AV.one (.bool _) = AV.one (.bool (Utf8.valid r))
        congr 2; simp [Utf8.valid]; omega
    · replace hb1 := of_decide_eq_true hb1; try simp only [List.length_map] at hb1
      refine run_sound hS (n := 5) (b := bm 17 [10]) (s' := ⟨.normal, [.code f55_7, .blk 0, .code f55_13], tl 17 [(10, (.one (.bool (decide (r ≤ 1114111)))))], []⟩) (c := []) (by kernel_rfl) ⟨⟩ ?_
      cases hb2 : decide (r ≤ 1114111)
      · replace hb2 := of_decide_eq_false hb2; try simp only [List.length_map] at hb2
        refine run_sound hS (n := 8) (b := []) (s' := ⟨.ret, [], tl 17 [(2, (.one (.bool false))), (10, (.one (.bool false)))], []⟩) (c := []) (by kernel_rfl) ⟨⟩ ?_
        refine SemS.done (.inl rfl) Abs.refl (v := (.one (.bool false))) (by kernel_rfl) ?_
        · show AV.one (.bool _) = AV.one (.bool (Utf8.valid r))
          congr 2; simp [Utf8.valid]; omega
      · replace hb2 := of_decide_eq_true hb2; try simp only [List.length_map] at hb2
        refine run_sound hS (n := 6) (b := []) (s' := ⟨.ret, [], tl 17 [(2, (.one (.bool true))), (10, (.one (.bool true)))], []⟩) (c := []) (by kernel_rfl) ⟨⟩ ?_
        refine SemS.done (.inl rfl) Abs.refl (v := (.one (.bool true))) (by kernel_rfl) ?_
        · show AV.one (.bool _) = AV.one (.bool (Utf8.valid r))
          congr 2; simp [Utf8.valid]; omega
  · replace hb0 := of_decide_eq_true hb0; try simp only [List.length_map] at hb0
    refine run_sound hS (n := 5) (b := bm 17 [0, 3]) (s' := ⟨.normal, [.code f55_9, .blk 0, .code f55_13], tl 17 [(0, (.one (.int .i32 (r)))), (3, (.one (.bool (decide (r < 55296)))))], []⟩) (c := []) (by kernel_rfl) ⟨⟩ ?_
    cases hb1 : decide (r < 55296)
    · replace hb1 := of_decide_eq_false hb1; try simp only [List.length_map] at hb1
      refine run_sound hS (n := 6) (b := bm 17 [0, 13]) (s' := ⟨.normal, [.ops f55_4 3, .code f55_7, .blk 0, .code f55_13], tl 17 [(0, (.one (.int .i32 (r)))), (13, (.one (.bool (decide (57343 < r)))))], []⟩) (c := []) (by kernel_rfl) ⟨⟩ ?_
      cases hb2 : decide (57343 < r)
      · replace hb2 := of_decide_eq_false hb2; try simp only [List.length_map] at hb2
        refine run_sound hS (n := 13) (b := []) (s' := ⟨.ret, [], tl 17 [(0, (.one (.int .i32 (r)))), (2, (.one (.bool false))), (10, (.one (.bool false))), (13, (.one (.bool false))), (14, und), (15, und), (16, (.one (.bool false)))], []⟩) (c := []) (by kernel_rfl) ⟨⟩ ?_
        refine SemS.done (.inl rfl) Abs.refl (v := (.one (.bool false))) (by kernel_rfl) ?_
        · show AV.one (.bool _) = AV.one (.bool (Utf8.valid r))
          congr 2; simp [Utf8.valid]; omega
      · replace hb2 := of_decide_eq_true hb2; try simp only [List.length_map] at hb2
        refine run_sound hS (n := 5) (b := bm 17 [10]) (s' := ⟨.normal, [.code f55_7, .blk 0, .code f55_13], tl 17 [(10, (.one (.bool (decide (r ≤ 1114111)))))], []⟩) (c := []) (by kernel_rfl) ⟨⟩ ?_
        cases hb3 : decide (r ≤ 1114111)
        · replace hb3 := of_decide_eq_false hb3; try simp only [List.length_map] at hb3
          refine run_sound hS (n := 8) (b := []) (s' := ⟨.ret, [], tl 17 [(2, (.one (.bool false))), (10, (.one (.bool false)))], []⟩) (c := []) (by kernel_rfl) ⟨⟩ ?_
          refine SemS.done (.inl rfl) Abs.refl (v := (.one (.bool false))) (by kernel_rfl) ?_
          · show AV.one (.bool _) = AV.one (.bool (Utf8.valid r))
            congr 2; simp [Utf8.valid]; omega
        · replace hb3 := of_decide_eq_true hb3; try simp only [List.length_map] at hb3
          refine run_sound hS (n := 6) (b := []) (s' := ⟨.ret, [], tl 17 [(2, (.one (.bool true))), (10, (.one (.bool true)))], []⟩) (c := []) (by kernel_rfl) ⟨⟩ ?_
          refine SemS.done (.inl rfl) Abs.refl (v := (.one (.bool true))) (by kernel_rfl) ?_
          · show AV.one (.bool _) = AV.one (.bool (Utf8.valid r))
            congr 2; simp [Utf8.valid]; omega
    · replace hb1 := of_decide_eq_true hb1; try simp only [List.length_map] at hb1
      refine run_sound hS (n := 6) (b := []) (s' := ⟨.ret, [], tl 17 [(0, (.one (.int .i32 (r)))), (2, (.one (.bool true))), (3, (.one (.bool true)))], []⟩) (c := []) (by kernel_rfl) ⟨⟩ ?_
      refine SemS.done (.inl rfl) Abs.refl (v := (.one (.bool true))) (by kernel_rfl) ?_
      · show AV.one (.bool _) = AV.one (.bool (Utf8.valid r))
        congr 2; simp [Utf8.valid]; omega
theorem p59 (hS : S.Good X)  (h59 : S.has 59 f59) : PrOk S 59 (pureP g59) := by
  refine pure_rel 59 fun (r, lo, hi) hc => ⟨rfl, rfl, ?_⟩
  refine MF.run hS h59 ([.one (.int .i32 r), .one (.int .i32 lo), .one (.int .i32 hi)] ++ List.replicate (f59.nt - f59.np) und) rfl rfl ?_
  refine run_sound hS (n := 10) (b := bm 15 [0, 2, 10]) (s' := ⟨.normal, [.ops f59_1 4, .code .ret], tl 15 [(0, (.one (.int .i32 (r)))), (2, (.one (.int .i32 (hi)))), (10, (.one (.bool (decide (lo ≤ r)))))], []⟩) (c := []) (by kernel_rfl) ⟨⟩ ?_
  cases hb0 : decide (lo ≤ r)
  · replace hb0 := of_decide_eq_false hb0; try simp only [List.length_map] at hb0
    refine run_sound hS (n := 7) (b := []) (s' := ⟨.ret, [], tl 15 [(0, (.one (.int .i32 (r)))), (2, (.one (.int .i32 (hi)))), (6, (.one (.bool false))), (10, (.one (.bool false))), (11, und), (12, und), (13, und), (14, (.one (.bool false)))], []⟩) (c := []) (by kernel_rfl) ⟨⟩ ?_
    refine SemS.done (.inl rfl) Abs.refl (v := (.one (.bool false))) (by kernel_rfl) ?_
    simp_all
  · replace hb0 := of_decide_eq_true hb0; try simp only [List.length_map] at hb0
    refine run_sound hS (n := 7) (b := []) (s' := ⟨.ret, [], tl 15 [(0, (.one (.int .i32 (r)))), (2, (.one (.int .i32 (hi)))), (6, (.one (.bool (decide (r ≤ hi))))), (10, (.one (.bool true))), (11, (.one (.int .i32 (r)))), (12, (.one (.int .i32 (hi)))), (13, (.one (.bool (decide (r ≤ hi))))), (14, (.one (.bool (decide (r ≤ hi)))))], []⟩) (c := []) (by kernel_rfl) ⟨⟩ ?_
    refine SemS.done (.inl rfl) Abs.refl (v := (.one (.bool (decide (r ≤ hi))))) (by kernel_rfl) ?_
    simp_all
theorem p35 (hS : S.Good X) (hp55 : X.pr 55 = some (pureP g55)) (hp59 : X.pr 59 = some (pureP g59)) (h35 : S.has 35 f35) : PrOk S 35 (pureP g35) := by
  refine pure_rel 35 fun r hc => ⟨rfl, rfl, ?_⟩
  refine MF.run hS h35 ([.one (.int .i32 r)] ++ List.replicate (f35.nt - f35.np) und) rfl rfl ?_
  refine run_sound hS (n := 10) (b := bm 23 [0, 4]) (s' := ⟨.normal, [.ops f35_1 1, .code f35_9, .code f35_13, .blk 0, .code f35_17], tl 23 [(0, (.one (.int .i32 (r)))), (4, (.one (.int .i32 (r))))], []⟩) (c := []) (by kernel_rfl) ⟨⟩ ?_
  refine SemS.callP hS hp55 rfl (by kernel_rfl) (by kernel_rfl) (vs := [(.one (.int .i32 (r)))]) (by kernel_rfl) (v := (.one (.bool (Utf8.valid r)))) (c := []) (c55 (r)) ⟨⟩ (T' := tl 23 [(0, (.one (.int .i32 (r)))), (4, (.one (.int .i32 (r)))), (5, (.one (.bool (Utf8.valid r))))]) (by kernel_rfl) ?_
  refine run_sound hS (n := 3) (b := bm 23 [0, 3]) (s' := ⟨.normal, [.code f35_9, .code f35_13, .blk 0, .code f35_17], tl 23 [(0, (.one (.int .i32 (r)))), (3, (.one (.bool (!Utf8.valid r))))], []⟩) (c := []) (by kernel_rfl) ⟨⟩ ?_
  cases hb0 : Utf8.valid r
  · skip
    refine run_sound hS (n := 8) (b := []) (s' := ⟨.ret, [], tl 23 [(0, (.one (.int .i32 (r)))), (2, (.one (.bool false))), (3, (.one (.bool true)))], []⟩) (c := []) (by kernel_rfl) ⟨⟩ ?_
    refine SemS.done (.inl rfl) Abs.refl (v := (.one (.bool false))) (by kernel_rfl) ?_
    · show AV.one (.bool _) = AV.one (.bool (letterB r))
      congr 2; unfold letterB; rw [Bool.eq_iff_iff]; simp [*] <;> omega
  · skip
    refine run_sound hS (n := 7) (b := bm 23 [0, 3]) (s' := ⟨.normal, [.code f35_7, .code f35_13, .blk 0, .code f35_17], tl 23 [(0, (.one (.int .i32 (r)))), (3, (.one (.bool (decide (r = 215)))))], []⟩) (c := []) (by kernel_rfl) ⟨⟩ ?_
    cases hb1 : decide (r = 215)
    · replace hb1 := of_decide_eq_false hb1; try simp only [List.length_map] at hb1
      refine run_sound hS (n := 7) (b := bm 23 [0, 3]) (s' := ⟨.normal, [.code f35_5, .code f35_13, .blk 0, .code f35_17], tl 23 [(0, (.one (.int .i32 (r)))), (3, (.one (.bool (decide (r = 247)))))], []⟩) (c := []) (by kernel_rfl) ⟨⟩ ?_
      cases hb2 : decide (r = 247)
      · replace hb2 := of_decide_eq_false hb2; try simp only [List.length_map] at hb2
        refine run_sound hS (n := 3) (b := bm 23 [0, 11]) (s' := ⟨.normal, [.ops f35_4 1, .code f35_13, .blk 0, .code f35_17], tl 23 [(0, (.one (.int .i32 (r)))), (11, (.one (.int .i32 (r))))], []⟩) (c := []) (by kernel_rfl) ⟨⟩ ?_
        refine SemS.callP hS hp59 rfl (by kernel_rfl) (by kernel_rfl) (vs := [(.one (.int .i32 (r))), (.one (.int .i32 8192)), (.one (.int .i32 8303))]) (by kernel_rfl) (v := (.one (.bool (decide (8192 ≤ r) && decide (r ≤ 8303))))) (c := []) (c59 (r) (8192) (8303)) ⟨⟩ (T' := tl 23 [(0, (.one (.int .i32 (r)))), (11, (.one (.int .i32 (r)))), (12, (.one (.bool (decide (8192 ≤ r) && decide (r ≤ 8303)))))]) (by kernel_rfl) ?_
        refine run_sound hS (n := 2) (b := bm 23 [0, 3]) (s' := ⟨.normal, [.code f35_13, .blk 0, .code f35_17], tl 23 [(0, (.one (.int .i32 (r)))), (3, (.one (.bool (decide (8192 ≤ r) && decide (r ≤ 8303)))))], []⟩) (c := []) (by kernel_rfl) ⟨⟩ ?_
        cases hb3 : decide (8192 ≤ r)
        · replace hb3 := of_decide_eq_false hb3; try simp only [List.length_map] at hb3
          refine run_sound hS (n := 8) (b := bm 23 [0, 15]) (s' := ⟨.normal, [.ops f35_16 3, .code .ret], tl 23 [(0, (.one (.int .i32 (r)))), (15, (.one (.bool (decide (192 ≤ r)))))], []⟩) (c := []) (by kernel_rfl) ⟨⟩ ?_
          cases hb4 : decide (192 ≤ r)
          · replace hb4 := of_decide_eq_false hb4; try simp only [List.length_map] at hb4
            refine run_sound hS (n := 1) (b := bm 23 [0, 15, 16]) (s' := ⟨.normal, [.ops f35_16 4, .code .ret], tl 23 [(0, (.one (.int .i32 (r)))), (15, (.one (.bool false))), (16, (.one (.int .i32 (r))))], []⟩) (c := []) (by kernel_rfl) ⟨⟩ ?_
            refine SemS.callP hS hp59 rfl (by kernel_rfl) (by kernel_rfl) (vs := [(.one (.int .i32 (r))), (.one (.int .i32 65)), (.one (.int .i32 90))]) (by kernel_rfl) (v := (.one (.bool (decide (65 ≤ r) && decide (r ≤ 90))))) (c := []) (c59 (r) (65) (90)) ⟨⟩ (T' := tl 23 [(0, (.one (.int .i32 (r)))), (15, (.one (.bool false))), (16, (.one (.int .i32 (r)))), (17, (.one (.bool (decide (65 ≤ r) && decide (r ≤ 90)))))]) (by kernel_rfl) ?_
            refine run_sound hS (n := 2) (b := bm 23 [0, 19]) (s' := ⟨.normal, [.ops f35_16 7, .code .ret], tl 23 [(0, (.one (.int .i32 (r)))), (19, (.one (.bool (decide (65 ≤ r) && decide (r ≤ 90)))))], []⟩) (c := []) (by kernel_rfl) ⟨⟩ ?_
            cases hb5 : decide (65 ≤ r)
            · replace hb5 := of_decide_eq_false hb5; try simp only [List.length_map] at hb5
              refine run_sound hS (n := 1) (b := bm 23 [19, 20]) (s' := ⟨.normal, [.ops f35_16 8, .code .ret], tl 23 [(19, (.one (.bool false))), (20, (.one (.int .i32 (r))))], []⟩) (c := []) (by kernel_rfl) ⟨⟩ ?_
              refine SemS.callP hS hp59 rfl (by kernel_rfl) (by kernel_rfl) (vs := [(.one (.int .i32 (r))), (.one (.int .i32 97)), (.one (.int .i32 122))]) (by kernel_rfl) (v := (.one (.bool (decide (97 ≤ r) && decide (r ≤ 122))))) (c := []) (c59 (r) (97) (122)) ⟨⟩ (T' := tl 23 [(19, (.one (.bool false))), (20, (.one (.int .i32 (r)))), (21, (.one (.bool (decide (97 ≤ r) && decide (r ≤ 122)))))]) (by kernel_rfl) ?_
              refine run_sound hS (n := 4) (b := []) (s' := ⟨.ret, [], tl 23 [(2, (.one (.bool (decide (97 ≤ r) && decide (r ≤ 122))))), (19, (.one (.bool false))), (20, (.one (.int .i32 (r)))), (21, (.one (.bool (decide (97 ≤ r) && decide (r ≤ 122))))), (22, (.one (.bool (decide (97 ≤ r) && decide (r ≤ 122)))))], []⟩) (c := []) (by kernel_rfl) ⟨⟩ ?_
              refine SemS.done (.inl rfl) Abs.refl (v := (.one (.bool (decide (97 ≤ r) && decide (r ≤ 122))))) (by kernel_rfl) ?_
              · show AV.one (.bool _) = AV.one (.bool (letterB r))
                congr 2; unfold letterB; rw [Bool.eq_iff_iff]; simp [*] <;> omega
            · replace hb5 := of_decide_eq_true hb5; try simp only [List.length_map] at hb5
              cases hb6 : decide (r ≤ 90)
              · replace hb6 := of_decide_eq_false hb6; try simp only [List.length_map] at hb6
                refine run_sound hS (n := 1) (b := bm 23 [19, 20]) (s' := ⟨.normal, [.ops f35_16 8, .code .ret], tl 23 [(19, (.one (.bool false))), (20, (.one (.int .i32 (r))))], []⟩) (c := []) (by kernel_rfl) ⟨⟩ ?_
                refine SemS.callP hS hp59 rfl (by kernel_rfl) (by kernel_rfl) (vs := [(.one (.int .i32 (r))), (.one (.int .i32 97)), (.one (.int .i32 122))]) (by kernel_rfl) (v := (.one (.bool (decide (97 ≤ r) && decide (r ≤ 122))))) (c := []) (c59 (r) (97) (122)) ⟨⟩ (T' := tl 23 [(19, (.one (.bool false))), (20, (.one (.int .i32 (r)))), (21, (.one (.bool (decide (97 ≤ r) && decide (r ≤ 122)))))]) (by kernel_rfl) ?_
                refine run_sound hS (n := 4) (b := []) (s' := ⟨.ret, [], tl 23 [(2, (.one (.bool (decide (97 ≤ r) && decide (r ≤ 122))))), (19, (.one (.bool false))), (20, (.one (.int .i32 (r)))), (21, (.one (.bool (decide (97 ≤ r) && decide (r ≤ 122))))), (22, (.one (.bool (decide (97 ≤ r) && decide (r ≤ 122)))))], []⟩) (c := []) (by kernel_rfl) ⟨⟩ ?_
                refine SemS.done (.inl rfl) Abs.refl (v := (.one (.bool (decide (97 ≤ r) && decide (r ≤ 122))))) (by kernel_rfl) ?_
                · show AV.one (.bool _) = AV.one (.bool (letterB r))
                  congr 2; unfold letterB; rw [Bool.eq_iff_iff]; simp [*] <;> omega
              · replace hb6 := of_decide_eq_true hb6; try simp only [List.length_map] at hb6
                refine run_sound hS (n := 6) (b := []) (s' := ⟨.ret, [], tl 23 [(0, (.one (.int .i32 (r)))), (2, (.one (.bool true))), (19, (.one (.bool true))), (20, und), (21, und), (22, (.one (.bool true)))], []⟩) (c := []) (by kernel_rfl) ⟨⟩ ?_
                refine SemS.done (.inl rfl) Abs.refl (v := (.one (.bool true))) (by kernel_rfl) ?_
                · show AV.one (.bool _) = AV.one (.bool (letterB r))
                  congr 2; unfold letterB; rw [Bool.eq_iff_iff]; simp [*] <;> omega
          · replace hb4 := of_decide_eq_true hb4; try simp only [List.length_map] at hb4
            refine run_sound hS (n := 10) (b := []) (s' := ⟨.ret, [], tl 23 [(0, (.one (.int .i32 (r)))), (2, (.one (.bool true))), (15, (.one (.bool true))), (16, und), (17, und), (18, (.one (.bool true))), (19, (.one (.bool true))), (20, und), (21, und), (22, (.one (.bool true)))], []⟩) (c := []) (by kernel_rfl) ⟨⟩ ?_
            refine SemS.done (.inl rfl) Abs.refl (v := (.one (.bool true))) (by kernel_rfl) ?_
            · show AV.one (.bool _) = AV.one (.bool (letterB r))
              congr 2; unfold letterB; rw [Bool.eq_iff_iff]; simp [*] <;> omega
        · replace hb3 := of_decide_eq_true hb3; try simp only [List.length_map] at hb3
          cases hb4 : decide (r ≤ 8303)
          · replace hb4 := of_decide_eq_false hb4; try simp only [List.length_map] at hb4
            refine run_sound hS (n := 8) (b := bm 23 [0, 15]) (s' := ⟨.normal, [.ops f35_16 3, .code .ret], tl 23 [(0, (.one (.int .i32 (r)))), (15, (.one (.bool (decide (192 ≤ r)))))], []⟩) (c := []) (by kernel_rfl) ⟨⟩ ?_
            cases hb5 : decide (192 ≤ r)
            · replace hb5 := of_decide_eq_false hb5; try simp only [List.length_map] at hb5
              refine run_sound hS (n := 1) (b := bm 23 [0, 15, 16]) (s' := ⟨.normal, [.ops f35_16 4, .code .ret], tl 23 [(0, (.one (.int .i32 (r)))), (15, (.one (.bool false))), (16, (.one (.int .i32 (r))))], []⟩) (c := []) (by kernel_rfl) ⟨⟩ ?_
              refine SemS.callP hS hp59 rfl (by kernel_rfl) (by kernel_rfl) (vs := [(.one (.int .i32 (r))), (.one (.int .i32 65)), (.one (.int .i32 90))]) (by kernel_rfl) (v := (.one (.bool (decide (65 ≤ r) && decide (r ≤ 90))))) (c := []) (c59 (r) (65) (90)) ⟨⟩ (T' := tl 23 [(0, (.one (.int .i32 (r)))), (15, (.one (.bool false))), (16, (.one (.int .i32 (r)))), (17, (.one (.bool (decide (65 ≤ r) && decide (r ≤ 90)))))]) (by kernel_rfl) ?_
              refine run_sound hS (n := 2) (b := bm 23 [0, 19]) (s' := ⟨.normal, [.ops f35_16 7, .code .ret], tl 23 [(0, (.one (.int .i32 (r)))), (19, (.one (.bool (decide (65 ≤ r) && decide (r ≤ 90)))))], []⟩) (c := []) (by kernel_rfl) ⟨⟩ ?_
              cases hb6 : decide (65 ≤ r)
              · replace hb6 := of_decide_eq_false hb6; try simp only [List.length_map] at hb6
                refine run_sound hS (n := 1) (b := bm 23 [19, 20]) (s' := ⟨.normal, [.ops f35_16 8, .code .ret], tl 23 [(19, (.one (.bool false))), (20, (.one (.int .i32 (r))))], []⟩) (c := []) (by kernel_rfl) ⟨⟩ ?_
                refine SemS.callP hS hp59 rfl (by kernel_rfl) (by kernel_rfl) (vs := [(.one (.int .i32 (r))), (.one (.int .i32 97)), (.one (.int .i32 122))]) (by kernel_rfl) (v := (.one (.bool (decide (97 ≤ r) && decide (r ≤ 122))))) (c := []) (c59 (r) (97) (122)) ⟨⟩ (T' := tl 23 [(19, (.one (.bool false))), (20, (.one (.int .i32 (r)))), (21, (.one (.bool (decide (97 ≤ r) && decide (r ≤ 122)))))]) (by kernel_rfl) ?_
                refine run_sound hS (n := 4) (b := []) (s' := ⟨.ret, [], tl 23 [(2, (.one (.bool (decide (97 ≤ r) && decide (r ≤ 122))))), (19, (.one (.bool false))), (20, (.one (.int .i32 (r)))), (21, (.one (.bool (decide (97 ≤ r) && decide (r ≤ 122))))), (22, (.one (.bool (decide (97 ≤ r) && decide (r ≤ 122)))))], []⟩) (c := []) (by kernel_rfl) ⟨⟩ ?_
                refine SemS.done (.inl rfl) Abs.refl (v := (.one (.bool (decide (97 ≤ r) && decide (r ≤ 122))))) (by kernel_rfl) ?_
                · show AV.one (.bool _) = AV.one (.bool (letterB r))
                  congr 2; unfold letterB; rw [Bool.eq_iff_iff]; simp [*] <;> omega
              · replace hb6 := of_decide_eq_true hb6; try simp only [List.length_map] at hb6
                cases hb7 : decide (r ≤ 90)
                · replace hb7 := of_decide_eq_false hb7; try simp only [List.length_map] at hb7
                  refine run_sound hS (n := 1) (b := bm 23 [19, 20]) (s' := ⟨.normal, [.ops f35_16 8, .code .ret], tl 23 [(19, (.one (.bool false))), (20, (.one (.int .i32 (r))))], []⟩) (c := []) (by kernel_rfl) ⟨⟩ ?_
                  refine SemS.callP hS hp59 rfl (by kernel_rfl) (by kernel_rfl) (vs := [(.one (.int .i32 (r))), (.one (.int .i32 97)), (.one (.int .i32 122))]) (by kernel_rfl) (v := (.one (.bool (decide (97 ≤ r) && decide (r ≤ 122))))) (c := []) (c59 (r) (97) (122)) ⟨⟩ (T' := tl 23 [(19, (.one (.bool false))), (20, (.one (.int .i32 (r)))), (21, (.one (.bool (decide (97 ≤ r) && decide (r ≤ 122)))))]) (by kernel_rfl) ?_
                  refine run_sound hS (n := 4) (b := []) (s' := ⟨.ret, [], tl 23 [(2, (.one (.bool (decide (97 ≤ r) && decide (r ≤ 122))))), (19, (.one (.bool false))), (20, (.one (.int .i32 (r)))), (21, (.one (.bool (decide (97 ≤ r) && decide (r ≤ 122))))), (22, (.one (.bool (decide (97 ≤ r) && decide (r ≤ 122)))))], []⟩) (c := []) (by kernel_rfl) ⟨⟩ ?_
                  refine SemS.done (.inl rfl) Abs.refl (v := (.one (.bool (decide (97 ≤ r) && decide (r ≤ 122))))) (by kernel_rfl) ?_
                  · show AV.one (.bool _) = AV.one (.bool (letterB r))
                    congr 2; unfold letterB; rw [Bool.eq_iff_iff]; simp [*] <;> omega
                · replace hb7 := of_decide_eq_true hb7; try simp only [List.length_map] at hb7
                  refine run_sound hS (n := 6) (b := []) (s' := ⟨.ret, [], tl 23 [(0, (.one (.int .i32 (r)))), (2, (.one (.bool true))), (19, (.one (.bool true))), (20, und), (21, und), (22, (.one (.bool true)))], []⟩) (c := []) (by kernel_rfl) ⟨⟩ ?_
                  refine SemS.done (.inl rfl) Abs.refl (v := (.one (.bool true))) (by kernel_rfl) ?_
                  · show AV.one (.bool _) = AV.one (.bool (letterB r))
                    congr 2; unfold letterB; rw [Bool.eq_iff_iff]; simp [*] <;> omega
            · replace hb5 := of_decide_eq_true hb5; try simp only [List.length_map] at hb5
              refine run_sound hS (n := 10) (b := []) (s' := ⟨.ret, [], tl 23 [(0, (.one (.int .i32 (r)))), (2, (.one (.bool true))), (15, (.one (.bool true))), (16, und), (17, und), (18, (.one (.bool true))), (19, (.one (.bool true))), (20, und), (21, und), (22, (.one (.bool true)))], []⟩) (c := []) (by kernel_rfl) ⟨⟩ ?_
              refine SemS.done (.inl rfl) Abs.refl (v := (.one (.bool true))) (by kernel_rfl) ?_
              · show AV.one (.bool _) = AV.one (.bool (letterB r))
                congr 2; unfold letterB; rw [Bool.eq_iff_iff]; simp [*] <;> omega
          · replace hb4 := of_decide_eq_true hb4; try simp only [List.length_map] at hb4
            refine run_sound hS (n := 6) (b := []) (s' := ⟨.ret, [], tl 23 [(0, (.one (.int .i32 (r)))), (2, (.one (.bool false))), (3, (.one (.bool true)))], []⟩) (c := []) (by kernel_rfl) ⟨⟩ ?_
            refine SemS.done (.inl rfl) Abs.refl (v := (.one (.bool false))) (by kernel_rfl) ?_
            · show AV.one (.bool _) = AV.one (.bool (letterB r))
              congr 2; unfold letterB; rw [Bool.eq_iff_iff]; simp [*] <;> omega
      · replace hb2 := of_decide_eq_true hb2; try simp only [List.length_map] at hb2
        refine run_sound hS (n := 8) (b := []) (s' := ⟨.ret, [], tl 23 [(0, (.one (.int .i32 (r)))), (2, (.one (.bool false))), (3, (.one (.bool true)))], []⟩) (c := []) (by kernel_rfl) ⟨⟩ ?_
        refine SemS.done (.inl rfl) Abs.refl (v := (.one (.bool false))) (by kernel_rfl) ?_
        · show AV.one (.bool _) = AV.one (.bool (letterB r))
          congr 2; unfold letterB; rw [Bool.eq_iff_iff]; simp [*] <;> omega
    · replace hb1 := of_decide_eq_true hb1; try simp only [List.length_map] at hb1
      refine run_sound hS (n := 8) (b := []) (s' := ⟨.ret, [], tl 23 [(0, (.one (.int .i32 (r)))), (2, (.one (.bool false))), (3, (.one (.bool true)))], []⟩) (c := []) (by kernel_rfl) ⟨⟩ ?_
      refine SemS.done (.inl rfl) Abs.refl (v := (.one (.bool false))) (by kernel_rfl) ?_
      · show AV.one (.bool _) = AV.one (.bool (letterB r))
        congr 2; unfold letterB; rw [Bool.eq_iff_iff]; simp [*] <;> omega
theorem p37 (hS : S.Good X)  (h37 : S.has 37 f37) : PrOk S 37 (pureP g37) := by
  refine pure_rel 37 fun (a, b) hc => ⟨rfl, rfl, ?_⟩
  have hc1 : a.length ≤ 1099511627776 := hc.1
  refine MF.run hS h37 ([.one (.vrow 1 (R32 a)), .one (.vrow 1 (R32 b))] ++ List.replicate (f37.nt - f37.np) und) rfl rfl ?_
  refine run_sound hS (n := 10) (b := bm 46 [0, 1, 5]) (s' := ⟨.normal, [.code f37_20, .blk 0, .code f37_36], tl 46 [(0, (.one (.vrow 1 (R32 a)))), (1, (.one (.vrow 1 (R32 b)))), (5, (.one (.int .i64 0)))], []⟩) (c := []) (by kernel_rfl) ⟨⟩ ?_
  refine SemS.loop (α := { i : Nat // i ≤ a.length ∧ i ≤ b.length ∧ cmpL a b = cmpL (a.drop i) (b.drop i) }) (fun ⟨i, hi, hj, he⟩ => (tl 46 [(0, .one (.vrow 1 (R32 a))), (1, .one (.vrow 1 (R32 b))), (5, .one (.int .i64 i))], [])) (fun ⟨i, hi, hj, he⟩ => a.length - i) ⟨0, by omega, by omega, rfl⟩ (Abs.refl) ?_
  rintro ⟨i, hi, hj, he⟩ R hR
  refine run_sound hS (n := 8) (b := bm 46 [0, 1, 5, 10]) (s' := ⟨.normal, [.ops f37_2 5, .code f37_3, .code f37_18, .stop R, .blk 0, .code f37_36], tl 46 [(0, (.one (.vrow 1 (R32 a)))), (1, (.one (.vrow 1 (R32 b)))), (5, (.one (.int .i64 ((↑i : Int))))), (10, (.one (.bool (decide ((↑i : Int) < (↑(R32 a).length : Int))))))], []⟩) (c := []) (by kernel_rfl) ⟨⟩ ?_
  cases hb0 : decide ((↑i : Int) < (↑(R32 a).length : Int))
  · replace hb0 := of_decide_eq_false hb0; try simp only [List.length_map] at hb0
    refine run_sound hS (n := 20) (b := bm 46 [0, 1, 40]) (s' := ⟨.normal, [.code f37_26, .code f37_35], tl 46 [(0, (.one (.vrow 1 (R32 a)))), (1, (.one (.vrow 1 (R32 b)))), (40, (.one (.bool (decide ((↑(R32 a).length : Int) < (↑(R32 b).length : Int))))))], []⟩) (c := []) (by kernel_rfl) ⟨⟩ ?_
    cases hb1 : decide ((↑(R32 a).length : Int) < (↑(R32 b).length : Int))
    · replace hb1 := of_decide_eq_false hb1; try simp only [List.length_map] at hb1
      refine run_sound hS (n := 11) (b := bm 46 [45]) (s' := ⟨.normal, [.code f37_31, .code f37_34], tl 46 [(45, (.one (.bool (decide ((↑(R32 b).length : Int) < (↑(R32 a).length : Int))))))], []⟩) (c := []) (by kernel_rfl) ⟨⟩ ?_
      cases hb2 : decide ((↑(R32 b).length : Int) < (↑(R32 a).length : Int))
      · replace hb2 := of_decide_eq_false hb2; try simp only [List.length_map] at hb2
        refine run_sound hS (n := 7) (b := []) (s' := ⟨.ret, [], tl 46 [(4, (.one (.int .i64 0))), (45, (.one (.bool false)))], []⟩) (c := []) (by kernel_rfl) ⟨⟩ ?_
        refine SemS.done (.inl rfl) Abs.refl (v := (.one (.int .i64 0))) (by kernel_rfl) ?_
        · show AV.one (.int .i64 _) = AV.one (.int .i64 (cmpL a b))
          rw [he, cmpL_step]; congr 2
          repeat' split
          all_goals omega
      · replace hb2 := of_decide_eq_true hb2; try simp only [List.length_map] at hb2
        refine run_sound hS (n := 6) (b := []) (s' := ⟨.ret, [], tl 46 [(4, (.one (.int .i64 1))), (45, (.one (.bool true)))], []⟩) (c := []) (by kernel_rfl) ⟨⟩ ?_
        refine SemS.done (.inl rfl) Abs.refl (v := (.one (.int .i64 1))) (by kernel_rfl) ?_
        · show AV.one (.int .i64 _) = AV.one (.int .i64 (cmpL a b))
          rw [he, cmpL_step]; congr 2
          repeat' split
          all_goals omega
    · replace hb1 := of_decide_eq_true hb1; try simp only [List.length_map] at hb1
      refine run_sound hS (n := 6) (b := []) (s' := ⟨.ret, [], tl 46 [(0, (.one (.vrow 1 (R32 a)))), (1, (.one (.vrow 1 (R32 b)))), (4, (.one (.int .i64 (-1)))), (40, (.one (.bool true)))], []⟩) (c := []) (by kernel_rfl) ⟨⟩ ?_
      refine SemS.done (.inl rfl) Abs.refl (v := (.one (.int .i64 (-1)))) (by kernel_rfl) ?_
      · show AV.one (.int .i64 _) = AV.one (.int .i64 (cmpL a b))
        rw [he, cmpL_step]; congr 2
        repeat' split
        all_goals omega
  · replace hb0 := of_decide_eq_true hb0; try simp only [List.length_map] at hb0
    refine run_sound hS (n := 6) (b := bm 46 [0, 1, 5, 15]) (s' := ⟨.normal, [.code f37_3, .code f37_18, .stop R, .blk 0, .code f37_36], tl 46 [(0, (.one (.vrow 1 (R32 a)))), (1, (.one (.vrow 1 (R32 b)))), (5, (.one (.int .i64 ((↑i : Int))))), (15, (.one (.bool (decide ((↑i : Int) < (↑(R32 b).length : Int))))))], []⟩) (c := []) (by kernel_rfl) ⟨⟩ ?_
    cases hb1 : decide ((↑i : Int) < (↑(R32 b).length : Int))
    · replace hb1 := of_decide_eq_false hb1; try simp only [List.length_map] at hb1
      refine run_sound hS (n := 14) (b := bm 46 [0, 1, 40]) (s' := ⟨.normal, [.code f37_26, .code f37_35], tl 46 [(0, (.one (.vrow 1 (R32 a)))), (1, (.one (.vrow 1 (R32 b)))), (40, (.one (.bool (decide ((↑(R32 a).length : Int) < (↑(R32 b).length : Int))))))], []⟩) (c := []) (by kernel_rfl) ⟨⟩ ?_
      cases hb2 : decide ((↑(R32 a).length : Int) < (↑(R32 b).length : Int))
      · replace hb2 := of_decide_eq_false hb2; try simp only [List.length_map] at hb2
        refine run_sound hS (n := 11) (b := bm 46 [45]) (s' := ⟨.normal, [.code f37_31, .code f37_34], tl 46 [(45, (.one (.bool (decide ((↑(R32 b).length : Int) < (↑(R32 a).length : Int))))))], []⟩) (c := []) (by kernel_rfl) ⟨⟩ ?_
        cases hb3 : decide ((↑(R32 b).length : Int) < (↑(R32 a).length : Int))
        · replace hb3 := of_decide_eq_false hb3; try simp only [List.length_map] at hb3
          refine run_sound hS (n := 7) (b := []) (s' := ⟨.ret, [], tl 46 [(4, (.one (.int .i64 0))), (45, (.one (.bool false)))], []⟩) (c := []) (by kernel_rfl) ⟨⟩ ?_
          refine SemS.done (.inl rfl) Abs.refl (v := (.one (.int .i64 0))) (by kernel_rfl) ?_
          · show AV.one (.int .i64 _) = AV.one (.int .i64 (cmpL a b))
            rw [he, cmpL_step]; congr 2
            repeat' split
            all_goals omega
        · replace hb3 := of_decide_eq_true hb3; try simp only [List.length_map] at hb3
          refine run_sound hS (n := 6) (b := []) (s' := ⟨.ret, [], tl 46 [(4, (.one (.int .i64 1))), (45, (.one (.bool true)))], []⟩) (c := []) (by kernel_rfl) ⟨⟩ ?_
          refine SemS.done (.inl rfl) Abs.refl (v := (.one (.int .i64 1))) (by kernel_rfl) ?_
          · show AV.one (.int .i64 _) = AV.one (.int .i64 (cmpL a b))
            rw [he, cmpL_step]; congr 2
            repeat' split
            all_goals omega
      · replace hb2 := of_decide_eq_true hb2; try simp only [List.length_map] at hb2
        refine run_sound hS (n := 6) (b := []) (s' := ⟨.ret, [], tl 46 [(0, (.one (.vrow 1 (R32 a)))), (1, (.one (.vrow 1 (R32 b)))), (4, (.one (.int .i64 (-1)))), (40, (.one (.bool true)))], []⟩) (c := []) (by kernel_rfl) ⟨⟩ ?_
        refine SemS.done (.inl rfl) Abs.refl (v := (.one (.int .i64 (-1)))) (by kernel_rfl) ?_
        · show AV.one (.int .i64 _) = AV.one (.int .i64 (cmpL a b))
          rw [he, cmpL_step]; congr 2
          repeat' split
          all_goals omega
    · replace hb1 := of_decide_eq_true hb1; try simp only [List.length_map] at hb1
      refine run_sound hS (n := 9) (b := []) (s' := ⟨.normal, [.dops f37_5 2, .code f37_8, .code f37_14, .blk 1, .code (.reg f37_17), .stop R, .blk 0, .code f37_36], tl 46 [(0, (.one (.vrow 1 (R32 a)))), (1, (.one (.vrow 1 (R32 b)))), (5, (.one (.int .i64 ((↑i : Int))))), (15, (.one (.bool true))), (18, (.one (.vrow 1 (R32 a)))), (19, (.one (.int .i64 ((↑i : Int)))))], []⟩) (c := []) (by kernel_rfl) ⟨⟩ ?_
      refine SemS.stepD rfl (by kernel_rfl) rfl (v := (.one (.vptr [(.int .i32 (a.getD i 0))]))) (iaddr_map (kd := .i64) (f := fun r => [Lf.int IntKind.i32 r]) (l := a) (k := ((↑i : Int))) (0) (by kernel_rfl) (by kernel_rfl) (by omega)) (T' := tl 46 [(0, (.one (.vrow 1 (R32 a)))), (1, (.one (.vrow 1 (R32 b)))), (5, (.one (.int .i64 ((↑i : Int))))), (15, (.one (.bool true))), (18, (.one (.vrow 1 (R32 a)))), (19, (.one (.int .i64 ((↑i : Int))))), (20, (.one (.vptr [(.int .i32 (a.getD i 0))])))]) (by kernel_rfl) ?_
      refine run_sound hS (n := 3) (b := []) (s' := ⟨.normal, [.dops f37_5 6, .code f37_8, .code f37_14, .blk 1, .code (.reg f37_17), .stop R, .blk 0, .code f37_36], tl 46 [(0, (.one (.vrow 1 (R32 a)))), (1, (.one (.vrow 1 (R32 b)))), (5, (.one (.int .i64 ((↑i : Int))))), (15, (.one (.bool true))), (18, (.one (.vrow 1 (R32 a)))), (19, (.one (.int .i64 ((↑i : Int))))), (20, (.one (.vptr [(.int .i32 (a.getD i 0))]))), (21, (.one (.int .i32 (a.getD i 0)))), (22, (.one (.vrow 1 (R32 b)))), (23, (.one (.int .i64 ((↑i : Int)))))], []⟩) (c := []) (by kernel_rfl) ⟨⟩ ?_
      refine SemS.stepD rfl (by kernel_rfl) rfl (v := (.one (.vptr [(.int .i32 (b.getD i 0))]))) (iaddr_map (kd := .i64) (f := fun r => [Lf.int IntKind.i32 r]) (l := b) (k := ((↑i : Int))) (0) (by kernel_rfl) (by kernel_rfl) (by omega)) (T' := tl 46 [(0, (.one (.vrow 1 (R32 a)))), (1, (.one (.vrow 1 (R32 b)))), (5, (.one (.int .i64 ((↑i : Int))))), (15, (.one (.bool true))), (18, (.one (.vrow 1 (R32 a)))), (19, (.one (.int .i64 ((↑i : Int))))), (20, (.one (.vptr [(.int .i32 (a.getD i 0))]))), (21, (.one (.int .i32 (a.getD i 0)))), (22, (.one (.vrow 1 (R32 b)))), (23, (.one (.int .i64 ((↑i : Int))))), (24, (.one (.vptr [(.int .i32 (b.getD i 0))])))]) (by kernel_rfl) ?_
      refine run_sound hS (n := 3) (b := bm 46 [0, 1, 5, 26]) (s' := ⟨.normal, [.code f37_8, .code f37_14, .blk 1, .code (.reg f37_17), .stop R, .blk 0, .code f37_36], tl 46 [(0, (.one (.vrow 1 (R32 a)))), (1, (.one (.vrow 1 (R32 b)))), (5, (.one (.int .i64 ((↑i : Int))))), (26, (.one (.bool (decide (a.getD i 0 < b.getD i 0)))))], []⟩) (c := []) (by kernel_rfl) ⟨⟩ ?_
      cases hb2 : decide (a.getD i 0 < b.getD i 0)
      · replace hb2 := of_decide_eq_false hb2; try simp only [List.length_map] at hb2
        refine run_sound hS (n := 6) (b := []) (s' := ⟨.normal, [.dops f37_10 2, .code f37_13, .blk 1, .code (.reg f37_17), .stop R, .blk 0, .code f37_36], tl 46 [(0, (.one (.vrow 1 (R32 a)))), (1, (.one (.vrow 1 (R32 b)))), (5, (.one (.int .i64 ((↑i : Int))))), (26, (.one (.bool false))), (27, (.one (.vrow 1 (R32 a)))), (28, (.one (.int .i64 ((↑i : Int)))))], []⟩) (c := []) (by kernel_rfl) ⟨⟩ ?_
        refine SemS.stepD rfl (by kernel_rfl) rfl (v := (.one (.vptr [(.int .i32 (a.getD i 0))]))) (iaddr_map (kd := .i64) (f := fun r => [Lf.int IntKind.i32 r]) (l := a) (k := ((↑i : Int))) (0) (by kernel_rfl) (by kernel_rfl) (by omega)) (T' := tl 46 [(0, (.one (.vrow 1 (R32 a)))), (1, (.one (.vrow 1 (R32 b)))), (5, (.one (.int .i64 ((↑i : Int))))), (26, (.one (.bool false))), (27, (.one (.vrow 1 (R32 a)))), (28, (.one (.int .i64 ((↑i : Int))))), (29, (.one (.vptr [(.int .i32 (a.getD i 0))])))]) (by kernel_rfl) ?_
        refine run_sound hS (n := 3) (b := []) (s' := ⟨.normal, [.dops f37_10 6, .code f37_13, .blk 1, .code (.reg f37_17), .stop R, .blk 0, .code f37_36], tl 46 [(0, (.one (.vrow 1 (R32 a)))), (1, (.one (.vrow 1 (R32 b)))), (5, (.one (.int .i64 ((↑i : Int))))), (26, (.one (.bool false))), (27, (.one (.vrow 1 (R32 a)))), (28, (.one (.int .i64 ((↑i : Int))))), (29, (.one (.vptr [(.int .i32 (a.getD i 0))]))), (30, (.one (.int .i32 (a.getD i 0)))), (31, (.one (.vrow 1 (R32 b)))), (32, (.one (.int .i64 ((↑i : Int)))))], []⟩) (c := []) (by kernel_rfl) ⟨⟩ ?_
        refine SemS.stepD rfl (by kernel_rfl) rfl (v := (.one (.vptr [(.int .i32 (b.getD i 0))]))) (iaddr_map (kd := .i64) (f := fun r => [Lf.int IntKind.i32 r]) (l := b) (k := ((↑i : Int))) (0) (by kernel_rfl) (by kernel_rfl) (by omega)) (T' := tl 46 [(0, (.one (.vrow 1 (R32 a)))), (1, (.one (.vrow 1 (R32 b)))), (5, (.one (.int .i64 ((↑i : Int))))), (26, (.one (.bool false))), (27, (.one (.vrow 1 (R32 a)))), (28, (.one (.int .i64 ((↑i : Int))))), (29, (.one (.vptr [(.int .i32 (a.getD i 0))]))), (30, (.one (.int .i32 (a.getD i 0)))), (31, (.one (.vrow 1 (R32 b)))), (32, (.one (.int .i64 ((↑i : Int))))), (33, (.one (.vptr [(.int .i32 (b.getD i 0))])))]) (by kernel_rfl) ?_
        refine run_sound hS (n := 3) (b := bm 46 [0, 1, 5, 35]) (s' := ⟨.normal, [.code f37_13, .blk 1, .code (.reg f37_17), .stop R, .blk 0, .code f37_36], tl 46 [(0, (.one (.vrow 1 (R32 a)))), (1, (.one (.vrow 1 (R32 b)))), (5, (.one (.int .i64 ((↑i : Int))))), (35, (.one (.bool (decide (b.getD i 0 < a.getD i 0)))))], []⟩) (c := []) (by kernel_rfl) ⟨⟩ ?_
        cases hb3 : decide (b.getD i 0 < a.getD i 0)
        · replace hb3 := of_decide_eq_false hb3; try simp only [List.length_map] at hb3
          refine run_sound hS (n := 8) (b := []) (s' := ⟨.normal, [.stop R, .blk 0, .code f37_36], tl 46 [(0, (.one (.vrow 1 (R32 a)))), (1, (.one (.vrow 1 (R32 b)))), (5, (.one (.int .i64 ((↑i : Int) + 1)))), (16, (.one (.int .i64 ((↑i : Int))))), (17, (.one (.int .i64 ((↑i : Int) + 1)))), (35, (.one (.bool false)))], []⟩) (c := [i64R ((↑i : Int) + (1 : Int))]) (by kernel_rfl) ⟨by unfold i64R; omega, ⟨⟩⟩ ?_
          exact hR ⟨i + 1, by omega, by omega, by rw [he, cmpL_step, if_pos (by omega), if_pos (by omega), if_neg hb2, if_neg hb3]⟩ _ _ (by show a.length - (i + 1) < a.length - i; omega) (abs_l [] [] 46 [(0, .one (.vrow 1 (R32 a))), (1, .one (.vrow 1 (R32 b))), (5, .one (.int .i64 ((i + 1 : Nat) : Int)))] (by kernel_rfl) ⟨⟩ ⟨⟩ ⟨.row rfl, .row rfl, .int (by omega), ⟨⟩⟩)
        · replace hb3 := of_decide_eq_true hb3; try simp only [List.length_map] at hb3
          refine run_sound hS (n := 6) (b := []) (s' := ⟨.ret, [], tl 46 [(0, (.one (.vrow 1 (R32 a)))), (1, (.one (.vrow 1 (R32 b)))), (4, (.one (.int .i64 1))), (5, (.one (.int .i64 ((↑i : Int))))), (35, (.one (.bool true)))], []⟩) (c := []) (by kernel_rfl) ⟨⟩ ?_
          refine SemS.done (.inl rfl) Abs.refl (v := (.one (.int .i64 1))) (by kernel_rfl) ?_
          · show AV.one (.int .i64 _) = AV.one (.int .i64 (cmpL a b))
            rw [he, cmpL_step]; congr 2
            repeat' split
            all_goals omega
      · replace hb2 := of_decide_eq_true hb2; try simp only [List.length_map] at hb2
        refine run_sound hS (n := 6) (b := []) (s' := ⟨.ret, [], tl 46 [(0, (.one (.vrow 1 (R32 a)))), (1, (.one (.vrow 1 (R32 b)))), (4, (.one (.int .i64 (-1)))), (5, (.one (.int .i64 ((↑i : Int))))), (26, (.one (.bool true)))], []⟩) (c := []) (by kernel_rfl) ⟨⟩ ?_
        refine SemS.done (.inl rfl) Abs.refl (v := (.one (.int .i64 (-1)))) (by kernel_rfl) ?_
        · show AV.one (.int .i64 _) = AV.one (.int .i64 (cmpL a b))
          rw [he, cmpL_step]; congr 2
          repeat' split
          all_goals omega
theorem p18 (hS : S.Good X) (hp37 : X.pr 37 = some (pureP g37)) (h18 : S.has 18 f18) : PrOk S 18 (pureP g18) := by
  refine pure_rel 18 fun (a, b) hc => ⟨rfl, rfl, ?_⟩
  have hc1 : a.length ≤ 1099511627776 := hc.1
  refine MF.run hS h18 ([.one (.vrow 1 (R32 a)), .one (.vrow 1 (R32 b))] ++ List.replicate (f18.nt - f18.np) und) rfl rfl ?_
  refine run_sound hS (n := 8) (b := bm 9 [5, 6]) (s' := ⟨.normal, [.ops f18_1 2, .code .ret], tl 9 [(5, (.one (.vrow 1 (R32 a)))), (6, (.one (.vrow 1 (R32 b))))], []⟩) (c := []) (by kernel_rfl) ⟨⟩ ?_
  refine SemS.callP hS hp37 rfl (by kernel_rfl) (by kernel_rfl) (vs := [(.one (.vrow 1 (R32 a))), (.one (.vrow 1 (R32 b)))]) (by kernel_rfl) (v := (.one (.int .i64 (cmpL a b)))) (c := [a.length ≤ (1099511627776 : Nat)]) (c37 (a) (b)) ⟨by omega, ⟨⟩⟩ (T' := tl 9 [(5, (.one (.vrow 1 (R32 a)))), (6, (.one (.vrow 1 (R32 b)))), (7, (.one (.int .i64 (cmpL a b))))]) (by kernel_rfl) ?_
  refine run_sound hS (n := 4) (b := []) (s' := ⟨.ret, [], tl 9 [(4, (.one (.bool (decide (cmpL a b = 0))))), (5, (.one (.vrow 1 (R32 a)))), (6, (.one (.vrow 1 (R32 b)))), (7, (.one (.int .i64 (cmpL a b)))), (8, (.one (.bool (decide (cmpL a b = 0)))))], []⟩) (c := []) (by kernel_rfl) ⟨⟩ ?_
  refine SemS.done (.inl rfl) Abs.refl (v := (.one (.bool (decide (cmpL a b = 0))))) (by kernel_rfl) ?_
  · show AV.one (.bool _) = AV.one (.bool (decide (a = b)))
    congr 2; exact decide_eq_decide.2 cmpL_zero
theorem p16 (hS : S.Good X) (hp17 : X.pr 17 = some (pureP g17)) (hp35 : X.pr 35 = some (pureP g35)) (h16 : S.has 16 f16) : PrOk S 16 (pureP g16) := by
  refine pure_rel 16 fun _ hc => ⟨rfl, rfl, ?_⟩
  refine MF.run hS h16 ([] ++ List.replicate (f16.nt - f16.np) und) rfl rfl ?_
  refine run_sound hS (n := 6) (b := bm 33 []) (s' := ⟨.normal, [.ops f16_1 0, .code f16_5], tl 33 [], []⟩) (c := []) (by kernel_rfl) ⟨⟩ ?_
  refine SemS.callP hS hp17 rfl (by kernel_rfl) (by kernel_rfl) (vs := [(.one (.str [195, 164]))]) (by kernel_rfl) (v := (.tup [(.one (.vrow 1 [[(.int .i32 228)]])), (.one (.int .i64 0))])) (c := [[(195 : UInt8), (164 : UInt8)].length ≤ (1099511627776 : Nat)]) (c17 ([195, 164])) ⟨by simp only [List.length_map, List.length_cons, List.length_nil, List.length_append, List.length_take, List.length_drop]; omega, ⟨⟩⟩ (T' := tl 33 [(6, (.tup [(.one (.vrow 1 [[(.int .i32 228)]])), (.one (.int .i64 0))]))]) (by kernel_rfl) ?_
  refine run_sound hS (n := 8) (b := bm 33 [1, 2]) (s' := ⟨.normal, [.ops f16_2 0, .code f16_4], tl 33 [(1, (.one (.vrow 1 [[(.int .i32 228)]]))), (2, (.one (.int .i64 0)))], []⟩) (c := []) (by kernel_rfl) ⟨⟩ ?_
  refine SemS.callP hS hp17 rfl (by kernel_rfl) (by kernel_rfl) (vs := [(.one (.str [192, 128]))]) (by kernel_rfl) (v := (.tup [(.one (.vrow 1 [])), (.one (.int .i64 3))])) (c := [[(192 : UInt8), (128 : UInt8)].length ≤ (1099511627776 : Nat)]) (c17 ([192, 128])) ⟨by simp only [List.length_map, List.length_cons, List.length_nil, List.length_append, List.length_take, List.length_drop]; omega, ⟨⟩⟩ (T' := tl 33 [(1, (.one (.vrow 1 [[(.int .i32 228)]]))), (2, (.one (.int .i64 0))), (10, (.tup [(.one (.vrow 1 [])), (.one (.int .i64 3))]))]) (by kernel_rfl) ?_
  refine run_sound hS (n := 26) (b := bm 33 [30]) (s' := ⟨.normal, [.ops f16_3 18, .code .ret], tl 33 [(30, (.one (.bool true)))], []⟩) (c := [(0 : Int) ≤ (0 : Int) ∧ (0 : Int) < (↑(1 : Nat) : Int)]) (by kernel_rfl) ⟨by omega, ⟨⟩⟩ ?_
  refine SemS.callP hS hp35 rfl (by kernel_rfl) (by kernel_rfl) (vs := [(.one (.int .i32 97))]) (by kernel_rfl) (v := (.one (.bool true))) (c := []) (c35 (97)) ⟨⟩ (T' := tl 33 [(30, (.one (.bool true))), (31, (.one (.bool true)))]) (by kernel_rfl) ?_
  refine run_sound hS (n := 4) (b := []) (s' := ⟨.ret, [], tl 33 [(0, (.one (.bool true))), (30, (.one (.bool true))), (31, (.one (.bool true))), (32, (.one (.bool true)))], []⟩) (c := []) (by kernel_rfl) ⟨⟩ ?_
  refine SemS.done (.inl rfl) Abs.refl (v := (.one (.bool true))) (by kernel_rfl) ?_
  rfl
end
end Go.EA
