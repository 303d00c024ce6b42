/- Layer 1: Compare; the law RunesOrder's code. Conditions: none. (Printed by a program of this project's own.) -/
import Derived.Test.YtngcpifknomecaaDoorEAf1
import Derived.Test.YtngcpifknomecaaDoorEK4
import Derived.Test.YtngcpifknomecaaDoorEMean4
import Derived.KernelRfl
set_option linter.unusedVariables false
set_option linter.unusedSimpArgs false
set_option maxRecDepth 100000
set_option maxHeartbeats 0
namespace Go.EA
open F
section
variable {S : SC} {X : Cx}
theorem p70 (hS : S.Good X)  (h70 : S.has 70 f70) : PrOk S 70 (pureP g70) := by
  refine pure_rel 70 fun r hc => ⟨rfl, rfl, ?_⟩
  refine MF.run hS h70 ([.one (.int .i32 r)] ++ List.replicate (f70.nt - f70.np) und) rfl rfl ?_
  refine run_sound hS (n := 12) (b := []) (s' := ⟨.ret, [], tl 6 [(0, (.one (.int .i32 (r)))), (1, und), (2, (.one (.bool (decide (r ≠ r))))), (3, (.one (.int .i32 (r)))), (4, (.one (.int .i32 (r)))), (5, (.one (.bool (decide (r ≠ r)))))], []⟩) (c := []) (by kernel_rfl) ⟨⟩ ?_
  refine SemS.done (.inl rfl) Abs.refl (v := (.one (.bool (decide (r ≠ r))))) (by kernel_rfl) ?_
  · show AV.one (.bool _) = AV.one (.bool false)
    simp
theorem p48 (hS : S.Good X) (hp70 : X.pr 70 = some (pureP g70)) (h48 : S.has 48 f48) : PrOk S 48 (pureP g48) := by
  refine pure_rel 48 fun (x, y) hc => ⟨rfl, rfl, ?_⟩
  refine MF.run hS h48 ([.one (.int .i32 x), .one (.int .i32 y)] ++ List.replicate (f48.nt - f48.np) und) rfl rfl ?_
  refine run_sound hS (n := 7) (b := bm 20 [0, 1, 7]) (s' := ⟨.normal, [.ops f48_1 1, .code f48_35], tl 20 [(0, (.one (.int .i32 (x)))), (1, (.one (.int .i32 (y)))), (7, (.one (.int .i32 (x))))], []⟩) (c := []) (by kernel_rfl) ⟨⟩ ?_
  refine SemS.callP hS hp70 rfl (by kernel_rfl) (by kernel_rfl) (vs := [(.one (.int .i32 (x)))]) (by kernel_rfl) (v := (.one (.bool false))) (c := []) (c70 (x)) ⟨⟩ (T' := tl 20 [(0, (.one (.int .i32 (x)))), (1, (.one (.int .i32 (y)))), (7, (.one (.int .i32 (x)))), (8, (.one (.bool false)))]) (by kernel_rfl) ?_
  refine run_sound hS (n := 5) (b := bm 20 [0, 1, 5, 9]) (s' := ⟨.normal, [.ops f48_2 1, .code f48_34], tl 20 [(0, (.one (.int .i32 (x)))), (1, (.one (.int .i32 (y)))), (5, (.one (.bool false))), (9, (.one (.int .i32 (y))))], []⟩) (c := []) (by kernel_rfl) ⟨⟩ ?_
  refine SemS.callP hS hp70 rfl (by kernel_rfl) (by kernel_rfl) (vs := [(.one (.int .i32 (y)))]) (by kernel_rfl) (v := (.one (.bool false))) (c := []) (c70 (y)) ⟨⟩ (T' := tl 20 [(0, (.one (.int .i32 (x)))), (1, (.one (.int .i32 (y)))), (5, (.one (.bool false))), (9, (.one (.int .i32 (y)))), (10, (.one (.bool false)))]) (by kernel_rfl) ?_
  refine run_sound hS (n := 23) (b := bm 20 [0, 1, 16]) (s' := ⟨.normal, [.code f48_22, .code f48_31], tl 20 [(0, (.one (.int .i32 (x)))), (1, (.one (.int .i32 (y)))), (16, (.one (.bool (decide (x < y)))))], []⟩) (c := []) (by kernel_rfl) ⟨⟩ ?_
  cases hb0 : decide (x < y)
  · replace hb0 := of_decide_eq_false hb0; try simp only [List.length_map] at hb0
    refine run_sound hS (n := 9) (b := bm 20 [19]) (s' := ⟨.normal, [.code f48_27, .code f48_30], tl 20 [(19, (.one (.bool (decide (y < x)))))], []⟩) (c := []) (by kernel_rfl) ⟨⟩ ?_
    cases hb1 : decide (y < x)
    · replace hb1 := of_decide_eq_false hb1; try simp only [List.length_map] at hb1
      refine run_sound hS (n := 7) (b := []) (s' := ⟨.ret, [], tl 20 [(4, (.one (.int .i64 0))), (19, (.one (.bool false)))], []⟩) (c := []) (by kernel_rfl) ⟨⟩ ?_
      refine SemS.done (.inl rfl) Abs.refl (v := (.one (.int .i64 0))) (by kernel_rfl) ?_
      · show AV.one (.int .i64 _) = AV.one (.int .i64 (cmpI x y))
        congr 2; unfold cmpI
        repeat' split
        all_goals omega
    · replace hb1 := of_decide_eq_true hb1; try simp only [List.length_map] at hb1
      refine run_sound hS (n := 6) (b := []) (s' := ⟨.ret, [], tl 20 [(4, (.one (.int .i64 1))), (19, (.one (.bool true)))], []⟩) (c := []) (by kernel_rfl) ⟨⟩ ?_
      refine SemS.done (.inl rfl) Abs.refl (v := (.one (.int .i64 1))) (by kernel_rfl) ?_
      · show AV.one (.int .i64 _) = AV.one (.int .i64 (cmpI x y))
        congr 2; unfold cmpI
        repeat' split
        all_goals omega
  · replace hb0 := of_decide_eq_true hb0; try simp only [List.length_map] at hb0
    refine run_sound hS (n := 6) (b := []) (s' := ⟨.ret, [], tl 20 [(0, (.one (.int .i32 (x)))), (1, (.one (.int .i32 (y)))), (4, (.one (.int .i64 (-1)))), (16, (.one (.bool true)))], []⟩) (c := []) (by kernel_rfl) ⟨⟩ ?_
    refine SemS.done (.inl rfl) Abs.refl (v := (.one (.int .i64 (-1)))) (by kernel_rfl) ?_
    · show AV.one (.int .i64 _) = AV.one (.int .i64 (cmpI x y))
      congr 2; unfold cmpI
      repeat' split
      all_goals omega
theorem p47 (hS : S.Good X) (hp48 : X.pr 48 = some (pureP g48)) (h47 : S.has 47 f47) : PrOk S 47 (pureP g47) := by
  refine pure_rel 47 fun (a, b) hc => ⟨rfl, rfl, ?_⟩
  have hc1 : a.length ≤ 1099511627776 := hc.1
  refine MF.run hS h47 ([.one (.vrow 1 (R32 a)), .one (.vrow 1 (R32 b)), .one (.fn 48 [])] ++ List.replicate (f47.nt - f47.np) und) rfl rfl ?_
  refine run_sound hS (n := 12) (b := bm 39 [0, 1, 2, 11, 12, 13]) (s' := ⟨.normal, [.code f47_26, .blk 0, .code f47_36], tl 39 [(0, (.one (.vrow 1 (R32 a)))), (1, (.one (.vrow 1 (R32 b)))), (2, (.one (.fn 48 []))), (11, (.one (.vrow 1 (R32 a)))), (12, (.one (.int .i64 ((↑(R32 a).length : Int))))), (13, (.one (.int .i64 0)))], []⟩) (c := []) (by kernel_rfl) ⟨⟩ ?_
  refine SemS.loop (α := { i : Nat // i ≤ a.length ∧ i ≤ b.length ∧ cmpL a b = cmpL (a.drop i) (b.drop i) }) (fun ⟨i, hi, hj, he⟩ => (tl 39 [(0, .one (.vrow 1 (R32 a))), (1, .one (.vrow 1 (R32 b))), (2, .one (.fn 48 [])), (11, .one (.vrow 1 (R32 a))), (12, .one (.int .i64 ((R32 a).length : Int))), (13, .one (.int .i64 (i : Int)))], [])) (fun ⟨i, hi, hj, he⟩ => a.length - i) ⟨0, by omega, by omega, rfl⟩ (Abs.refl) ?_
  rintro ⟨i, hi, hj, he⟩ R hR
  refine run_sound hS (n := 5) (b := bm 39 [0, 1, 2, 11, 12, 13, 14]) (s' := ⟨.normal, [.code f47_3, .code f47_23, .stop R, .blk 0, .code f47_36], tl 39 [(0, (.one (.vrow 1 (R32 a)))), (1, (.one (.vrow 1 (R32 b)))), (2, (.one (.fn 48 []))), (11, (.one (.vrow 1 (R32 a)))), (12, (.one (.int .i64 ((↑(R32 a).length : Int))))), (13, (.one (.int .i64 ((↑i : Int))))), (14, (.one (.bool (decide ((↑i : Int) < (↑(R32 a).length : Int))))))], []⟩) (c := []) (by kernel_rfl) ⟨⟩ ?_
  cases hb0 : decide ((↑i : Int) < (↑(R32 a).length : Int))
  · replace hb0 := of_decide_eq_false hb0; try simp only [List.length_map] at hb0
    refine run_sound hS (n := 14) (b := bm 39 [38]) (s' := ⟨.normal, [.code f47_32, .code f47_35], tl 39 [(38, (.one (.bool (decide ((↑(R32 a).length : Int) < (↑(R32 b).length : Int))))))], []⟩) (c := []) (by kernel_rfl) ⟨⟩ ?_
    cases hb1 : decide ((↑(R32 a).length : Int) < (↑(R32 b).length : Int))
    · replace hb1 := of_decide_eq_false hb1; try simp only [List.length_map] at hb1
      refine run_sound hS (n := 7) (b := []) (s' := ⟨.ret, [], tl 39 [(6, (.one (.int .i64 0))), (38, (.one (.bool false)))], []⟩) (c := []) (by kernel_rfl) ⟨⟩ ?_
      refine SemS.done (.inl rfl) Abs.refl (v := (.one (.int .i64 0))) (by kernel_rfl) ?_
      · show AV.one (.int .i64 _) = AV.one (.int .i64 (cmpL a b))
        rw [he, cmpL_step]; congr 2; (try unfold cmpI at *)
        repeat' split
        all_goals omega
    · replace hb1 := of_decide_eq_true hb1; try simp only [List.length_map] at hb1
      refine run_sound hS (n := 6) (b := []) (s' := ⟨.ret, [], tl 39 [(6, (.one (.int .i64 (-1)))), (38, (.one (.bool true)))], []⟩) (c := []) (by kernel_rfl) ⟨⟩ ?_
      refine SemS.done (.inl rfl) Abs.refl (v := (.one (.int .i64 (-1)))) (by kernel_rfl) ?_
      · show AV.one (.int .i64 _) = AV.one (.int .i64 (cmpL a b))
        rw [he, cmpL_step]; congr 2; (try unfold cmpI at *)
        repeat' split
        all_goals omega
  · replace hb0 := of_decide_eq_true hb0; try simp only [List.length_map] at hb0
    refine run_sound hS (n := 7) (b := bm 39 [0, 1, 2, 11, 12, 13, 15]) (s' := ⟨.normal, [.ops f47_4 1, .code f47_19, .blk 1, .code (.reg f47_22), .stop R, .blk 0, .code f47_36], tl 39 [(0, (.one (.vrow 1 (R32 a)))), (1, (.one (.vrow 1 (R32 b)))), (2, (.one (.fn 48 []))), (11, (.one (.vrow 1 (R32 a)))), (12, (.one (.int .i64 ((↑(R32 a).length : Int))))), (13, (.one (.int .i64 ((↑i : Int))))), (15, (.one (.int .i64 ((↑i : Int)))))], []⟩) (c := []) (by kernel_rfl) ⟨⟩ ?_
    refine SemS.step hS rfl (by kernel_rfl) rfl (v := (.one (.vptr [(.int .i32 (a.getD i 0))]))) (iaddr_map (kd := .i64) (f := fun r => [Lf.int IntKind.i32 r]) (l := a) (k := ((↑i : Int))) (0) (by kernel_rfl) (by kernel_rfl) (by omega)) (T' := tl 39 [(0, (.one (.vrow 1 (R32 a)))), (1, (.one (.vrow 1 (R32 b)))), (2, (.one (.fn 48 []))), (11, (.one (.vrow 1 (R32 a)))), (12, (.one (.int .i64 ((↑(R32 a).length : Int))))), (13, (.one (.int .i64 ((↑i : Int))))), (15, (.one (.int .i64 ((↑i : Int))))), (16, (.one (.vptr [(.int .i32 (a.getD i 0))])))]) (by kernel_rfl) ?_
    refine run_sound hS (n := 12) (b := bm 39 [0, 1, 2, 7, 8, 11, 12, 13, 21]) (s' := ⟨.normal, [.code f47_8, .code f47_18, .blk 1, .code (.reg f47_22), .stop R, .blk 0, .code f47_36], tl 39 [(0, (.one (.vrow 1 (R32 a)))), (1, (.one (.vrow 1 (R32 b)))), (2, (.one (.fn 48 []))), (7, (.one (.int .i64 ((↑i : Int))))), (8, (.one (.int .i32 (a.getD i 0)))), (11, (.one (.vrow 1 (R32 a)))), (12, (.one (.int .i64 ((↑(R32 a).length : Int))))), (13, (.one (.int .i64 ((↑i : Int))))), (21, (.one (.bool (decide ((↑(R32 b).length : Int) ≤ (↑i : Int))))))], []⟩) (c := []) (by kernel_rfl) ⟨⟩ ?_
    cases hb1 : decide ((↑(R32 b).length : Int) ≤ (↑i : Int))
    · replace hb1 := of_decide_eq_false hb1; try simp only [List.length_map] at hb1
      refine run_sound hS (n := 6) (b := bm 39 [0, 1, 2, 8, 11, 12, 13, 22, 23]) (s' := ⟨.normal, [.ops f47_10 2, .code f47_17, .blk 1, .code (.reg f47_22), .stop R, .blk 0, .code f47_36], tl 39 [(0, (.one (.vrow 1 (R32 a)))), (1, (.one (.vrow 1 (R32 b)))), (2, (.one (.fn 48 []))), (8, (.one (.int .i32 (a.getD i 0)))), (11, (.one (.vrow 1 (R32 a)))), (12, (.one (.int .i64 ((↑(R32 a).length : Int))))), (13, (.one (.int .i64 ((↑i : Int))))), (22, (.one (.vrow 1 (R32 b)))), (23, (.one (.int .i64 ((↑i : Int)))))], []⟩) (c := []) (by kernel_rfl) ⟨⟩ ?_
      refine SemS.step hS rfl (by kernel_rfl) rfl (v := (.one (.vptr [(.int .i32 (b.getD i 0))]))) (iaddr_map (kd := .i64) (f := fun r => [Lf.int IntKind.i32 r]) (l := b) (k := ((↑i : Int))) (0) (by kernel_rfl) (by kernel_rfl) (by omega)) (T' := tl 39 [(0, (.one (.vrow 1 (R32 a)))), (1, (.one (.vrow 1 (R32 b)))), (2, (.one (.fn 48 []))), (8, (.one (.int .i32 (a.getD i 0)))), (11, (.one (.vrow 1 (R32 a)))), (12, (.one (.int .i64 ((↑(R32 a).length : Int))))), (13, (.one (.int .i64 ((↑i : Int))))), (22, (.one (.vrow 1 (R32 b)))), (23, (.one (.int .i64 ((↑i : Int))))), (24, (.one (.vptr [(.int .i32 (b.getD i 0))])))]) (by kernel_rfl) ?_
      refine run_sound hS (n := 8) (b := bm 39 [0, 1, 2, 11, 12, 13, 26, 27, 28]) (s' := ⟨.normal, [.ops f47_11 3, .code f47_16, .blk 1, .code (.reg f47_22), .stop R, .blk 0, .code f47_36], tl 39 [(0, (.one (.vrow 1 (R32 a)))), (1, (.one (.vrow 1 (R32 b)))), (2, (.one (.fn 48 []))), (11, (.one (.vrow 1 (R32 a)))), (12, (.one (.int .i64 ((↑(R32 a).length : Int))))), (13, (.one (.int .i64 ((↑i : Int))))), (26, (.one (.fn 48 []))), (27, (.one (.int .i32 (a.getD i 0)))), (28, (.one (.int .i32 (b.getD i 0))))], []⟩) (c := []) (by kernel_rfl) ⟨⟩ ?_
      refine SemS.callP hS hp48 rfl (by kernel_rfl) (by kernel_rfl) (vs := [(.one (.int .i32 (a.getD i 0))), (.one (.int .i32 (b.getD i 0)))]) (by kernel_rfl) (v := (.one (.int .i64 (cmpI (a.getD i 0) (b.getD i 0))))) (c := []) (c48 (a.getD i 0) (b.getD i 0)) ⟨⟩ (T' := tl 39 [(0, (.one (.vrow 1 (R32 a)))), (1, (.one (.vrow 1 (R32 b)))), (2, (.one (.fn 48 []))), (11, (.one (.vrow 1 (R32 a)))), (12, (.one (.int .i64 ((↑(R32 a).length : Int))))), (13, (.one (.int .i64 ((↑i : Int))))), (26, (.one (.fn 48 []))), (27, (.one (.int .i32 (a.getD i 0)))), (28, (.one (.int .i32 (b.getD i 0)))), (29, (.one (.int .i64 (cmpI (a.getD i 0) (b.getD i 0)))))]) (by kernel_rfl) ?_
      refine run_sound hS (n := 7) (b := bm 39 [0, 1, 2, 10, 11, 12, 13, 31]) (s' := ⟨.normal, [.code f47_15, .blk 1, .code (.reg f47_22), .stop R, .blk 0, .code f47_36], tl 39 [(0, (.one (.vrow 1 (R32 a)))), (1, (.one (.vrow 1 (R32 b)))), (2, (.one (.fn 48 []))), (10, (.one (.int .i64 (cmpI (a.getD i 0) (b.getD i 0))))), (11, (.one (.vrow 1 (R32 a)))), (12, (.one (.int .i64 ((↑(R32 a).length : Int))))), (13, (.one (.int .i64 ((↑i : Int))))), (31, (.one (.bool (decide (cmpI (a.getD i 0) (b.getD i 0) ≠ 0)))))], []⟩) (c := []) (by kernel_rfl) ⟨⟩ ?_
      cases hb2 : decide (cmpI (a.getD i 0) (b.getD i 0) ≠ 0)
      · replace hb2 := of_decide_eq_false hb2; try simp only [List.length_map] at hb2
        refine run_sound hS (n := 7) (b := []) (s' := ⟨.normal, [.stop R, .blk 0, .code f47_36], tl 39 [(0, (.one (.vrow 1 (R32 a)))), (1, (.one (.vrow 1 (R32 b)))), (2, (.one (.fn 48 []))), (10, (.one (.int .i64 (cmpI (a.getD i 0) (b.getD i 0))))), (11, (.one (.vrow 1 (R32 a)))), (12, (.one (.int .i64 ((↑(R32 a).length : Int))))), (13, (.one (.int .i64 ((↑i : Int) + 1)))), (31, (.one (.bool false))), (33, (.one (.int .i64 ((↑i : Int) + 1))))], []⟩) (c := [i64R ((↑i : Int) + (1 : Int))]) (by kernel_rfl) ⟨by unfold i64R; omega, ⟨⟩⟩ ?_
        exact hR ⟨i + 1, by omega, by omega, by have hz := cmpI_z hb2; rw [he, cmpL_step, if_pos (by omega), if_pos (by omega), if_neg hz.1, if_neg hz.2]⟩ _ _ (by show a.length - (i + 1) < a.length - i; omega) (abs_l [] [] 39 [(0, .one (.vrow 1 (R32 a))), (1, .one (.vrow 1 (R32 b))), (2, .one (.fn 48 [])), (11, .one (.vrow 1 (R32 a))), (12, .one (.int .i64 ((R32 a).length : Int))), (13, .one (.int .i64 ((i + 1 : Nat) : Int)))] (by kernel_rfl) ⟨⟩ ⟨⟩ ⟨.row rfl, .row rfl, .eq1 rfl rfl, .row rfl, .int rfl, .int (by omega), ⟨⟩⟩)
      · replace hb2 := of_decide_eq_true hb2; try simp only [List.length_map] at hb2
        refine run_sound hS (n := 7) (b := []) (s' := ⟨.ret, [], tl 39 [(0, (.one (.vrow 1 (R32 a)))), (1, (.one (.vrow 1 (R32 b)))), (2, (.one (.fn 48 []))), (6, (.one (.int .i64 (cmpI (a.getD i 0) (b.getD i 0))))), (10, (.one (.int .i64 (cmpI (a.getD i 0) (b.getD i 0))))), (11, (.one (.vrow 1 (R32 a)))), (12, (.one (.int .i64 ((↑(R32 a).length : Int))))), (13, (.one (.int .i64 ((↑i : Int))))), (31, (.one (.bool true))), (32, (.one (.int .i64 (cmpI (a.getD i 0) (b.getD i 0)))))], []⟩) (c := []) (by kernel_rfl) ⟨⟩ ?_
        refine SemS.done (.inl rfl) Abs.refl (v := (.one (.int .i64 (cmpI (a.getD i 0) (b.getD i 0))))) (by kernel_rfl) ?_
        · show AV.one (.int .i64 _) = AV.one (.int .i64 (cmpL a b))
          rw [he, cmpL_step]; congr 2; (try unfold cmpI at *)
          repeat' split
          all_goals omega
    · replace hb1 := of_decide_eq_true hb1; try simp only [List.length_map] at hb1
      refine run_sound hS (n := 6) (b := []) (s' := ⟨.ret, [], tl 39 [(0, (.one (.vrow 1 (R32 a)))), (1, (.one (.vrow 1 (R32 b)))), (2, (.one (.fn 48 []))), (6, (.one (.int .i64 1))), (7, (.one (.int .i64 ((↑i : Int))))), (8, (.one (.int .i32 (a.getD i 0)))), (11, (.one (.vrow 1 (R32 a)))), (12, (.one (.int .i64 ((↑(R32 a).length : Int))))), (13, (.one (.int .i64 ((↑i : Int))))), (21, (.one (.bool true)))], []⟩) (c := []) (by kernel_rfl) ⟨⟩ ?_
      refine SemS.done (.inl rfl) Abs.refl (v := (.one (.int .i64 1))) (by kernel_rfl) ?_
      · show AV.one (.int .i64 _) = AV.one (.int .i64 (cmpL a b))
        rw [he, cmpL_step]; congr 2; (try unfold cmpI at *)
        repeat' split
        all_goals omega
theorem p24 (hS : S.Good X) (hp47 : X.pr 47 = some (pureP g47)) (h24 : S.has 24 f24) : PrOk S 24 (pureP g24) := by
  refine pure_rel 24 fun (a, b) hc => ⟨rfl, rfl, ?_⟩
  have hc1 : a.length ≤ 1099511627776 := hc.1
  refine MF.run hS h24 ([.one (.vrow 1 (R32 a)), .one (.vrow 1 (R32 b))] ++ List.replicate (f24.nt - f24.np) und) rfl rfl ?_
  refine run_sound hS (n := 8) (b := bm 8 [5, 6]) (s' := ⟨.normal, [.ops f24_1 2, .code .ret], tl 8 [(5, (.one (.vrow 1 (R32 a)))), (6, (.one (.vrow 1 (R32 b))))], []⟩) (c := []) (by kernel_rfl) ⟨⟩ ?_
  refine SemS.callP hS hp47 rfl (by kernel_rfl) (by kernel_rfl) (vs := [(.one (.vrow 1 (R32 a))), (.one (.vrow 1 (R32 b))), (.one (.fn 48 []))]) (by kernel_rfl) (v := (.one (.int .i64 (cmpL a b)))) (c := [a.length ≤ (1099511627776 : Nat)]) (c47 (a) (b)) ⟨by omega, ⟨⟩⟩ (T' := tl 8 [(5, (.one (.vrow 1 (R32 a)))), (6, (.one (.vrow 1 (R32 b)))), (7, (.one (.int .i64 (cmpL a b))))]) (by kernel_rfl) ?_
  refine run_sound hS (n := 3) (b := []) (s' := ⟨.ret, [], tl 8 [(4, (.one (.int .i64 (cmpL a b)))), (5, (.one (.vrow 1 (R32 a)))), (6, (.one (.vrow 1 (R32 b)))), (7, (.one (.int .i64 (cmpL a b))))], []⟩) (c := []) (by kernel_rfl) ⟨⟩ ?_
  refine SemS.done (.inl rfl) Abs.refl (v := (.one (.int .i64 (cmpL a b)))) (by kernel_rfl) ?_
  rfl
theorem w5 (hS : S.Good X) (hp16 : X.pr 16 = some (pureP g16)) (hp17 : X.pr 17 = some (pureP g17)) (hp24 : X.pr 24 = some (pureP g24)) (hp25 : X.pr 25 = some (pureP g25)) (h5 : S.has 5 f5) (a b : List UInt8) (la : a.length ≤ 1048576) (lb : b.length ≤ 1048576) : MF S 5 [] [.one (.str a), .one (.str b)] (hl []) fun v _ => v = .one (.bool true) := by
  have da := decR_len a
  have db := decR_len b
  have hl : (R32 (decR a)).length = (decR a).length := List.length_map ..
  have ht2 : ((decR a).length : Int).tdiv 2 = ((decR a).length : Int) / 2 := Int.tdiv_eq_ediv_of_nonneg (by omega)
  have ht : ((R32 (decR a)).length : Int).tdiv 2 = ((decR a).length : Int) / 2 := by rw [hl]; exact ht2
  refine MF.run hS h5 ([.one (.str a), .one (.str b)] ++ List.replicate (f5.nt - f5.np) und) rfl rfl ?_
  refine run_sound hS (n := 7) (b := bm 70 [0, 1]) (s' := ⟨.normal, [.ops f5_1 0, .code f5_4, .code f5_27], tl 70 [(0, (.one (.str (a)))), (1, (.one (.str (b))))], []⟩) (c := []) (by kernel_rfl) ⟨⟩ ?_
  refine SemS.callP hS hp16 rfl (by kernel_rfl) (by kernel_rfl) (vs := []) (by kernel_rfl) (v := (.one (.bool true))) (c := []) (c16) ⟨⟩ (T' := tl 70 [(0, (.one (.str (a)))), (1, (.one (.str (b)))), (11, (.one (.bool true)))]) (by kernel_rfl) ?_
  refine run_sound hS (n := 7) (b := bm 70 [0, 1, 14]) (s' := ⟨.normal, [.ops f5_6 1, .code f5_26], tl 70 [(0, (.one (.str (a)))), (1, (.one (.str (b)))), (14, (.one (.str (a))))], []⟩) (c := []) (by kernel_rfl) ⟨⟩ ?_
  refine SemS.callP hS hp17 rfl (by kernel_rfl) (by kernel_rfl) (vs := [(.one (.str (a)))]) (by kernel_rfl) (v := (.tup [(.one (.vrow 1 (R32 (decR a)))), (.one (.int .i64 (decE a)))])) (c := [a.length ≤ (1099511627776 : Nat)]) (c17 (a)) ⟨by omega, ⟨⟩⟩ (T' := tl 70 [(0, (.one (.str (a)))), (1, (.one (.str (b)))), (14, (.one (.str (a)))), (15, (.tup [(.one (.vrow 1 (R32 (decR a)))), (.one (.int .i64 (decE a)))]))]) (by kernel_rfl) ?_
  refine run_sound hS (n := 9) (b := bm 70 [0, 1, 5, 6, 19]) (s' := ⟨.normal, [.ops f5_7 1, .code f5_25], tl 70 [(0, (.one (.str (a)))), (1, (.one (.str (b)))), (5, (.one (.vrow 1 (R32 (decR a))))), (6, (.one (.int .i64 (decE a)))), (19, (.one (.str (b))))], []⟩) (c := []) (by kernel_rfl) ⟨⟩ ?_
  refine SemS.callP hS hp17 rfl (by kernel_rfl) (by kernel_rfl) (vs := [(.one (.str (b)))]) (by kernel_rfl) (v := (.tup [(.one (.vrow 1 (R32 (decR b)))), (.one (.int .i64 (decE b)))])) (c := [b.length ≤ (1099511627776 : Nat)]) (c17 (b)) ⟨by omega, ⟨⟩⟩ (T' := tl 70 [(0, (.one (.str (a)))), (1, (.one (.str (b)))), (5, (.one (.vrow 1 (R32 (decR a))))), (6, (.one (.int .i64 (decE a)))), (19, (.one (.str (b)))), (20, (.tup [(.one (.vrow 1 (R32 (decR b)))), (.one (.int .i64 (decE b)))]))]) (by kernel_rfl) ?_
  refine run_sound hS (n := 13) (b := bm 70 [0, 1, 5, 6, 7, 8, 26]) (s' := ⟨.normal, [.ops f5_8 4, .code f5_11, .code f5_24], tl 70 [(0, (.one (.str (a)))), (1, (.one (.str (b)))), (5, (.one (.vrow 1 (R32 (decR a))))), (6, (.one (.int .i64 (decE a)))), (7, (.one (.vrow 1 (R32 (decR b))))), (8, (.one (.int .i64 (decE b)))), (26, (.one (.bool (decide (2000 < (↑a.length : Int))))))], []⟩) (c := []) (by kernel_rfl) ⟨⟩ ?_
  cases hb0 : decide (2000 < (↑a.length : Int))
  · replace hb0 := of_decide_eq_false hb0; try simp only [List.length_map] at hb0
    refine run_sound hS (n := 5) (b := bm 70 [0, 1, 5, 6, 7, 8, 31]) (s' := ⟨.normal, [.ops f5_8 9, .code f5_11, .code f5_24], tl 70 [(0, (.one (.str (a)))), (1, (.one (.str (b)))), (5, (.one (.vrow 1 (R32 (decR a))))), (6, (.one (.int .i64 (decE a)))), (7, (.one (.vrow 1 (R32 (decR b))))), (8, (.one (.int .i64 (decE b)))), (31, (.one (.bool (decide (2000 < (↑b.length : Int))))))], []⟩) (c := []) (by kernel_rfl) ⟨⟩ ?_
    cases hb1 : decide (2000 < (↑b.length : Int))
    · replace hb1 := of_decide_eq_false hb1; try simp only [List.length_map] at hb1
      refine run_sound hS (n := 4) (b := bm 70 [0, 1, 5, 7, 8, 35]) (s' := ⟨.normal, [.ops f5_8 13, .code f5_11, .code f5_24], tl 70 [(0, (.one (.str (a)))), (1, (.one (.str (b)))), (5, (.one (.vrow 1 (R32 (decR a))))), (7, (.one (.vrow 1 (R32 (decR b))))), (8, (.one (.int .i64 (decE b)))), (35, (.one (.bool (decide (decE a ≠ 0)))))], []⟩) (c := []) (by kernel_rfl) ⟨⟩ ?_
      cases hb2 : decide (decE a ≠ 0)
      · replace hb2 := of_decide_eq_false hb2; try simp only [List.length_map] at hb2
        refine run_sound hS (n := 4) (b := bm 70 [0, 1, 5, 7, 38]) (s' := ⟨.normal, [.code f5_11, .code f5_24], tl 70 [(0, (.one (.str (a)))), (1, (.one (.str (b)))), (5, (.one (.vrow 1 (R32 (decR a))))), (7, (.one (.vrow 1 (R32 (decR b))))), (38, (.one (.bool (decide (decE b ≠ 0)))))], []⟩) (c := []) (by kernel_rfl) ⟨⟩ ?_
        cases hb3 : decide (decE b ≠ 0)
        · replace hb3 := of_decide_eq_false hb3; try simp only [List.length_map] at hb3
          refine run_sound hS (n := 6) (b := bm 70 [0, 1, 5, 7, 39, 40]) (s' := ⟨.normal, [.ops f5_13 2, .code f5_23], tl 70 [(0, (.one (.str (a)))), (1, (.one (.str (b)))), (5, (.one (.vrow 1 (R32 (decR a))))), (7, (.one (.vrow 1 (R32 (decR b))))), (39, (.one (.vrow 1 (R32 (decR a))))), (40, (.one (.vrow 1 (R32 (decR b)))))], []⟩) (c := []) (by kernel_rfl) ⟨⟩ ?_
          refine SemS.callP hS hp24 rfl (by kernel_rfl) (by kernel_rfl) (vs := [(.one (.vrow 1 (R32 (decR a)))), (.one (.vrow 1 (R32 (decR b))))]) (by kernel_rfl) (v := (.one (.int .i64 (cmpL (decR a) (decR b))))) (c := [(decR a).length ≤ (1099511627776 : Nat)]) (c24 (decR a) (decR b)) ⟨by omega, ⟨⟩⟩ (T' := tl 70 [(0, (.one (.str (a)))), (1, (.one (.str (b)))), (5, (.one (.vrow 1 (R32 (decR a))))), (7, (.one (.vrow 1 (R32 (decR b))))), (39, (.one (.vrow 1 (R32 (decR a))))), (40, (.one (.vrow 1 (R32 (decR b))))), (41, (.one (.int .i64 (cmpL (decR a) (decR b)))))]) (by kernel_rfl) ?_
          refine run_sound hS (n := 8) (b := bm 70 [5, 7, 9, 42, 43, 44]) (s' := ⟨.normal, [.ops f5_14 3, .code f5_17, .code f5_22], tl 70 [(5, (.one (.vrow 1 (R32 (decR a))))), (7, (.one (.vrow 1 (R32 (decR b))))), (9, (.one (.int .i64 (cmpL (decR a) (decR b))))), (42, (.one (.int .i64 (cmpL (decR a) (decR b))))), (43, (.one (.str (a)))), (44, (.one (.str (b))))], []⟩) (c := []) (by kernel_rfl) ⟨⟩ ?_
          refine SemS.callP hS hp25 rfl (by kernel_rfl) (by kernel_rfl) (vs := [(.one (.str (a))), (.one (.str (b)))]) (by kernel_rfl) (v := (.one (.int .i64 (Lib.compareBytes a b)))) (c := []) (c25 (a) (b)) ⟨⟩ (T' := tl 70 [(5, (.one (.vrow 1 (R32 (decR a))))), (7, (.one (.vrow 1 (R32 (decR b))))), (9, (.one (.int .i64 (cmpL (decR a) (decR b))))), (42, (.one (.int .i64 (cmpL (decR a) (decR b))))), (43, (.one (.str (a)))), (44, (.one (.str (b)))), (45, (.one (.int .i64 (Lib.compareBytes a b))))]) (by kernel_rfl) ?_
          refine run_sound hS (n := 2) (b := bm 70 [5, 7, 9, 47]) (s' := ⟨.normal, [.ops f5_14 6, .code f5_17, .code f5_22], tl 70 [(5, (.one (.vrow 1 (R32 (decR a))))), (7, (.one (.vrow 1 (R32 (decR b))))), (9, (.one (.int .i64 (cmpL (decR a) (decR b))))), (47, (.one (.bool (decide (cmpL (decR a) (decR b) ≠ Lib.compareBytes a b)))))], []⟩) (c := []) (by kernel_rfl) ⟨⟩ ?_
          cases hb4 : decide (cmpL (decR a) (decR b) ≠ Lib.compareBytes a b)
          · replace hb4 := of_decide_eq_false hb4; try simp only [List.length_map] at hb4
            refine run_sound hS (n := 3) (b := bm 70 [5, 47, 48, 49, 50]) (s' := ⟨.normal, [.ops f5_14 9, .code f5_17, .code f5_22], tl 70 [(5, (.one (.vrow 1 (R32 (decR a))))), (47, (.one (.bool false))), (48, (.one (.int .i64 (cmpL (decR a) (decR b))))), (49, (.one (.vrow 1 (R32 (decR b))))), (50, (.one (.vrow 1 (R32 (decR a)))))], []⟩) (c := []) (by kernel_rfl) ⟨⟩ ?_
            refine SemS.callP hS hp24 rfl (by kernel_rfl) (by kernel_rfl) (vs := [(.one (.vrow 1 (R32 (decR b)))), (.one (.vrow 1 (R32 (decR a))))]) (by kernel_rfl) (v := (.one (.int .i64 (cmpL (decR b) (decR a))))) (c := [(decR b).length ≤ (1099511627776 : Nat)]) (c24 (decR b) (decR a)) ⟨by omega, ⟨⟩⟩ (T' := tl 70 [(5, (.one (.vrow 1 (R32 (decR a))))), (47, (.one (.bool false))), (48, (.one (.int .i64 (cmpL (decR a) (decR b))))), (49, (.one (.vrow 1 (R32 (decR b))))), (50, (.one (.vrow 1 (R32 (decR a))))), (51, (.one (.int .i64 (cmpL (decR b) (decR a)))))]) (by kernel_rfl) ?_
            refine run_sound hS (n := 4) (b := bm 70 [5, 54]) (s' := ⟨.normal, [.code f5_17, .code f5_22], tl 70 [(5, (.one (.vrow 1 (R32 (decR a))))), (54, (.one (.bool (decide (cmpL (decR a) (decR b) ≠ IntKind.i64.wrap (0 - cmpL (decR b) (decR a)))))))], []⟩) (c := []) (by kernel_rfl) ⟨⟩ ?_
            cases hb5 : decide (cmpL (decR a) (decR b) ≠ IntKind.i64.wrap (0 - cmpL (decR b) (decR a)))
            · replace hb5 := of_decide_eq_false hb5; try simp only [List.length_map] at hb5
              refine run_sound hS (n := 13) (b := bm 70 [5, 10, 58, 59]) (s' := ⟨.normal, [.ops f5_20 2, .code .ret], tl 70 [(5, (.one (.vrow 1 (R32 (decR a))))), (10, (.one (.int .i64 ((↑(R32 (decR a)).length : Int).tdiv 2)))), (58, (.one (.vrow 1 (R32 (decR a))))), (59, (.one (.int .i64 ((↑(R32 (decR a)).length : Int).tdiv 2))))], []⟩) (c := [(2 : Int) ≠ (0 : Int), i64R ((↑(R32 (decR a)).length : Int).tdiv (2 : Int))]) (by kernel_rfl) ⟨by omega, by unfold i64R; omega, ⟨⟩⟩ ?_
              refine SemS.step hS rfl (by kernel_rfl) rfl (v := (.one (.vrow 1 (R32 (List.take (((↑(R32 (decR a)).length : Int).tdiv 2).toNat - 0) (List.drop 0 (decR a))))))) (slice_map (f := fun r => [Lf.int IntKind.i32 r]) (l := decR a) (a := 0) (b := ((↑(R32 (decR a)).length : Int).tdiv 2)) (by kernel_rfl) (by kernel_rfl) (by kernel_rfl) (by omega)) (T' := tl 70 [(5, (.one (.vrow 1 (R32 (decR a))))), (10, (.one (.int .i64 ((↑(R32 (decR a)).length : Int).tdiv 2)))), (58, (.one (.vrow 1 (R32 (decR a))))), (59, (.one (.int .i64 ((↑(R32 (decR a)).length : Int).tdiv 2)))), (60, (.one (.vrow 1 (R32 (List.take (((↑(R32 (decR a)).length : Int).tdiv 2).toNat - 0) (decR a))))))]) (by kernel_rfl) ?_
              refine run_sound hS (n := 1) (b := bm 70 [5, 10, 60, 61]) (s' := ⟨.normal, [.ops f5_20 4, .code .ret], tl 70 [(5, (.one (.vrow 1 (R32 (decR a))))), (10, (.one (.int .i64 ((↑(R32 (decR a)).length : Int).tdiv 2)))), (60, (.one (.vrow 1 (R32 (List.take (((↑(R32 (decR a)).length : Int).tdiv 2).toNat - 0) (decR a)))))), (61, (.one (.vrow 1 (R32 (decR a)))))], []⟩) (c := []) (by kernel_rfl) ⟨⟩ ?_
              refine SemS.callP hS hp24 rfl (by kernel_rfl) (by kernel_rfl) (vs := [(.one (.vrow 1 (R32 (List.take (((↑(R32 (decR a)).length : Int).tdiv 2).toNat - 0) (decR a))))), (.one (.vrow 1 (R32 (decR a))))]) (by kernel_rfl) (v := (.one (.int .i64 (cmpL (List.take (((↑(R32 (decR a)).length : Int).tdiv 2).toNat - 0) (decR a)) (decR a))))) (c := [(List.take (((↑(R32 (decR a)).length : Int).tdiv (2 : Int)).toNat - (0 : Nat)) (decR a)).length ≤ (1099511627776 : Nat)]) (c24 (List.take (((↑(R32 (decR a)).length : Int).tdiv 2).toNat - 0) (decR a)) (decR a)) ⟨by (try simp only [List.length_map, List.length_cons, List.length_nil, List.length_append, List.length_take, List.length_drop]); omega, ⟨⟩⟩ (T' := tl 70 [(5, (.one (.vrow 1 (R32 (decR a))))), (10, (.one (.int .i64 ((↑(R32 (decR a)).length : Int).tdiv 2)))), (60, (.one (.vrow 1 (R32 (List.take (((↑(R32 (decR a)).length : Int).tdiv 2).toNat - 0) (decR a)))))), (61, (.one (.vrow 1 (R32 (decR a))))), (62, (.one (.int .i64 (cmpL (List.take (((↑(R32 (decR a)).length : Int).tdiv 2).toNat - 0) (decR a)) (decR a)))))]) (by kernel_rfl) ?_
              refine run_sound hS (n := 10) (b := []) (s' := ⟨.ret, [], tl 70 [(4, (.one (.bool (decide (cmpL (List.take (((↑(R32 (decR a)).length : Int).tdiv 2).toNat - 0) (decR a)) (decR a) = IntKind.i64.wrap (0 - if false = true then if 1 < (↑(R32 (decR a)).length : Int) - (↑(R32 (decR a)).length : Int).tdiv 2 then (↑(R32 (decR a)).length : Int) - (↑(R32 (decR a)).length : Int).tdiv 2 else 1 else if (↑(R32 (decR a)).length : Int) - (↑(R32 (decR a)).length : Int).tdiv 2 < 1 then (↑(R32 (decR a)).length : Int) - (↑(R32 (decR a)).length : Int).tdiv 2 else 1)))))), (5, (.one (.vrow 1 (R32 (decR a))))), (10, (.one (.int .i64 ((↑(R32 (decR a)).length : Int).tdiv 2)))), (60, (.one (.vrow 1 (R32 (List.take (((↑(R32 (decR a)).length : Int).tdiv 2).toNat - 0) (decR a)))))), (61, (.one (.vrow 1 (R32 (decR a))))), (62, (.one (.int .i64 (cmpL (List.take (((↑(R32 (decR a)).length : Int).tdiv 2).toNat - 0) (decR a)) (decR a))))), (63, (.one (.vrow 1 (R32 (decR a))))), (64, (.one (.int .i64 ((↑(R32 (decR a)).length : Int))))), (65, (.one (.int .i64 ((↑(R32 (decR a)).length : Int).tdiv 2)))), (66, (.one (.int .i64 ((↑(R32 (decR a)).length : Int) - (↑(R32 (decR a)).length : Int).tdiv 2)))), (67, (.one (.int .i64 (if false = true then if 1 < (↑(R32 (decR a)).length : Int) - (↑(R32 (decR a)).length : Int).tdiv 2 then (↑(R32 (decR a)).length : Int) - (↑(R32 (decR a)).length : Int).tdiv 2 else 1 else if (↑(R32 (decR a)).length : Int) - (↑(R32 (decR a)).length : Int).tdiv 2 < 1 then (↑(R32 (decR a)).length : Int) - (↑(R32 (decR a)).length : Int).tdiv 2 else 1)))), (68, (.one (.int .i64 (IntKind.i64.wrap (0 - if false = true then if 1 < (↑(R32 (decR a)).length : Int) - (↑(R32 (decR a)).length : Int).tdiv 2 then (↑(R32 (decR a)).length : Int) - (↑(R32 (decR a)).length : Int).tdiv 2 else 1 else if (↑(R32 (decR a)).length : Int) - (↑(R32 (decR a)).length : Int).tdiv 2 < 1 then (↑(R32 (decR a)).length : Int) - (↑(R32 (decR a)).length : Int).tdiv 2 else 1))))), (69, (.one (.bool (decide (cmpL (List.take (((↑(R32 (decR a)).length : Int).tdiv 2).toNat - 0) (decR a)) (decR a) = IntKind.i64.wrap (0 - if false = true then if 1 < (↑(R32 (decR a)).length : Int) - (↑(R32 (decR a)).length : Int).tdiv 2 then (↑(R32 (decR a)).length : Int) - (↑(R32 (decR a)).length : Int).tdiv 2 else 1 else if (↑(R32 (decR a)).length : Int) - (↑(R32 (decR a)).length : Int).tdiv 2 < 1 then (↑(R32 (decR a)).length : Int) - (↑(R32 (decR a)).length : Int).tdiv 2 else 1))))))], []⟩) (c := [i64R ((↑(R32 (decR a)).length : Int) - (↑(R32 (decR a)).length : Int).tdiv (2 : Int))]) (by kernel_rfl) ⟨by unfold i64R; omega, ⟨⟩⟩ ?_
              refine SemS.done (.inl rfl) Abs.refl (v := (.one (.bool (decide (cmpL (List.take (((↑(R32 (decR a)).length : Int).tdiv 2).toNat - 0) (decR a)) (decR a) = IntKind.i64.wrap (0 - if false = true then if 1 < (↑(R32 (decR a)).length : Int) - (↑(R32 (decR a)).length : Int).tdiv 2 then (↑(R32 (decR a)).length : Int) - (↑(R32 (decR a)).length : Int).tdiv 2 else 1 else if (↑(R32 (decR a)).length : Int) - (↑(R32 (decR a)).length : Int).tdiv 2 < 1 then (↑(R32 (decR a)).length : Int) - (↑(R32 (decR a)).length : Int).tdiv 2 else 1)))))) (by kernel_rfl) ?_
              · first
                  | rfl
                  | exact absurd (order (not_ne2 hb2) (not_ne2 hb3)) hb4
                  | exact absurd (neg_wrap _ _) hb5
                  | (show AV.one (.bool (decide _)) = AV.one (.bool true); rw [decide_eq_true (half_cmp (decR a))])
            · replace hb5 := of_decide_eq_true hb5; try simp only [List.length_map] at hb5
              refine run_sound hS (n := 6) (b := []) (s' := ⟨.ret, [], tl 70 [(4, (.one (.bool false))), (5, (.one (.vrow 1 (R32 (decR a))))), (54, (.one (.bool true)))], []⟩) (c := []) (by kernel_rfl) ⟨⟩ ?_
              refine SemS.done (.inl rfl) Abs.refl (v := (.one (.bool false))) (by kernel_rfl) ?_
              · first
                  | rfl
                  | exact absurd (order (not_ne2 hb2) (not_ne2 hb3)) hb4
                  | exact absurd (neg_wrap _ _) hb5
                  | (show AV.one (.bool (decide _)) = AV.one (.bool true); rw [decide_eq_true (half_cmp (decR a))])
          · replace hb4 := of_decide_eq_true hb4; try simp only [List.length_map] at hb4
            refine run_sound hS (n := 14) (b := []) (s' := ⟨.ret, [], tl 70 [(4, (.one (.bool false))), (5, (.one (.vrow 1 (R32 (decR a))))), (7, (.one (.vrow 1 (R32 (decR b))))), (9, (.one (.int .i64 (cmpL (decR a) (decR b))))), (47, (.one (.bool true))), (48, und), (49, und), (50, und), (51, und), (52, und), (53, und), (54, (.one (.bool true)))], []⟩) (c := []) (by kernel_rfl) ⟨⟩ ?_
            refine SemS.done (.inl rfl) Abs.refl (v := (.one (.bool false))) (by kernel_rfl) ?_
            · first
                | rfl
                | exact absurd (order (not_ne2 hb2) (not_ne2 hb3)) hb4
                | exact absurd (neg_wrap _ _) hb5
                | (show AV.one (.bool (decide _)) = AV.one (.bool true); rw [decide_eq_true (half_cmp (decR a))])
        · replace hb3 := of_decide_eq_true hb3; try simp only [List.length_map] at hb3
          refine run_sound hS (n := 6) (b := []) (s' := ⟨.ret, [], tl 70 [(0, (.one (.str (a)))), (1, (.one (.str (b)))), (4, (.one (.bool true))), (5, (.one (.vrow 1 (R32 (decR a))))), (7, (.one (.vrow 1 (R32 (decR b))))), (38, (.one (.bool true)))], []⟩) (c := []) (by kernel_rfl) ⟨⟩ ?_
          refine SemS.done (.inl rfl) Abs.refl (v := (.one (.bool true))) (by kernel_rfl) ?_
          · first
              | rfl
              | exact absurd (order (not_ne2 hb2) (not_ne2 hb3)) hb4
              | exact absurd (neg_wrap _ _) hb5
              | (show AV.one (.bool (decide _)) = AV.one (.bool true); rw [decide_eq_true (half_cmp (decR a))])
      · replace hb2 := of_decide_eq_true hb2; try simp only [List.length_map] at hb2
        refine run_sound hS (n := 10) (b := []) (s' := ⟨.ret, [], tl 70 [(0, (.one (.str (a)))), (1, (.one (.str (b)))), (4, (.one (.bool true))), (5, (.one (.vrow 1 (R32 (decR a))))), (7, (.one (.vrow 1 (R32 (decR b))))), (8, (.one (.int .i64 (decE b)))), (35, (.one (.bool true))), (36, und), (37, und), (38, (.one (.bool true)))], []⟩) (c := []) (by kernel_rfl) ⟨⟩ ?_
        refine SemS.done (.inl rfl) Abs.refl (v := (.one (.bool true))) (by kernel_rfl) ?_
        · first
            | rfl
            | exact absurd (order (not_ne2 hb2) (not_ne2 hb3)) hb4
            | exact absurd (neg_wrap _ _) hb5
            | (show AV.one (.bool (decide _)) = AV.one (.bool true); rw [decide_eq_true (half_cmp (decR a))])
    · replace hb1 := of_decide_eq_true hb1; try simp only [List.length_map] at hb1
      refine run_sound hS (n := 14) (b := []) (s' := ⟨.ret, [], tl 70 [(0, (.one (.str (a)))), (1, (.one (.str (b)))), (4, (.one (.bool true))), (5, (.one (.vrow 1 (R32 (decR a))))), (6, (.one (.int .i64 (decE a)))), (7, (.one (.vrow 1 (R32 (decR b))))), (8, (.one (.int .i64 (decE b)))), (31, (.one (.bool true))), (32, und), (33, und), (34, (.one (.bool true))), (35, (.one (.bool true))), (36, und), (37, und), (38, (.one (.bool true)))], []⟩) (c := []) (by kernel_rfl) ⟨⟩ ?_
      refine SemS.done (.inl rfl) Abs.refl (v := (.one (.bool true))) (by kernel_rfl) ?_
      · first
          | rfl
          | exact absurd (order (not_ne2 hb2) (not_ne2 hb3)) hb4
          | exact absurd (neg_wrap _ _) hb5
          | (show AV.one (.bool (decide _)) = AV.one (.bool true); rw [decide_eq_true (half_cmp (decR a))])
  · replace hb0 := of_decide_eq_true hb0; try simp only [List.length_map] at hb0
    refine run_sound hS (n := 19) (b := []) (s' := ⟨.ret, [], tl 70 [(0, (.one (.str (a)))), (1, (.one (.str (b)))), (4, (.one (.bool true))), (5, (.one (.vrow 1 (R32 (decR a))))), (6, (.one (.int .i64 (decE a)))), (7, (.one (.vrow 1 (R32 (decR b))))), (8, (.one (.int .i64 (decE b)))), (26, (.one (.bool true))), (27, und), (28, und), (29, und), (30, (.one (.bool true))), (31, (.one (.bool true))), (32, und), (33, und), (34, (.one (.bool true))), (35, (.one (.bool true))), (36, und), (37, und), (38, (.one (.bool true)))], []⟩) (c := []) (by kernel_rfl) ⟨⟩ ?_
    refine SemS.done (.inl rfl) Abs.refl (v := (.one (.bool true))) (by kernel_rfl) ?_
    · first
        | rfl
        | exact absurd (order (not_ne2 hb2) (not_ne2 hb3)) hb4
        | exact absurd (neg_wrap _ _) hb5
        | (show AV.one (.bool (decide _)) = AV.one (.bool true); rw [decide_eq_true (half_cmp (decR a))])
end
end Go.EA
