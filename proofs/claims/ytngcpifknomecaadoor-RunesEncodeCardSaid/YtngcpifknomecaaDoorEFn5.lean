/- Layer 1: the reference's Letters; the law RunesDecode's code. Conditions: none. (Printed by a program of this project's own.) -/
import Derived.Test.YtngcpifknomecaaDoorEAf1
import Derived.Test.YtngcpifknomecaaDoorEK4
import Derived.Test.YtngcpifknomecaaDoorEMean3
import Derived.KernelRfl
set_option linter.unusedVariables false
set_option linter.unusedSimpArgs false
set_option maxRecDepth 100000
set_option maxHeartbeats 0
namespace Go.EA
open F
section
variable {S : SC} {X : Cx}
theorem p23 (hS : S.Good X) (hp19 : X.pr 19 = some (pureP g19)) (hp36 : X.pr 36 = some (pureP g36)) (h23 : S.has 23 f23) : PrOk S 23 (pureP g23) := by
  refine pure_rel 23 fun s hc => ⟨rfl, rfl, ?_⟩
  have hc1 : s.length ≤ 1099511627776 := hc.1
  have hd := decR_len s
  refine MF.run hS h23 ([.one (.str s)] ++ List.replicate (f23.nt - f23.np) und) rfl rfl ?_
  refine run_sound hS (n := 7) (b := bm 29 [8]) (s' := ⟨.normal, [.ops f23_1 1, .code f23_22], tl 29 [(8, (.one (.str (s))))], []⟩) (c := []) (by kernel_rfl) ⟨⟩ ?_
  refine SemS.callP hS hp19 rfl (by kernel_rfl) (by kernel_rfl) (vs := [(.one (.str (s)))]) (by kernel_rfl) (v := (.tup [(.one (.vrow 1 (R32 (decR s)))), (.one (.int .i64 (decE s)))])) (c := [s.length ≤ (1099511627776 : Nat)]) (c19 (s)) ⟨by omega, ⟨⟩⟩ (T' := tl 29 [(8, (.one (.str (s)))), (9, (.tup [(.one (.vrow 1 (R32 (decR s)))), (.one (.int .i64 (decE s)))]))]) (by kernel_rfl) ?_
  refine run_sound hS (n := 14) (b := bm 29 [3, 4, 12, 13, 14]) (s' := ⟨.normal, [.code f23_17, .blk 0, .code f23_21], tl 29 [(3, (.one (.vrow 1 (R32 (decR s))))), (4, (.one (.int .i64 (decE s)))), (12, (.one (.vrow 1 (R32 (decR s))))), (13, (.one (.int .i64 ((↑(R32 (decR s)).length : Int))))), (14, (.one (.int .i64 0)))], []⟩) (c := []) (by kernel_rfl) ⟨⟩ ?_
  refine SemS.loop (α := { i : Nat // i ≤ (decR s).length ∧ ((decR s).take i).all letterB = true }) (fun ⟨i, hi, ha⟩ => (tl 29 [(3, .one (.vrow 1 (R32 (decR s)))), (4, .one (.int .i64 (decE s))), (12, .one (.vrow 1 (R32 (decR s)))), (13, .one (.int .i64 ((R32 (decR s)).length : Int))), (14, .one (.int .i64 (i : Int)))], [])) (fun ⟨i, hi, ha⟩ => (decR s).length - i) ⟨0, by omega, rfl⟩ (Abs.refl) ?_
  rintro ⟨i, hi, ha⟩ R hR
  refine run_sound hS (n := 5) (b := bm 29 [3, 4, 12, 13, 14, 15]) (s' := ⟨.normal, [.code f23_4, .code f23_14, .stop R, .blk 0, .code f23_21], tl 29 [(3, (.one (.vrow 1 (R32 (decR s))))), (4, (.one (.int .i64 (decE s)))), (12, (.one (.vrow 1 (R32 (decR s))))), (13, (.one (.int .i64 ((↑(R32 (decR s)).length : Int))))), (14, (.one (.int .i64 ((↑i : Int))))), (15, (.one (.bool (decide ((↑i : Int) < (↑(R32 (decR s)).length : Int))))))], []⟩) (c := []) (by kernel_rfl) ⟨⟩ ?_
  cases hb0 : decide ((↑i : Int) < (↑(R32 (decR s)).length : Int))
  · replace hb0 := of_decide_eq_false hb0; try simp only [List.length_map] at hb0
    refine run_sound hS (n := 10) (b := bm 29 [3, 24]) (s' := ⟨.normal, [.ops f23_20 3, .code .ret], tl 29 [(3, (.one (.vrow 1 (R32 (decR s))))), (24, (.one (.bool (decide (decE s = 0)))))], []⟩) (c := []) (by kernel_rfl) ⟨⟩ ?_
    cases hb1 : decide (decE s = 0)
    · replace hb1 := of_decide_eq_false hb1; try simp only [List.length_map] at hb1
      refine run_sound hS (n := 7) (b := []) (s' := ⟨.ret, [], tl 29 [(2, (.one (.bool false))), (3, (.one (.vrow 1 (R32 (decR s))))), (24, (.one (.bool false))), (25, und), (26, und), (27, und), (28, (.one (.bool false)))], []⟩) (c := []) (by kernel_rfl) ⟨⟩ ?_
      refine SemS.done (.inl rfl) Abs.refl (v := (.one (.bool false))) (by kernel_rfl) ?_
      · show AV.one (.bool _) = AV.one (.bool (lettersB s))
        first
          | rw [let_n hb0 hb1]
          | rw [let_u hb1]
          | rw [let_a hb0 ha hb1]
    · replace hb1 := of_decide_eq_true hb1; try simp only [List.length_map] at hb1
      refine run_sound hS (n := 7) (b := []) (s' := ⟨.ret, [], tl 29 [(2, (.one (.bool (decide (0 < (↑(R32 (decR s)).length : Int)))))), (3, (.one (.vrow 1 (R32 (decR s))))), (24, (.one (.bool true))), (25, (.one (.vrow 1 (R32 (decR s))))), (26, (.one (.int .i64 ((↑(R32 (decR s)).length : Int))))), (27, (.one (.bool (decide (0 < (↑(R32 (decR s)).length : Int)))))), (28, (.one (.bool (decide (0 < (↑(R32 (decR s)).length : Int))))))], []⟩) (c := []) (by kernel_rfl) ⟨⟩ ?_
      refine SemS.done (.inl rfl) Abs.refl (v := (.one (.bool (decide (0 < (↑(R32 (decR s)).length : Int)))))) (by kernel_rfl) ?_
      · show AV.one (.bool _) = AV.one (.bool (lettersB s))
        first
          | rw [let_n hb0 hb1]
          | rw [let_u hb1]
          | rw [let_a hb0 ha hb1]
  · replace hb0 := of_decide_eq_true hb0; try simp only [List.length_map] at hb0
    refine run_sound hS (n := 6) (b := bm 29 [3, 4, 12, 13, 14]) (s' := ⟨.normal, [.ops f23_5 0, .code f23_10, .blk 1, .code (.reg f23_13), .stop R, .blk 0, .code f23_21], tl 29 [(3, (.one (.vrow 1 (R32 (decR s))))), (4, (.one (.int .i64 (decE s)))), (12, (.one (.vrow 1 (R32 (decR s))))), (13, (.one (.int .i64 ((↑(R32 (decR s)).length : Int))))), (14, (.one (.int .i64 ((↑i : Int)))))], []⟩) (c := []) (by kernel_rfl) ⟨⟩ ?_
    refine SemS.step hS rfl (by kernel_rfl) rfl (v := (.one (.vptr [(.int .i32 ((decR s).getD i 0))]))) (iaddr_map (kd := .i64) (f := fun r => [Lf.int IntKind.i32 r]) (l := decR s) (k := ((↑i : Int))) (0) (by kernel_rfl) (by kernel_rfl) (by omega)) (T' := tl 29 [(3, (.one (.vrow 1 (R32 (decR s))))), (4, (.one (.int .i64 (decE s)))), (12, (.one (.vrow 1 (R32 (decR s))))), (13, (.one (.int .i64 ((↑(R32 (decR s)).length : Int))))), (14, (.one (.int .i64 ((↑i : Int))))), (16, (.one (.vptr [(.int .i32 ((decR s).getD i 0))])))]) (by kernel_rfl) ?_
    refine run_sound hS (n := 6) (b := bm 29 [3, 4, 12, 13, 14, 18]) (s' := ⟨.normal, [.ops f23_6 1, .code f23_9, .blk 1, .code (.reg f23_13), .stop R, .blk 0, .code f23_21], tl 29 [(3, (.one (.vrow 1 (R32 (decR s))))), (4, (.one (.int .i64 (decE s)))), (12, (.one (.vrow 1 (R32 (decR s))))), (13, (.one (.int .i64 ((↑(R32 (decR s)).length : Int))))), (14, (.one (.int .i64 ((↑i : Int))))), (18, (.one (.int .i32 ((decR s).getD i 0))))], []⟩) (c := []) (by kernel_rfl) ⟨⟩ ?_
    refine SemS.callP hS hp36 rfl (by kernel_rfl) (by kernel_rfl) (vs := [(.one (.int .i32 ((decR s).getD i 0)))]) (by kernel_rfl) (v := (.one (.bool (letterB ((decR s).getD i 0))))) (c := []) (c36 ((decR s).getD i 0)) ⟨⟩ (T' := tl 29 [(3, (.one (.vrow 1 (R32 (decR s))))), (4, (.one (.int .i64 (decE s)))), (12, (.one (.vrow 1 (R32 (decR s))))), (13, (.one (.int .i64 ((↑(R32 (decR s)).length : Int))))), (14, (.one (.int .i64 ((↑i : Int))))), (18, (.one (.int .i32 ((decR s).getD i 0)))), (19, (.one (.bool (letterB ((decR s).getD i 0)))))]) (by kernel_rfl) ?_
    refine run_sound hS (n := 2) (b := bm 29 [3, 4, 12, 13, 14, 20]) (s' := ⟨.normal, [.code f23_9, .blk 1, .code (.reg f23_13), .stop R, .blk 0, .code f23_21], tl 29 [(3, (.one (.vrow 1 (R32 (decR s))))), (4, (.one (.int .i64 (decE s)))), (12, (.one (.vrow 1 (R32 (decR s))))), (13, (.one (.int .i64 ((↑(R32 (decR s)).length : Int))))), (14, (.one (.int .i64 ((↑i : Int))))), (20, (.one (.bool (!letterB ((decR s).getD i 0)))))], []⟩) (c := []) (by kernel_rfl) ⟨⟩ ?_
    cases hb1 : letterB ((decR s).getD i 0)
    · skip
      refine run_sound hS (n := 6) (b := []) (s' := ⟨.ret, [], tl 29 [(2, (.one (.bool false))), (3, (.one (.vrow 1 (R32 (decR s))))), (4, (.one (.int .i64 (decE s)))), (12, (.one (.vrow 1 (R32 (decR s))))), (13, (.one (.int .i64 ((↑(R32 (decR s)).length : Int))))), (14, (.one (.int .i64 ((↑i : Int))))), (20, (.one (.bool true)))], []⟩) (c := []) (by kernel_rfl) ⟨⟩ ?_
      refine SemS.done (.inl rfl) Abs.refl (v := (.one (.bool false))) (by kernel_rfl) ?_
      · show AV.one (.bool _) = AV.one (.bool (lettersB s))
        first
          | rw [let_n hb0 hb1]
          | rw [let_u hb1]
          | rw [let_a hb0 ha hb1]
    · skip
      refine run_sound hS (n := 7) (b := []) (s' := ⟨.normal, [.stop R, .blk 0, .code f23_21], tl 29 [(3, (.one (.vrow 1 (R32 (decR s))))), (4, (.one (.int .i64 (decE s)))), (12, (.one (.vrow 1 (R32 (decR s))))), (13, (.one (.int .i64 ((↑(R32 (decR s)).length : Int))))), (14, (.one (.int .i64 ((↑i : Int) + 1)))), (20, (.one (.bool false))), (21, (.one (.int .i64 ((↑i : Int) + 1))))], []⟩) (c := [i64R ((↑i : Int) + (1 : Int))]) (by kernel_rfl) ⟨by unfold i64R; omega, ⟨⟩⟩ ?_
      exact hR ⟨i + 1, by omega, let_s hb0 hb1 ha⟩ _ _ (by show (decR s).length - (i + 1) < (decR s).length - i; omega) (abs_l [] [] 29 [(3, .one (.vrow 1 (R32 (decR s)))), (4, .one (.int .i64 (decE s))), (12, .one (.vrow 1 (R32 (decR s)))), (13, .one (.int .i64 ((R32 (decR s)).length : Int))), (14, .one (.int .i64 ((i + 1 : Nat) : Int)))] (by kernel_rfl) ⟨⟩ ⟨⟩ ⟨.row rfl, .int rfl, .row rfl, .int rfl, .int (by omega), ⟨⟩⟩)
theorem w4 (hS : S.Good X) (hp16 : X.pr 16 = some (pureP g16)) (hp17 : X.pr 17 = some (pureP g17)) (hp18 : X.pr 18 = some (pureP g18)) (hp19 : X.pr 19 = some (pureP g19)) (hp20 : X.pr 20 = some (pureP g20)) (hp21 : X.pr 21 = some (pureP g21)) (hp22 : X.pr 22 = some (pureP g22)) (hp23 : X.pr 23 = some (pureP g23)) (h4 : S.has 4 f4) (s : List UInt8) : MF S 4 [] [.one (.str s)] (hl []) fun v _ => v = .one (.bool true) := by
  have hd := decR_len s
  have hd2 := tokR_len s
  refine MF.run hS h4 ([.one (.str s)] ++ List.replicate (f4.nt - f4.np) und) rfl rfl ?_
  refine run_sound hS (n := 7) (b := bm 61 [0]) (s' := ⟨.normal, [.ops f4_1 0, .code f4_4, .code f4_21], tl 61 [(0, (.one (.str (s))))], []⟩) (c := []) (by kernel_rfl) ⟨⟩ ?_
  refine SemS.callP hS hp16 rfl (by kernel_rfl) (by kernel_rfl) (vs := []) (by kernel_rfl) (v := (.one (.bool true))) (c := []) (c16) ⟨⟩ (T' := tl 61 [(0, (.one (.str (s)))), (11, (.one (.bool true)))]) (by kernel_rfl) ?_
  refine run_sound hS (n := 11) (b := bm 61 [0, 15]) (s' := ⟨.normal, [.code f4_9, .code f4_20], tl 61 [(0, (.one (.str (s)))), (15, (.one (.bool (decide (3000 < (↑s.length : Int))))))], []⟩) (c := []) (by kernel_rfl) ⟨⟩ ?_
  cases hb0 : decide (3000 < (↑s.length : Int))
  · replace hb0 := of_decide_eq_false hb0; try simp only [List.length_map] at hb0
    refine run_sound hS (n := 5) (b := bm 61 [0, 17]) (s' := ⟨.normal, [.ops f4_11 1, .code f4_19], tl 61 [(0, (.one (.str (s)))), (17, (.one (.str (s))))], []⟩) (c := []) (by kernel_rfl) ⟨⟩ ?_
    refine SemS.callP hS hp17 rfl (by kernel_rfl) (by kernel_rfl) (vs := [(.one (.str (s)))]) (by kernel_rfl) (v := (.tup [(.one (.vrow 1 (R32 (decR s)))), (.one (.int .i64 (decE s)))])) (c := [s.length ≤ (1099511627776 : Nat)]) (c17 (s)) ⟨by omega, ⟨⟩⟩ (T' := tl 61 [(0, (.one (.str (s)))), (17, (.one (.str (s)))), (18, (.tup [(.one (.vrow 1 (R32 (decR s)))), (.one (.int .i64 (decE s)))]))]) (by kernel_rfl) ?_
    refine run_sound hS (n := 9) (b := bm 61 [0, 3, 4, 22]) (s' := ⟨.normal, [.ops f4_12 1, .code f4_18], tl 61 [(0, (.one (.str (s)))), (3, (.one (.vrow 1 (R32 (decR s))))), (4, (.one (.int .i64 (decE s)))), (22, (.one (.str (s))))], []⟩) (c := []) (by kernel_rfl) ⟨⟩ ?_
    refine SemS.callP hS hp19 rfl (by kernel_rfl) (by kernel_rfl) (vs := [(.one (.str (s)))]) (by kernel_rfl) (v := (.tup [(.one (.vrow 1 (R32 (decR s)))), (.one (.int .i64 (decE s)))])) (c := [s.length ≤ (1099511627776 : Nat)]) (c19 (s)) ⟨by omega, ⟨⟩⟩ (T' := tl 61 [(0, (.one (.str (s)))), (3, (.one (.vrow 1 (R32 (decR s))))), (4, (.one (.int .i64 (decE s)))), (22, (.one (.str (s)))), (23, (.tup [(.one (.vrow 1 (R32 (decR s)))), (.one (.int .i64 (decE s)))]))]) (by kernel_rfl) ?_
    refine run_sound hS (n := 9) (b := bm 61 [0, 3, 4, 5, 6, 27]) (s' := ⟨.normal, [.ops f4_13 1, .code f4_17], tl 61 [(0, (.one (.str (s)))), (3, (.one (.vrow 1 (R32 (decR s))))), (4, (.one (.int .i64 (decE s)))), (5, (.one (.vrow 1 (R32 (decR s))))), (6, (.one (.int .i64 (decE s)))), (27, (.one (.str (s))))], []⟩) (c := []) (by kernel_rfl) ⟨⟩ ?_
    refine SemS.callP hS hp20 rfl (by kernel_rfl) (by kernel_rfl) (vs := [(.one (.str (s)))]) (by kernel_rfl) (v := (.tup [(.one (.vrow 1 (R32 (tokR s)))), (.one (.int .i64 (tokE s)))])) (c := [s.length ≤ (1099511627776 : Nat)]) (c20 (s)) ⟨by omega, ⟨⟩⟩ (T' := tl 61 [(0, (.one (.str (s)))), (3, (.one (.vrow 1 (R32 (decR s))))), (4, (.one (.int .i64 (decE s)))), (5, (.one (.vrow 1 (R32 (decR s))))), (6, (.one (.int .i64 (decE s)))), (27, (.one (.str (s)))), (28, (.tup [(.one (.vrow 1 (R32 (tokR s)))), (.one (.int .i64 (tokE s)))]))]) (by kernel_rfl) ?_
    refine run_sound hS (n := 9) (b := bm 61 [0, 3, 4, 5, 6, 7, 8, 32]) (s' := ⟨.normal, [.ops f4_14 1, .code f4_16], tl 61 [(0, (.one (.str (s)))), (3, (.one (.vrow 1 (R32 (decR s))))), (4, (.one (.int .i64 (decE s)))), (5, (.one (.vrow 1 (R32 (decR s))))), (6, (.one (.int .i64 (decE s)))), (7, (.one (.vrow 1 (R32 (tokR s))))), (8, (.one (.int .i64 (tokE s)))), (32, (.one (.str (s))))], []⟩) (c := []) (by kernel_rfl) ⟨⟩ ?_
    refine SemS.callP hS hp21 rfl (by kernel_rfl) (by kernel_rfl) (vs := [(.one (.str (s)))]) (by kernel_rfl) (v := (.tup [(.one (.vrow 1 (R32 (tokR s)))), (.one (.int .i64 (tokE s)))])) (c := [s.length ≤ (1099511627776 : Nat)]) (c21 (s)) ⟨by omega, ⟨⟩⟩ (T' := tl 61 [(0, (.one (.str (s)))), (3, (.one (.vrow 1 (R32 (decR s))))), (4, (.one (.int .i64 (decE s)))), (5, (.one (.vrow 1 (R32 (decR s))))), (6, (.one (.int .i64 (decE s)))), (7, (.one (.vrow 1 (R32 (tokR s))))), (8, (.one (.int .i64 (tokE s)))), (32, (.one (.str (s)))), (33, (.tup [(.one (.vrow 1 (R32 (tokR s)))), (.one (.int .i64 (tokE s)))]))]) (by kernel_rfl) ?_
    refine run_sound hS (n := 10) (b := bm 61 [0, 4, 6, 7, 8, 9, 10, 36, 37]) (s' := ⟨.normal, [.ops f4_15 2, .code .ret], tl 61 [(0, (.one (.str (s)))), (4, (.one (.int .i64 (decE s)))), (6, (.one (.int .i64 (decE s)))), (7, (.one (.vrow 1 (R32 (tokR s))))), (8, (.one (.int .i64 (tokE s)))), (9, (.one (.vrow 1 (R32 (tokR s))))), (10, (.one (.int .i64 (tokE s)))), (36, (.one (.vrow 1 (R32 (decR s))))), (37, (.one (.vrow 1 (R32 (decR s)))))], []⟩) (c := []) (by kernel_rfl) ⟨⟩ ?_
    refine SemS.callP hS hp18 rfl (by kernel_rfl) (by kernel_rfl) (vs := [(.one (.vrow 1 (R32 (decR s)))), (.one (.vrow 1 (R32 (decR s))))]) (by kernel_rfl) (v := (.one (.bool (decide (decR s = decR s))))) (c := [(decR s).length ≤ (1099511627776 : Nat)]) (c18 (decR s) (decR s)) ⟨by omega, ⟨⟩⟩ (T' := tl 61 [(0, (.one (.str (s)))), (4, (.one (.int .i64 (decE s)))), (6, (.one (.int .i64 (decE s)))), (7, (.one (.vrow 1 (R32 (tokR s))))), (8, (.one (.int .i64 (tokE s)))), (9, (.one (.vrow 1 (R32 (tokR s))))), (10, (.one (.int .i64 (tokE s)))), (36, (.one (.vrow 1 (R32 (decR s))))), (37, (.one (.vrow 1 (R32 (decR s))))), (38, (.one (.bool (decide (decR s = decR s)))))]) (by kernel_rfl) ?_
    refine run_sound hS (n := 1) (b := bm 61 [0, 4, 6, 7, 8, 9, 10, 39]) (s' := ⟨.normal, [.ops f4_15 4, .code .ret], tl 61 [(0, (.one (.str (s)))), (4, (.one (.int .i64 (decE s)))), (6, (.one (.int .i64 (decE s)))), (7, (.one (.vrow 1 (R32 (tokR s))))), (8, (.one (.int .i64 (tokE s)))), (9, (.one (.vrow 1 (R32 (tokR s))))), (10, (.one (.int .i64 (tokE s)))), (39, (.one (.bool (decide (decR s = decR s)))))], []⟩) (c := []) (by kernel_rfl) ⟨⟩ ?_
    cases hb1 : decide (decR s = decR s)
    · replace hb1 := of_decide_eq_false hb1; try simp only [List.length_map] at hb1
      refine run_sound hS (n := 24) (b := []) (s' := ⟨.ret, [], tl 61 [(0, (.one (.str (s)))), (2, (.one (.bool false))), (4, (.one (.int .i64 (decE s)))), (6, (.one (.int .i64 (decE s)))), (7, (.one (.vrow 1 (R32 (tokR s))))), (8, (.one (.int .i64 (tokE s)))), (9, (.one (.vrow 1 (R32 (tokR s))))), (10, (.one (.int .i64 (tokE s)))), (39, (.one (.bool false))), (40, und), (41, und), (42, und), (43, (.one (.bool false))), (44, (.one (.bool false))), (45, und), (46, und), (47, und), (48, und), (49, und), (50, (.one (.bool false))), (51, (.one (.bool false))), (52, und), (53, und), (54, und), (55, (.one (.bool false))), (56, (.one (.bool false))), (57, und), (58, und), (59, und), (60, (.one (.bool false)))], []⟩) (c := []) (by kernel_rfl) ⟨⟩ ?_
      refine SemS.done (.inl rfl) Abs.refl (v := (.one (.bool false))) (by kernel_rfl) ?_
      · show AV.one (.bool _) = AV.one (.bool true)
        simp_all
    · replace hb1 := of_decide_eq_true hb1; try simp only [List.length_map] at hb1
      refine run_sound hS (n := 5) (b := bm 61 [0, 7, 8, 9, 10, 44]) (s' := ⟨.normal, [.ops f4_15 9, .code .ret], tl 61 [(0, (.one (.str (s)))), (7, (.one (.vrow 1 (R32 (tokR s))))), (8, (.one (.int .i64 (tokE s)))), (9, (.one (.vrow 1 (R32 (tokR s))))), (10, (.one (.int .i64 (tokE s)))), (44, (.one (.bool (decide (decE s = decE s)))))], []⟩) (c := []) (by kernel_rfl) ⟨⟩ ?_
      cases hb2 : decide (decE s = decE s)
      · replace hb2 := of_decide_eq_false hb2; try simp only [List.length_map] at hb2
        refine run_sound hS (n := 19) (b := []) (s' := ⟨.ret, [], tl 61 [(0, (.one (.str (s)))), (2, (.one (.bool false))), (7, (.one (.vrow 1 (R32 (tokR s))))), (8, (.one (.int .i64 (tokE s)))), (9, (.one (.vrow 1 (R32 (tokR s))))), (10, (.one (.int .i64 (tokE s)))), (44, (.one (.bool false))), (45, und), (46, und), (47, und), (48, und), (49, und), (50, (.one (.bool false))), (51, (.one (.bool false))), (52, und), (53, und), (54, und), (55, (.one (.bool false))), (56, (.one (.bool false))), (57, und), (58, und), (59, und), (60, (.one (.bool false)))], []⟩) (c := []) (by kernel_rfl) ⟨⟩ ?_
        refine SemS.done (.inl rfl) Abs.refl (v := (.one (.bool false))) (by kernel_rfl) ?_
        · show AV.one (.bool _) = AV.one (.bool true)
          simp_all
      · replace hb2 := of_decide_eq_true hb2; try simp only [List.length_map] at hb2
        refine run_sound hS (n := 1) (b := bm 61 [0, 7, 8, 9, 10, 44, 45]) (s' := ⟨.normal, [.ops f4_15 10, .code .ret], tl 61 [(0, (.one (.str (s)))), (7, (.one (.vrow 1 (R32 (tokR s))))), (8, (.one (.int .i64 (tokE s)))), (9, (.one (.vrow 1 (R32 (tokR s))))), (10, (.one (.int .i64 (tokE s)))), (44, (.one (.bool true))), (45, (.one (.str (s))))], []⟩) (c := []) (by kernel_rfl) ⟨⟩ ?_
        refine SemS.callP hS hp22 rfl (by kernel_rfl) (by kernel_rfl) (vs := [(.one (.str (s)))]) (by kernel_rfl) (v := (.one (.bool (lettersB s)))) (c := [s.length ≤ (1099511627776 : Nat)]) (c22 (s)) ⟨by omega, ⟨⟩⟩ (T' := tl 61 [(0, (.one (.str (s)))), (7, (.one (.vrow 1 (R32 (tokR s))))), (8, (.one (.int .i64 (tokE s)))), (9, (.one (.vrow 1 (R32 (tokR s))))), (10, (.one (.int .i64 (tokE s)))), (44, (.one (.bool true))), (45, (.one (.str (s)))), (46, (.one (.bool (lettersB s))))]) (by kernel_rfl) ?_
        refine run_sound hS (n := 1) (b := bm 61 [7, 8, 9, 10, 44, 46, 47]) (s' := ⟨.normal, [.ops f4_15 12, .code .ret], tl 61 [(7, (.one (.vrow 1 (R32 (tokR s))))), (8, (.one (.int .i64 (tokE s)))), (9, (.one (.vrow 1 (R32 (tokR s))))), (10, (.one (.int .i64 (tokE s)))), (44, (.one (.bool true))), (46, (.one (.bool (lettersB s)))), (47, (.one (.str (s))))], []⟩) (c := []) (by kernel_rfl) ⟨⟩ ?_
        refine SemS.callP hS hp23 rfl (by kernel_rfl) (by kernel_rfl) (vs := [(.one (.str (s)))]) (by kernel_rfl) (v := (.one (.bool (lettersB s)))) (c := [s.length ≤ (1099511627776 : Nat)]) (c23 (s)) ⟨by omega, ⟨⟩⟩ (T' := tl 61 [(7, (.one (.vrow 1 (R32 (tokR s))))), (8, (.one (.int .i64 (tokE s)))), (9, (.one (.vrow 1 (R32 (tokR s))))), (10, (.one (.int .i64 (tokE s)))), (44, (.one (.bool true))), (46, (.one (.bool (lettersB s)))), (47, (.one (.str (s)))), (48, (.one (.bool (lettersB s))))]) (by kernel_rfl) ?_
        refine run_sound hS (n := 3) (b := bm 61 [7, 8, 9, 10, 51]) (s' := ⟨.normal, [.ops f4_15 16, .code .ret], tl 61 [(7, (.one (.vrow 1 (R32 (tokR s))))), (8, (.one (.int .i64 (tokE s)))), (9, (.one (.vrow 1 (R32 (tokR s))))), (10, (.one (.int .i64 (tokE s)))), (51, (.one (.bool (if false = true then !decide (lettersB s = lettersB s) else decide (lettersB s = lettersB s)))))], []⟩) (c := []) (by kernel_rfl) ⟨⟩ ?_
        cases hb3 : if false = true then !decide (lettersB s = lettersB s) else decide (lettersB s = lettersB s)
        · skip
          refine run_sound hS (n := 12) (b := []) (s' := ⟨.ret, [], tl 61 [(2, (.one (.bool false))), (7, (.one (.vrow 1 (R32 (tokR s))))), (8, (.one (.int .i64 (tokE s)))), (9, (.one (.vrow 1 (R32 (tokR s))))), (10, (.one (.int .i64 (tokE s)))), (51, (.one (.bool false))), (52, und), (53, und), (54, und), (55, (.one (.bool false))), (56, (.one (.bool false))), (57, und), (58, und), (59, und), (60, (.one (.bool false)))], []⟩) (c := []) (by kernel_rfl) ⟨⟩ ?_
          refine SemS.done (.inl rfl) Abs.refl (v := (.one (.bool false))) (by kernel_rfl) ?_
          · show AV.one (.bool _) = AV.one (.bool true)
            simp_all
        · skip
          refine run_sound hS (n := 2) (b := bm 61 [8, 10, 51, 52, 53]) (s' := ⟨.normal, [.ops f4_15 18, .code .ret], tl 61 [(8, (.one (.int .i64 (tokE s)))), (10, (.one (.int .i64 (tokE s)))), (51, (.one (.bool true))), (52, (.one (.vrow 1 (R32 (tokR s))))), (53, (.one (.vrow 1 (R32 (tokR s)))))], []⟩) (c := []) (by kernel_rfl) ⟨⟩ ?_
          refine SemS.callP hS hp18 rfl (by kernel_rfl) (by kernel_rfl) (vs := [(.one (.vrow 1 (R32 (tokR s)))), (.one (.vrow 1 (R32 (tokR s))))]) (by kernel_rfl) (v := (.one (.bool (decide (tokR s = tokR s))))) (c := [(tokR s).length ≤ (1099511627776 : Nat)]) (c18 (tokR s) (tokR s)) ⟨by omega, ⟨⟩⟩ (T' := tl 61 [(8, (.one (.int .i64 (tokE s)))), (10, (.one (.int .i64 (tokE s)))), (51, (.one (.bool true))), (52, (.one (.vrow 1 (R32 (tokR s))))), (53, (.one (.vrow 1 (R32 (tokR s))))), (54, (.one (.bool (decide (tokR s = tokR s)))))]) (by kernel_rfl) ?_
          refine run_sound hS (n := 2) (b := bm 61 [8, 10, 56]) (s' := ⟨.normal, [.ops f4_15 21, .code .ret], tl 61 [(8, (.one (.int .i64 (tokE s)))), (10, (.one (.int .i64 (tokE s)))), (56, (.one (.bool (decide (tokR s = tokR s)))))], []⟩) (c := []) (by kernel_rfl) ⟨⟩ ?_
          cases hb4 : decide (tokR s = tokR s)
          · replace hb4 := of_decide_eq_false hb4; try simp only [List.length_map] at hb4
            refine run_sound hS (n := 7) (b := []) (s' := ⟨.ret, [], tl 61 [(2, (.one (.bool false))), (8, (.one (.int .i64 (tokE s)))), (10, (.one (.int .i64 (tokE s)))), (56, (.one (.bool false))), (57, und), (58, und), (59, und), (60, (.one (.bool false)))], []⟩) (c := []) (by kernel_rfl) ⟨⟩ ?_
            refine SemS.done (.inl rfl) Abs.refl (v := (.one (.bool false))) (by kernel_rfl) ?_
            · show AV.one (.bool _) = AV.one (.bool true)
              simp_all
          · replace hb4 := of_decide_eq_true hb4; try simp only [List.length_map] at hb4
            refine run_sound hS (n := 7) (b := []) (s' := ⟨.ret, [], tl 61 [(2, (.one (.bool (decide (tokE s = tokE s))))), (8, (.one (.int .i64 (tokE s)))), (10, (.one (.int .i64 (tokE s)))), (56, (.one (.bool true))), (57, (.one (.int .i64 (tokE s)))), (58, (.one (.int .i64 (tokE s)))), (59, (.one (.bool (decide (tokE s = tokE s))))), (60, (.one (.bool (decide (tokE s = tokE s)))))], []⟩) (c := []) (by kernel_rfl) ⟨⟩ ?_
            refine SemS.done (.inl rfl) Abs.refl (v := (.one (.bool (decide (tokE s = tokE s))))) (by kernel_rfl) ?_
            · show AV.one (.bool _) = AV.one (.bool true)
              simp_all
  · replace hb0 := of_decide_eq_true hb0; try simp only [List.length_map] at hb0
    refine run_sound hS (n := 6) (b := []) (s' := ⟨.ret, [], tl 61 [(0, (.one (.str (s)))), (2, (.one (.bool true))), (15, (.one (.bool true)))], []⟩) (c := []) (by kernel_rfl) ⟨⟩ ?_
    refine SemS.done (.inl rfl) Abs.refl (v := (.one (.bool true))) (by kernel_rfl) ?_
    · show AV.one (.bool _) = AV.one (.bool true)
      simp_all
end
end Go.EA
