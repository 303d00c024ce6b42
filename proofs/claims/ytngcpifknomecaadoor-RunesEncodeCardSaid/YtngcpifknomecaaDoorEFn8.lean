/- Layer 1: Encode. Conditions: none. (Printed by a program of this project's own.) -/
import Derived.Test.YtngcpifknomecaaDoorEAf1
import Derived.Test.YtngcpifknomecaaDoorEK4
import Derived.Test.YtngcpifknomecaaDoorEMean5
import Derived.KernelRfl
set_option linter.unusedVariables false
set_option linter.unusedSimpArgs false
set_option maxRecDepth 100000
set_option maxHeartbeats 0
namespace Go.EA
open F
section
variable {S : SC} {X : Cx}
theorem p54 (hS : S.Good X) (hp55 : X.pr 55 = some (pureP g55)) (h54 : S.has 54 f54) : PrOk S 54 (pureP g54) := by
  refine pure_rel 54 fun r hc => ⟨rfl, rfl, ?_⟩
  refine MF.run hS h54 ([.one (.int .i32 r)] ++ List.replicate (f54.nt - f54.np) und) rfl rfl ?_
  refine run_sound hS (n := 7) (b := bm 6 [3]) (s' := ⟨.normal, [.ops f54_1 1, .code .ret], tl 6 [(3, (.one (.int .i32 (r))))], []⟩) (c := []) (by kernel_rfl) ⟨⟩ ?_
  refine SemS.callP hS hp55 rfl (by kernel_rfl) (by kernel_rfl) (vs := [(.one (.int .i32 (r)))]) (by kernel_rfl) (v := (.one (.bool (Utf8.valid r)))) (c := []) (c55 (r)) ⟨⟩ (T' := tl 6 [(3, (.one (.int .i32 (r)))), (4, (.one (.bool (Utf8.valid r))))]) (by kernel_rfl) ?_
  refine run_sound hS (n := 4) (b := []) (s' := ⟨.ret, [], tl 6 [(2, (.one (.bool (!Utf8.valid r)))), (3, (.one (.int .i32 (r)))), (4, (.one (.bool (Utf8.valid r)))), (5, (.one (.bool (!Utf8.valid r))))], []⟩) (c := []) (by kernel_rfl) ⟨⟩ ?_
  refine SemS.done (.inl rfl) Abs.refl (v := (.one (.bool (!Utf8.valid r)))) (by kernel_rfl) ?_
  rfl
theorem p74 (hS : S.Good X) (hp54 : X.pr 54 = some (pureP g54)) (h74 : S.has 74 f74) : PrOk S 74 (pureP g74) := by
  refine pure_rel 74 fun l hc => ⟨rfl, rfl, ?_⟩
  have hc1 : l.length ≤ 140737488355328 := hc.1
  refine MF.run hS h74 ([.one (.vrow 1 (R32 l)), .one (.fn 54 [])] ++ List.replicate (f74.nt - f74.np) und) rfl rfl ?_
  refine run_sound hS (n := 12) (b := bm 19 [0, 1, 7, 8]) (s' := ⟨.normal, [.code f74_16, .blk 0, .code f74_20], tl 19 [(0, (.one (.vrow 1 (R32 l)))), (1, (.one (.fn 54 []))), (7, (.one (.int .i64 ((↑(R32 l).length : Int))))), (8, (.one (.int .i64 0)))], []⟩) (c := []) (by kernel_rfl) ⟨⟩ ?_
  refine SemS.loop (α := { i : Nat // i ≤ l.length ∧ (l.take i).all Utf8.valid = true }) (fun ⟨i, hi, ha⟩ => (tl 19 [(0, .one (.vrow 1 (R32 l))), (1, .one (.fn 54 [])), (7, .one (.int .i64 ((R32 l).length : Int))), (8, .one (.int .i64 (i : Int)))], [])) (fun ⟨i, hi, ha⟩ => l.length - i) ⟨0, by omega, rfl⟩ (Abs.refl) ?_
  rintro ⟨i, hi, ha⟩ R hR
  refine run_sound hS (n := 5) (b := bm 19 [0, 1, 7, 8, 9]) (s' := ⟨.normal, [.code f74_3, .code f74_13, .stop R, .blk 0, .code f74_20], tl 19 [(0, (.one (.vrow 1 (R32 l)))), (1, (.one (.fn 54 []))), (7, (.one (.int .i64 ((↑(R32 l).length : Int))))), (8, (.one (.int .i64 ((↑i : Int))))), (9, (.one (.bool (decide ((↑i : Int) < (↑(R32 l).length : Int))))))], []⟩) (c := []) (by kernel_rfl) ⟨⟩ ?_
  cases hb0 : decide ((↑i : Int) < (↑(R32 l).length : Int))
  · replace hb0 := of_decide_eq_false hb0; try simp only [List.length_map] at hb0
    refine run_sound hS (n := 10) (b := []) (s' := ⟨.ret, [], tl 19 [(0, (.one (.vrow 1 (R32 l)))), (1, (.one (.fn 54 []))), (4, (.one (.int .i64 (-1)))), (7, (.one (.int .i64 ((↑(R32 l).length : Int))))), (8, (.one (.int .i64 ((↑i : Int))))), (9, (.one (.bool false)))], []⟩) (c := []) (by kernel_rfl) ⟨⟩ ?_
    refine SemS.done (.inl rfl) Abs.refl (v := (.one (.int .i64 (-1)))) (by kernel_rfl) ?_
    · show AV.one (.int .i64 _) = AV.one (.int .i64 (badI l))
      first
        | rw [bad_end hb0 ha]
        | rw [bad_hit hb0 (by simpa using hb1) ha]
  · replace hb0 := of_decide_eq_true hb0; try simp only [List.length_map] at hb0
    refine run_sound hS (n := 14) (b := bm 19 [0, 1, 5, 7, 8, 11, 12, 13]) (s' := ⟨.normal, [.ops f74_5 3, .code f74_8, .blk 1, .code (.reg f74_12), .stop R, .blk 0, .code f74_20], tl 19 [(0, (.one (.vrow 1 (R32 l)))), (1, (.one (.fn 54 []))), (5, (.one (.int .i64 ((↑i : Int))))), (7, (.one (.int .i64 ((↑(R32 l).length : Int))))), (8, (.one (.int .i64 ((↑i : Int))))), (11, (.one (.fn 54 []))), (12, (.one (.vrow 1 (R32 l)))), (13, (.one (.int .i64 ((↑i : Int)))))], []⟩) (c := []) (by kernel_rfl) ⟨⟩ ?_
    refine SemS.step hS rfl (by kernel_rfl) rfl (v := (.one (.vptr [(.int .i32 (l.getD i 0))]))) (iaddr_map (kd := .i64) (f := fun r => [Lf.int IntKind.i32 r]) (l := l) (k := ((↑i : Int))) (0) (by kernel_rfl) (by kernel_rfl) (by omega)) (T' := tl 19 [(0, (.one (.vrow 1 (R32 l)))), (1, (.one (.fn 54 []))), (5, (.one (.int .i64 ((↑i : Int))))), (7, (.one (.int .i64 ((↑(R32 l).length : Int))))), (8, (.one (.int .i64 ((↑i : Int))))), (11, (.one (.fn 54 []))), (12, (.one (.vrow 1 (R32 l)))), (13, (.one (.int .i64 ((↑i : Int))))), (14, (.one (.vptr [(.int .i32 (l.getD i 0))])))]) (by kernel_rfl) ?_
    refine run_sound hS (n := 1) (b := bm 19 [0, 1, 5, 7, 8, 11, 15]) (s' := ⟨.normal, [.ops f74_5 5, .code f74_8, .blk 1, .code (.reg f74_12), .stop R, .blk 0, .code f74_20], tl 19 [(0, (.one (.vrow 1 (R32 l)))), (1, (.one (.fn 54 []))), (5, (.one (.int .i64 ((↑i : Int))))), (7, (.one (.int .i64 ((↑(R32 l).length : Int))))), (8, (.one (.int .i64 ((↑i : Int))))), (11, (.one (.fn 54 []))), (15, (.one (.int .i32 (l.getD i 0))))], []⟩) (c := []) (by kernel_rfl) ⟨⟩ ?_
    refine SemS.callP hS hp54 rfl (by kernel_rfl) (by kernel_rfl) (vs := [(.one (.int .i32 (l.getD i 0)))]) (by kernel_rfl) (v := (.one (.bool (!Utf8.valid (l.getD i 0))))) (c := []) (c54 (l.getD i 0)) ⟨⟩ (T' := tl 19 [(0, (.one (.vrow 1 (R32 l)))), (1, (.one (.fn 54 []))), (5, (.one (.int .i64 ((↑i : Int))))), (7, (.one (.int .i64 ((↑(R32 l).length : Int))))), (8, (.one (.int .i64 ((↑i : Int))))), (11, (.one (.fn 54 []))), (15, (.one (.int .i32 (l.getD i 0)))), (16, (.one (.bool (!Utf8.valid (l.getD i 0)))))]) (by kernel_rfl) ?_
    refine run_sound hS (n := 1) (b := bm 19 [0, 1, 5, 7, 8, 16]) (s' := ⟨.normal, [.code f74_8, .blk 1, .code (.reg f74_12), .stop R, .blk 0, .code f74_20], tl 19 [(0, (.one (.vrow 1 (R32 l)))), (1, (.one (.fn 54 []))), (5, (.one (.int .i64 ((↑i : Int))))), (7, (.one (.int .i64 ((↑(R32 l).length : Int))))), (8, (.one (.int .i64 ((↑i : Int))))), (16, (.one (.bool (!Utf8.valid (l.getD i 0)))))], []⟩) (c := []) (by kernel_rfl) ⟨⟩ ?_
    cases hb1 : Utf8.valid (l.getD i 0)
    · skip
      refine run_sound hS (n := 7) (b := []) (s' := ⟨.ret, [], tl 19 [(0, (.one (.vrow 1 (R32 l)))), (1, (.one (.fn 54 []))), (4, (.one (.int .i64 ((↑i : Int))))), (5, (.one (.int .i64 ((↑i : Int))))), (7, (.one (.int .i64 ((↑(R32 l).length : Int))))), (8, (.one (.int .i64 ((↑i : Int))))), (16, (.one (.bool true))), (17, (.one (.int .i64 ((↑i : Int)))))], []⟩) (c := []) (by kernel_rfl) ⟨⟩ ?_
      refine SemS.done (.inl rfl) Abs.refl (v := (.one (.int .i64 ((↑i : Int))))) (by kernel_rfl) ?_
      · show AV.one (.int .i64 _) = AV.one (.int .i64 (badI l))
        first
          | rw [bad_end hb0 ha]
          | rw [bad_hit hb0 (by simpa using hb1) ha]
    · skip
      refine run_sound hS (n := 7) (b := []) (s' := ⟨.normal, [.stop R, .blk 0, .code f74_20], tl 19 [(0, (.one (.vrow 1 (R32 l)))), (1, (.one (.fn 54 []))), (5, (.one (.int .i64 ((↑i : Int))))), (7, (.one (.int .i64 ((↑(R32 l).length : Int))))), (8, (.one (.int .i64 ((↑i : Int) + 1)))), (16, (.one (.bool false))), (18, (.one (.int .i64 ((↑i : Int) + 1))))], []⟩) (c := [i64R ((↑i : Int) + (1 : Int))]) (by kernel_rfl) ⟨by unfold i64R; omega, ⟨⟩⟩ ?_
      exact hR ⟨i + 1, by omega, bad_step hb0 (by simpa using hb1) ha⟩ _ _ (by show l.length - (i + 1) < l.length - i; omega) (abs_l [] [] 19 [(0, .one (.vrow 1 (R32 l))), (1, .one (.fn 54 [])), (7, .one (.int .i64 ((R32 l).length : Int))), (8, .one (.int .i64 ((i + 1 : Nat) : Int)))] (by kernel_rfl) ⟨⟩ ⟨⟩ ⟨.row rfl, .eq1 rfl rfl, .int rfl, .int (by omega), ⟨⟩⟩)
theorem p53 (hS : S.Good X) (hp74 : X.pr 74 = some (pureP g74)) (h53 : S.has 53 f53) : PrOk S 53 (pureP g53) := by
  refine pure_rel 53 fun l hc => ⟨rfl, rfl, ?_⟩
  have hc1 : l.length ≤ 140737488355328 := hc.1
  refine MF.run hS h53 ([.one (.vrow 1 (R32 l)), .one (.fn 54 [])] ++ List.replicate (f53.nt - f53.np) und) rfl rfl ?_
  refine run_sound hS (n := 8) (b := bm 9 [5, 6]) (s' := ⟨.normal, [.ops f53_1 2, .code .ret], tl 9 [(5, (.one (.vrow 1 (R32 l)))), (6, (.one (.fn 54 [])))], []⟩) (c := []) (by kernel_rfl) ⟨⟩ ?_
  refine SemS.callP hS hp74 rfl (by kernel_rfl) (by kernel_rfl) (vs := [(.one (.vrow 1 (R32 l))), (.one (.fn 54 []))]) (by kernel_rfl) (v := (.one (.int .i64 (badI l)))) (c := [l.length ≤ (140737488355328 : Nat)]) (c74 (l)) ⟨by omega, ⟨⟩⟩ (T' := tl 9 [(5, (.one (.vrow 1 (R32 l)))), (6, (.one (.fn 54 []))), (7, (.one (.int .i64 (badI l))))]) (by kernel_rfl) ?_
  refine run_sound hS (n := 4) (b := []) (s' := ⟨.ret, [], tl 9 [(4, (.one (.bool (decide (0 ≤ badI l))))), (5, (.one (.vrow 1 (R32 l)))), (6, (.one (.fn 54 []))), (7, (.one (.int .i64 (badI l)))), (8, (.one (.bool (decide (0 ≤ badI l)))))], []⟩) (c := []) (by kernel_rfl) ⟨⟩ ?_
  refine SemS.done (.inl rfl) Abs.refl (v := (.one (.bool (decide (0 ≤ badI l))))) (by kernel_rfl) ?_
  · show AV.one (.bool _) = AV.one (.bool (!l.all Utf8.valid))
    rw [← bad_sgn l]
end
end Go.EA
