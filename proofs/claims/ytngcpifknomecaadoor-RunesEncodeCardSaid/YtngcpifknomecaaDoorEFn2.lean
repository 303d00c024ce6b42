/- Layer 1: the reference's IsRune, bytes. Conditions: none. (Printed by a program of this project's own.) -/
import Derived.Test.YtngcpifknomecaaDoorEAf1
import Derived.Test.YtngcpifknomecaaDoorEK4
import Derived.Test.YtngcpifknomecaaDoorEMean2
import Derived.KernelRfl
set_option linter.unusedVariables false
set_option linter.unusedSimpArgs false
set_option maxRecDepth 100000
set_option maxHeartbeats 0
namespace Go.EA
open F
section
variable {S : SC} {X : Cx}
theorem p57 (hS : S.Good X)  (h57 : S.has 57 f57) : PrOk S 57 (pureP g57) := by
  refine pure_rel 57 fun r hc => ⟨rfl, rfl, ?_⟩
  refine MF.run hS h57 ([.one (.int .i32 r)] ++ List.replicate (f57.nt - f57.np) und) rfl rfl ?_
  refine run_sound hS (n := 9) (b := bm 18 [0, 5]) (s' := ⟨.normal, [.ops f57_1 3, .code .ret], tl 18 [(0, (.one (.int .i32 (r)))), (5, (.one (.bool (decide (0 ≤ r)))))], []⟩) (c := []) (by kernel_rfl) ⟨⟩ ?_
  cases hb0 : decide (0 ≤ r)
  · replace hb0 := of_decide_eq_false hb0; try simp only [List.length_map] at hb0
    refine run_sound hS (n := 15) (b := []) (s' := ⟨.ret, [], tl 18 [(0, (.one (.int .i32 (r)))), (2, (.one (.bool false))), (5, (.one (.bool false))), (6, und), (7, und), (8, (.one (.bool false))), (9, (.one (.bool false))), (10, und), (11, und), (12, und), (13, und), (14, und), (15, und), (16, und), (17, (.one (.bool false)))], []⟩) (c := []) (by kernel_rfl) ⟨⟩ ?_
    refine SemS.done (.inl rfl) Abs.refl (v := (.one (.bool false))) (by kernel_rfl) ?_
    · show AV.one (.bool _) = AV.one (.bool (Utf8.valid r))
      congr 2; rw [Bool.eq_iff_iff]; simp [valid_iff] <;> omega
  · replace hb0 := of_decide_eq_true hb0; try simp only [List.length_map] at hb0
    refine run_sound hS (n := 4) (b := bm 18 [0, 9]) (s' := ⟨.normal, [.ops f57_1 7, .code .ret], tl 18 [(0, (.one (.int .i32 (r)))), (9, (.one (.bool (decide (r ≤ 1114111)))))], []⟩) (c := []) (by kernel_rfl) ⟨⟩ ?_
    cases hb1 : decide (r ≤ 1114111)
    · replace hb1 := of_decide_eq_false hb1; try simp only [List.length_map] at hb1
      refine run_sound hS (n := 11) (b := []) (s' := ⟨.ret, [], tl 18 [(0, (.one (.int .i32 (r)))), (2, (.one (.bool false))), (9, (.one (.bool false))), (10, und), (11, und), (12, und), (13, und), (14, und), (15, und), (16, und), (17, (.one (.bool false)))], []⟩) (c := []) (by kernel_rfl) ⟨⟩ ?_
      refine SemS.done (.inl rfl) Abs.refl (v := (.one (.bool false))) (by kernel_rfl) ?_
      · show AV.one (.bool _) = AV.one (.bool (Utf8.valid r))
        congr 2; rw [Bool.eq_iff_iff]; simp [valid_iff] <;> omega
    · replace hb1 := of_decide_eq_true hb1; try simp only [List.length_map] at hb1
      refine run_sound hS (n := 3) (b := bm 18 [0, 9, 12]) (s' := ⟨.normal, [.ops f57_1 10, .code .ret], tl 18 [(0, (.one (.int .i32 (r)))), (9, (.one (.bool true))), (12, (.one (.bool (decide (55296 ≤ r)))))], []⟩) (c := []) (by kernel_rfl) ⟨⟩ ?_
      cases hb2 : decide (55296 ≤ r)
      · replace hb2 := of_decide_eq_false hb2; try simp only [List.length_map] at hb2
        refine run_sound hS (n := 8) (b := []) (s' := ⟨.ret, [], tl 18 [(0, (.one (.int .i32 (r)))), (2, (.one (.bool true))), (9, (.one (.bool true))), (12, (.one (.bool false))), (13, und), (14, und), (15, (.one (.bool false))), (16, (.one (.bool true))), (17, (.one (.bool true)))], []⟩) (c := []) (by kernel_rfl) ⟨⟩ ?_
        refine SemS.done (.inl rfl) Abs.refl (v := (.one (.bool true))) (by kernel_rfl) ?_
        · show AV.one (.bool _) = AV.one (.bool (Utf8.valid r))
          congr 2; rw [Bool.eq_iff_iff]; simp [valid_iff] <;> omega
      · replace hb2 := of_decide_eq_true hb2; try simp only [List.length_map] at hb2
        refine run_sound hS (n := 8) (b := []) (s' := ⟨.ret, [], tl 18 [(0, (.one (.int .i32 (r)))), (2, (.one (.bool (!decide (r ≤ 57343))))), (9, (.one (.bool true))), (12, (.one (.bool true))), (13, (.one (.int .i32 (r)))), (14, (.one (.bool (decide (r ≤ 57343))))), (15, (.one (.bool (decide (r ≤ 57343))))), (16, (.one (.bool (!decide (r ≤ 57343))))), (17, (.one (.bool (!decide (r ≤ 57343)))))], []⟩) (c := []) (by kernel_rfl) ⟨⟩ ?_
        refine SemS.done (.inl rfl) Abs.refl (v := (.one (.bool (!decide (r ≤ 57343))))) (by kernel_rfl) ?_
        · show AV.one (.bool _) = AV.one (.bool (Utf8.valid r))
          congr 2; rw [Bool.eq_iff_iff]; simp [valid_iff] <;> omega
theorem p58 (hS : S.Good X)  (h58 : S.has 58 f58) : PrOk S 58 (pureP g58) := by
  refine pure_rel 58 fun r hc => ⟨rfl, rfl, ?_⟩
  have hv : Utf8.valid r = true := hc.1
  have hv2 := valid_iff.1 hv
  have e1 : r.tdiv 64 = r / 64 := Int.tdiv_eq_ediv_of_nonneg (by omega)
  have e2 : r.tdiv 4096 = r / 4096 := Int.tdiv_eq_ediv_of_nonneg (by omega)
  have e3 : r.tdiv 262144 = r / 262144 := Int.tdiv_eq_ediv_of_nonneg (by omega)
  have e4 : r.tmod 64 = r % 64 := Int.tmod_eq_emod_of_nonneg (by omega)
  have e5 : (r / 64).tmod 64 = r / 64 % 64 := Int.tmod_eq_emod_of_nonneg (by omega)
  have e6 : (r / 4096).tmod 64 = r / 4096 % 64 := Int.tmod_eq_emod_of_nonneg (by omega)
  refine MF.run hS h58 ([.one (.int .i32 r)] ++ List.replicate (f58.nt - f58.np) und) rfl rfl ?_
  refine run_sound hS (n := 12) (b := bm 57 [0, 3]) (s' := ⟨.normal, [.code f58_14, .blk 0, .code f58_18], tl 57 [(0, (.one (.int .i32 (r)))), (3, (.one (.bool (decide (r < 128)))))], []⟩) (c := []) (by kernel_rfl) ⟨⟩ ?_
  cases hb0 : decide (r < 128)
  · replace hb0 := of_decide_eq_false hb0; try simp only [List.length_map] at hb0
    refine run_sound hS (n := 7) (b := bm 57 [0, 9]) (s' := ⟨.normal, [.code f58_12, .blk 0, .code f58_18], tl 57 [(0, (.one (.int .i32 (r)))), (9, (.one (.bool (decide (r < 2048)))))], []⟩) (c := []) (by kernel_rfl) ⟨⟩ ?_
    cases hb1 : decide (r < 2048)
    · replace hb1 := of_decide_eq_false hb1; try simp only [List.length_map] at hb1
      refine run_sound hS (n := 7) (b := bm 57 [0, 21]) (s' := ⟨.normal, [.code f58_10, .blk 0, .code f58_18], tl 57 [(0, (.one (.int .i32 (r)))), (21, (.one (.bool (decide (r < 65536)))))], []⟩) (c := []) (by kernel_rfl) ⟨⟩ ?_
      cases hb2 : decide (r < 65536)
      · replace hb2 := of_decide_eq_false hb2; try simp only [List.length_map] at hb2
        refine run_sound hS (n := 27) (b := []) (s' := ⟨.ret, [], tl 57 [(0, (.one (.int .i32 (r)))), (2, (.one (.sl 0 0 4))), (21, (.one (.bool false))), (38, (.one (.int .i32 (r)))), (39, (.one (.int .i32 (IntKind.i32.wrap (r.tdiv 262144))))), (40, (.one (.int .i32 (IntKind.i32.wrap (240 + IntKind.i32.wrap (r.tdiv 262144)))))), (41, (.one (.int .u8 (IntKind.u8.wrap (IntKind.i32.wrap (240 + IntKind.i32.wrap (r.tdiv 262144))))))), (42, (.one (.int .i32 (r)))), (43, (.one (.int .i32 (IntKind.i32.wrap (r.tdiv 4096))))), (44, (.one (.int .i32 ((IntKind.i32.wrap (r.tdiv 4096)).tmod 64)))), (45, (.one (.int .i32 (IntKind.i32.wrap (128 + (IntKind.i32.wrap (r.tdiv 4096)).tmod 64))))), (46, (.one (.int .u8 (IntKind.u8.wrap (IntKind.i32.wrap (128 + (IntKind.i32.wrap (r.tdiv 4096)).tmod 64)))))), (47, (.one (.int .i32 (r)))), (48, (.one (.int .i32 (IntKind.i32.wrap (r.tdiv 64))))), (49, (.one (.int .i32 ((IntKind.i32.wrap (r.tdiv 64)).tmod 64)))), (50, (.one (.int .i32 (IntKind.i32.wrap (128 + (IntKind.i32.wrap (r.tdiv 64)).tmod 64))))), (51, (.one (.int .u8 (IntKind.u8.wrap (IntKind.i32.wrap (128 + (IntKind.i32.wrap (r.tdiv 64)).tmod 64)))))), (52, (.one (.int .i32 (r)))), (53, (.one (.int .i32 (r.tmod 64)))), (54, (.one (.int .i32 (IntKind.i32.wrap (128 + r.tmod 64))))), (55, (.one (.int .u8 (IntKind.u8.wrap (IntKind.i32.wrap (128 + r.tmod 64)))))), (56, (.one (.sl 0 0 4)))], [(.blk 1 [[(.int .u8 (IntKind.u8.wrap (IntKind.i32.wrap (240 + IntKind.i32.wrap (r.tdiv 262144)))))], [(.int .u8 (IntKind.u8.wrap (IntKind.i32.wrap (128 + (IntKind.i32.wrap (r.tdiv 4096)).tmod 64))))], [(.int .u8 (IntKind.u8.wrap (IntKind.i32.wrap (128 + (IntKind.i32.wrap (r.tdiv 64)).tmod 64))))], [(.int .u8 (IntKind.u8.wrap (IntKind.i32.wrap (128 + r.tmod 64))))]] true)]⟩) (c := [(262144 : Int) ≠ (0 : Int), (4096 : Int) ≠ (0 : Int), (64 : Int) ≠ (0 : Int), (64 : Int) ≠ (0 : Int), (64 : Int) ≠ (0 : Int), (64 : Int) ≠ (0 : Int)]) (by kernel_rfl) ⟨by omega, by omega, by omega, by omega, by omega, by omega, ⟨⟩⟩ ?_
        refine SemS.done (.inl rfl) (abs_l (L1 := []) [] [0] 57 [(2, (.one (.vrow 1 [[(.int .u8 (IntKind.u8.wrap (IntKind.i32.wrap (240 + IntKind.i32.wrap (r.tdiv 262144)))))], [(.int .u8 (IntKind.u8.wrap (IntKind.i32.wrap (128 + (IntKind.i32.wrap (r.tdiv 4096)).tmod 64))))], [(.int .u8 (IntKind.u8.wrap (IntKind.i32.wrap (128 + (IntKind.i32.wrap (r.tdiv 64)).tmod 64))))], [(.int .u8 (IntKind.u8.wrap (IntKind.i32.wrap (128 + r.tmod 64))))]])))] (by kernel_rfl) ⟨⟨_, _, rfl, by first | rfl | simp [elsClosed, Lf.closed]⟩, ⟨⟩⟩ ⟨⟩ ⟨.one (.row0 (by simp) rfl (by first | rfl | (simp <;> omega)) rfl), ⟨⟩⟩) (v := (.one (.vrow 1 [[(.int .u8 (IntKind.u8.wrap (IntKind.i32.wrap (240 + IntKind.i32.wrap (r.tdiv 262144)))))], [(.int .u8 (IntKind.u8.wrap (IntKind.i32.wrap (128 + (IntKind.i32.wrap (r.tdiv 4096)).tmod 64))))], [(.int .u8 (IntKind.u8.wrap (IntKind.i32.wrap (128 + (IntKind.i32.wrap (r.tdiv 64)).tmod 64))))], [(.int .u8 (IntKind.u8.wrap (IntKind.i32.wrap (128 + r.tmod 64))))]]))) (by kernel_rfl) ?_
        · show AV.one (.vrow 1 _) = AV.one (.vrow 1 (RB (encB r)))
          first
            | (rw [enc1 hv (by omega), wrap8 (by omega)])
            | (rw [enc2 hv (by omega) (by omega)]; simp only [e1, e4]; simp (disch := omega) only [wrap32, wrap8])
            | (rw [enc3 hv (by omega) (by omega)]; simp only [e1, e2, e4]; simp (disch := omega) only [wrap32, e5]; simp (disch := omega) only [wrap32, wrap8])
            | (rw [enc4 hv (by omega)]; simp only [e1, e2, e3, e4]; simp (disch := omega) only [wrap32, e5, e6]; simp (disch := omega) only [wrap32, wrap8])
      · replace hb2 := of_decide_eq_true hb2; try simp only [List.length_map] at hb2
        refine run_sound hS (n := 20) (b := []) (s' := ⟨.ret, [], tl 57 [(0, (.one (.int .i32 (r)))), (2, (.one (.sl 0 0 3))), (21, (.one (.bool true))), (24, (.one (.int .i32 (r)))), (25, (.one (.int .i32 (IntKind.i32.wrap (r.tdiv 4096))))), (26, (.one (.int .i32 (IntKind.i32.wrap (224 + IntKind.i32.wrap (r.tdiv 4096)))))), (27, (.one (.int .u8 (IntKind.u8.wrap (IntKind.i32.wrap (224 + IntKind.i32.wrap (r.tdiv 4096))))))), (28, (.one (.int .i32 (r)))), (29, (.one (.int .i32 (IntKind.i32.wrap (r.tdiv 64))))), (30, (.one (.int .i32 ((IntKind.i32.wrap (r.tdiv 64)).tmod 64)))), (31, (.one (.int .i32 (IntKind.i32.wrap (128 + (IntKind.i32.wrap (r.tdiv 64)).tmod 64))))), (32, (.one (.int .u8 (IntKind.u8.wrap (IntKind.i32.wrap (128 + (IntKind.i32.wrap (r.tdiv 64)).tmod 64)))))), (33, (.one (.int .i32 (r)))), (34, (.one (.int .i32 (r.tmod 64)))), (35, (.one (.int .i32 (IntKind.i32.wrap (128 + r.tmod 64))))), (36, (.one (.int .u8 (IntKind.u8.wrap (IntKind.i32.wrap (128 + r.tmod 64)))))), (37, (.one (.sl 0 0 3)))], [(.blk 1 [[(.int .u8 (IntKind.u8.wrap (IntKind.i32.wrap (224 + IntKind.i32.wrap (r.tdiv 4096)))))], [(.int .u8 (IntKind.u8.wrap (IntKind.i32.wrap (128 + (IntKind.i32.wrap (r.tdiv 64)).tmod 64))))], [(.int .u8 (IntKind.u8.wrap (IntKind.i32.wrap (128 + r.tmod 64))))]] true)]⟩) (c := [(4096 : Int) ≠ (0 : Int), (64 : Int) ≠ (0 : Int), (64 : Int) ≠ (0 : Int), (64 : Int) ≠ (0 : Int)]) (by kernel_rfl) ⟨by omega, by omega, by omega, by omega, ⟨⟩⟩ ?_
        refine SemS.done (.inl rfl) (abs_l (L1 := []) [] [0] 57 [(2, (.one (.vrow 1 [[(.int .u8 (IntKind.u8.wrap (IntKind.i32.wrap (224 + IntKind.i32.wrap (r.tdiv 4096)))))], [(.int .u8 (IntKind.u8.wrap (IntKind.i32.wrap (128 + (IntKind.i32.wrap (r.tdiv 64)).tmod 64))))], [(.int .u8 (IntKind.u8.wrap (IntKind.i32.wrap (128 + r.tmod 64))))]])))] (by kernel_rfl) ⟨⟨_, _, rfl, by first | rfl | simp [elsClosed, Lf.closed]⟩, ⟨⟩⟩ ⟨⟩ ⟨.one (.row0 (by simp) rfl (by first | rfl | (simp <;> omega)) rfl), ⟨⟩⟩) (v := (.one (.vrow 1 [[(.int .u8 (IntKind.u8.wrap (IntKind.i32.wrap (224 + IntKind.i32.wrap (r.tdiv 4096)))))], [(.int .u8 (IntKind.u8.wrap (IntKind.i32.wrap (128 + (IntKind.i32.wrap (r.tdiv 64)).tmod 64))))], [(.int .u8 (IntKind.u8.wrap (IntKind.i32.wrap (128 + r.tmod 64))))]]))) (by kernel_rfl) ?_
        · show AV.one (.vrow 1 _) = AV.one (.vrow 1 (RB (encB r)))
          first
            | (rw [enc1 hv (by omega), wrap8 (by omega)])
            | (rw [enc2 hv (by omega) (by omega)]; simp only [e1, e4]; simp (disch := omega) only [wrap32, wrap8])
            | (rw [enc3 hv (by omega) (by omega)]; simp only [e1, e2, e4]; simp (disch := omega) only [wrap32, e5]; simp (disch := omega) only [wrap32, wrap8])
            | (rw [enc4 hv (by omega)]; simp only [e1, e2, e3, e4]; simp (disch := omega) only [wrap32, e5, e6]; simp (disch := omega) only [wrap32, wrap8])
    · replace hb1 := of_decide_eq_true hb1; try simp only [List.length_map] at hb1
      refine run_sound hS (n := 15) (b := []) (s' := ⟨.ret, [], tl 57 [(0, (.one (.int .i32 (r)))), (2, (.one (.sl 0 0 2))), (9, (.one (.bool true))), (12, (.one (.int .i32 (r)))), (13, (.one (.int .i32 (IntKind.i32.wrap (r.tdiv 64))))), (14, (.one (.int .i32 (IntKind.i32.wrap (192 + IntKind.i32.wrap (r.tdiv 64)))))), (15, (.one (.int .u8 (IntKind.u8.wrap (IntKind.i32.wrap (192 + IntKind.i32.wrap (r.tdiv 64))))))), (16, (.one (.int .i32 (r)))), (17, (.one (.int .i32 (r.tmod 64)))), (18, (.one (.int .i32 (IntKind.i32.wrap (128 + r.tmod 64))))), (19, (.one (.int .u8 (IntKind.u8.wrap (IntKind.i32.wrap (128 + r.tmod 64)))))), (20, (.one (.sl 0 0 2)))], [(.blk 1 [[(.int .u8 (IntKind.u8.wrap (IntKind.i32.wrap (192 + IntKind.i32.wrap (r.tdiv 64)))))], [(.int .u8 (IntKind.u8.wrap (IntKind.i32.wrap (128 + r.tmod 64))))]] true)]⟩) (c := [(64 : Int) ≠ (0 : Int), (64 : Int) ≠ (0 : Int)]) (by kernel_rfl) ⟨by omega, by omega, ⟨⟩⟩ ?_
      refine SemS.done (.inl rfl) (abs_l (L1 := []) [] [0] 57 [(2, (.one (.vrow 1 [[(.int .u8 (IntKind.u8.wrap (IntKind.i32.wrap (192 + IntKind.i32.wrap (r.tdiv 64)))))], [(.int .u8 (IntKind.u8.wrap (IntKind.i32.wrap (128 + r.tmod 64))))]])))] (by kernel_rfl) ⟨⟨_, _, rfl, by first | rfl | simp [elsClosed, Lf.closed]⟩, ⟨⟩⟩ ⟨⟩ ⟨.one (.row0 (by simp) rfl (by first | rfl | (simp <;> omega)) rfl), ⟨⟩⟩) (v := (.one (.vrow 1 [[(.int .u8 (IntKind.u8.wrap (IntKind.i32.wrap (192 + IntKind.i32.wrap (r.tdiv 64)))))], [(.int .u8 (IntKind.u8.wrap (IntKind.i32.wrap (128 + r.tmod 64))))]]))) (by kernel_rfl) ?_
      · show AV.one (.vrow 1 _) = AV.one (.vrow 1 (RB (encB r)))
        first
          | (rw [enc1 hv (by omega), wrap8 (by omega)])
          | (rw [enc2 hv (by omega) (by omega)]; simp only [e1, e4]; simp (disch := omega) only [wrap32, wrap8])
          | (rw [enc3 hv (by omega) (by omega)]; simp only [e1, e2, e4]; simp (disch := omega) only [wrap32, e5]; simp (disch := omega) only [wrap32, wrap8])
          | (rw [enc4 hv (by omega)]; simp only [e1, e2, e3, e4]; simp (disch := omega) only [wrap32, e5, e6]; simp (disch := omega) only [wrap32, wrap8])
  · replace hb0 := of_decide_eq_true hb0; try simp only [List.length_map] at hb0
    refine run_sound hS (n := 9) (b := []) (s' := ⟨.ret, [], tl 57 [(0, (.one (.int .i32 (r)))), (2, (.one (.sl 0 0 1))), (3, (.one (.bool true))), (6, (.one (.int .i32 (r)))), (7, (.one (.int .u8 (IntKind.u8.wrap r)))), (8, (.one (.sl 0 0 1)))], [(.blk 1 [[(.int .u8 (IntKind.u8.wrap r))]] true)]⟩) (c := []) (by kernel_rfl) ⟨⟩ ?_
    refine SemS.done (.inl rfl) (abs_l (L1 := []) [] [0] 57 [(2, (.one (.vrow 1 [[(.int .u8 (IntKind.u8.wrap r))]])))] (by kernel_rfl) ⟨⟨_, _, rfl, by first | rfl | simp [elsClosed, Lf.closed]⟩, ⟨⟩⟩ ⟨⟩ ⟨.one (.row0 (by simp) rfl (by first | rfl | (simp <;> omega)) rfl), ⟨⟩⟩) (v := (.one (.vrow 1 [[(.int .u8 (IntKind.u8.wrap r))]]))) (by kernel_rfl) ?_
    · show AV.one (.vrow 1 _) = AV.one (.vrow 1 (RB (encB r)))
      first
        | (rw [enc1 hv (by omega), wrap8 (by omega)])
        | (rw [enc2 hv (by omega) (by omega)]; simp only [e1, e4]; simp (disch := omega) only [wrap32, wrap8])
        | (rw [enc3 hv (by omega) (by omega)]; simp only [e1, e2, e4]; simp (disch := omega) only [wrap32, e5]; simp (disch := omega) only [wrap32, wrap8])
        | (rw [enc4 hv (by omega)]; simp only [e1, e2, e3, e4]; simp (disch := omega) only [wrap32, e5, e6]; simp (disch := omega) only [wrap32, wrap8])
end
end Go.EA
