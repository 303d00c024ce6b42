/- Layer 1: the reference's Encode; the law RunesEncode's code. Conditions: none. (Printed by a program of this project's own.) -/
import Derived.Test.YtngcpifknomecaaDoorEAf1
import Derived.Test.YtngcpifknomecaaDoorEK4
import Derived.Test.YtngcpifknomecaaDoorEBits
import Derived.Test.YtngcpifknomecaaDoorEMean3
import Derived.KernelRfl
set_option linter.unusedVariables false
set_option linter.unusedSimpArgs false
set_option maxRecDepth 100000
set_option maxHeartbeats 0
namespace Go.EA
open F
section
variable {S : SC} {X : Cx}
def T34 (l : List Int) (i : Nat) : List UInt8 → List AV
  | [] => tl 23 [(4, .one .nils), (7, .one (.vrow 1 (R32 l))), (8, .one (.int .i64 ((R32 l).length : Int))), (9, .one (.int .i64 (i : Int)))]
  | z :: o => tl 23 [(4, .one (.sl 0 0 (z :: o).length)), (7, .one (.vrow 1 (R32 l))), (8, .one (.int .i64 ((R32 l).length : Int))), (9, .one (.int .i64 (i : Int)))]
def L34 : List UInt8 → List AO
  | [] => []
  | z :: o => [.blk 1 (RB (z :: o)) true]
theorem p34 (hS : S.Good X) (hp57 : X.pr 57 = some (pureP g57)) (hp58 : X.pr 58 = some (pureP g58)) (h34 : S.has 34 f34) : PrOk S 34 (pureP g34) := by
  refine pure_rel 34 fun l hc => ⟨rfl, rfl, ?_⟩
  have hc1 : l.length ≤ 1099511627776 := hc.1
  refine MF.run hS h34 ([.one (.vrow 1 (R32 l))] ++ List.replicate (f34.nt - f34.np) und) rfl rfl ?_
  refine run_sound hS (n := 17) (b := bm 23 [4, 7, 8, 9]) (s' := ⟨.normal, [.code f34_19, .blk 0, .code f34_23], tl 23 [(4, (.one .nils)), (7, (.one (.vrow 1 (R32 l)))), (8, (.one (.int .i64 ((↑(R32 l).length : Int))))), (9, (.one (.int .i64 0)))], []⟩) (c := []) (by kernel_rfl) ⟨⟩ ?_
  refine SemS.loop (α := { p : Nat × List UInt8 // p.1 ≤ l.length ∧ (l.take p.1).all Utf8.valid = true ∧ p.2 = encL (l.take p.1) }) (fun ⟨⟨i, o⟩, hi, ha, ho⟩ => (T34 l i o, L34 o)) (fun ⟨⟨i, o⟩, hi, ha, ho⟩ => l.length - i) ⟨(0, []), by omega, rfl, rfl⟩ (Abs.refl) ?_
  rintro ⟨⟨i, o⟩, hi, ha, ho⟩ R hR
  have ho2 : o = encL (l.take i) := ho
  have hol : o.length ≤ 4398046511104 := encL_le ha hc1 ho2
  rcases o with _ | ⟨z, o⟩
  · skip
    refine run_sound hS (n := 5) (b := bm 23 [4, 7, 8, 9, 10]) (s' := ⟨.normal, [.code f34_4, .code f34_16, .stop R, .blk 0, .code f34_23], tl 23 [(4, (.one .nils)), (7, (.one (.vrow 1 (R32 l)))), (8, (.one (.int .i64 ((↑(R32 l).length : Int))))), (9, (.one (.int .i64 ((↑i : Int))))), (10, (.one (.bool (decide ((↑i : Int) < (↑(R32 l).length : Int))))))], []⟩) (c := []) (by kernel_rfl) ⟨⟩ ?_
    cases hb0 : decide ((↑i : Int) < (↑(R32 l).length : Int))
    · replace hb0 := of_decide_eq_false hb0; try simp only [List.length_map] at hb0
      refine run_sound hS (n := 13) (b := []) (s' := ⟨.ret, [], tl 23 [(2, (.one (.str []))), (3, (.one (.int .i64 0))), (4, (.one .nils)), (7, (.one (.vrow 1 (R32 l)))), (8, (.one (.int .i64 ((↑(R32 l).length : Int))))), (9, (.one (.int .i64 ((↑i : Int))))), (10, (.one (.bool false))), (21, (.one .nils)), (22, (.one (.str [])))], []⟩) (c := []) (by kernel_rfl) ⟨⟩ ?_
      refine SemS.done (.inl rfl) Abs.refl (v := (.tup [(.one (.str [])), (.one (.int .i64 0))])) (by kernel_rfl) ?_
      · show AV.tup [.one (.str _), .one (.int .i64 _)] = AV.tup [.one (.str (encT l)), .one (.int .i64 (encE l))]
        first
          | rw [(encT_at hb0 hb1).1, (encT_at hb0 hb1).2]
          | rw [(encT_all hb0 ha ho2).1, (encT_all hb0 ha ho2).2]
    · replace hb0 := of_decide_eq_true hb0; try simp only [List.length_map] at hb0
      refine run_sound hS (n := 6) (b := bm 23 [4, 7, 8, 9]) (s' := ⟨.normal, [.ops f34_5 0, .code f34_12, .blk 1, .code (.reg f34_15), .stop R, .blk 0, .code f34_23], tl 23 [(4, (.one .nils)), (7, (.one (.vrow 1 (R32 l)))), (8, (.one (.int .i64 ((↑(R32 l).length : Int))))), (9, (.one (.int .i64 ((↑i : Int)))))], []⟩) (c := []) (by kernel_rfl) ⟨⟩ ?_
      refine SemS.step hS rfl (by kernel_rfl) rfl (v := (.one (.vptr [(.int .i32 (l.getD i 0))]))) (iaddr_map (kd := .i64) (f := fun r => [Lf.int IntKind.i32 r]) (l := l) (k := ((↑i : Int))) (0) (by kernel_rfl) (by kernel_rfl) (by omega)) (T' := tl 23 [(4, (.one .nils)), (7, (.one (.vrow 1 (R32 l)))), (8, (.one (.int .i64 ((↑(R32 l).length : Int))))), (9, (.one (.int .i64 ((↑i : Int))))), (11, (.one (.vptr [(.int .i32 (l.getD i 0))])))]) (by kernel_rfl) ?_
      refine run_sound hS (n := 7) (b := bm 23 [4, 6, 7, 8, 9, 13]) (s' := ⟨.normal, [.ops f34_6 1, .code f34_9, .code (.reg f34_11), .blk 1, .code (.reg f34_15), .stop R, .blk 0, .code f34_23], tl 23 [(4, (.one .nils)), (6, (.one (.int .i32 (l.getD i 0)))), (7, (.one (.vrow 1 (R32 l)))), (8, (.one (.int .i64 ((↑(R32 l).length : Int))))), (9, (.one (.int .i64 ((↑i : Int))))), (13, (.one (.int .i32 (l.getD i 0))))], []⟩) (c := []) (by kernel_rfl) ⟨⟩ ?_
      refine SemS.callP hS hp57 rfl (by kernel_rfl) (by kernel_rfl) (vs := [(.one (.int .i32 (l.getD i 0)))]) (by kernel_rfl) (v := (.one (.bool (Utf8.valid (l.getD i 0))))) (c := []) (c57 (l.getD i 0)) ⟨⟩ (T' := tl 23 [(4, (.one .nils)), (6, (.one (.int .i32 (l.getD i 0)))), (7, (.one (.vrow 1 (R32 l)))), (8, (.one (.int .i64 ((↑(R32 l).length : Int))))), (9, (.one (.int .i64 ((↑i : Int))))), (13, (.one (.int .i32 (l.getD i 0)))), (14, (.one (.bool (Utf8.valid (l.getD i 0)))))]) (by kernel_rfl) ?_
      refine run_sound hS (n := 2) (b := bm 23 [4, 6, 7, 8, 9, 15]) (s' := ⟨.normal, [.code f34_9, .code (.reg f34_11), .blk 1, .code (.reg f34_15), .stop R, .blk 0, .code f34_23], tl 23 [(4, (.one .nils)), (6, (.one (.int .i32 (l.getD i 0)))), (7, (.one (.vrow 1 (R32 l)))), (8, (.one (.int .i64 ((↑(R32 l).length : Int))))), (9, (.one (.int .i64 ((↑i : Int))))), (15, (.one (.bool (!Utf8.valid (l.getD i 0)))))], []⟩) (c := []) (by kernel_rfl) ⟨⟩ ?_
      cases hb1 : Utf8.valid (l.getD i 0)
      · skip
        refine run_sound hS (n := 7) (b := []) (s' := ⟨.ret, [], tl 23 [(2, (.one (.str []))), (3, (.one (.int .i64 3))), (4, (.one .nils)), (6, (.one (.int .i32 (l.getD i 0)))), (7, (.one (.vrow 1 (R32 l)))), (8, (.one (.int .i64 ((↑(R32 l).length : Int))))), (9, (.one (.int .i64 ((↑i : Int))))), (15, (.one (.bool true)))], []⟩) (c := []) (by kernel_rfl) ⟨⟩ ?_
        refine SemS.done (.inl rfl) Abs.refl (v := (.tup [(.one (.str [])), (.one (.int .i64 3))])) (by kernel_rfl) ?_
        · show AV.tup [.one (.str _), .one (.int .i64 _)] = AV.tup [.one (.str (encT l)), .one (.int .i64 (encE l))]
          first
            | rw [(encT_at hb0 hb1).1, (encT_at hb0 hb1).2]
            | rw [(encT_all hb0 ha ho2).1, (encT_all hb0 ha ho2).2]
      · skip
        refine run_sound hS (n := 5) (b := bm 23 [7, 8, 9, 16, 17]) (s' := ⟨.normal, [.ops f34_11 2, .blk 1, .code (.reg f34_15), .stop R, .blk 0, .code f34_23], tl 23 [(7, (.one (.vrow 1 (R32 l)))), (8, (.one (.int .i64 ((↑(R32 l).length : Int))))), (9, (.one (.int .i64 ((↑i : Int))))), (16, (.one .nils)), (17, (.one (.int .i32 (l.getD i 0))))], []⟩) (c := []) (by kernel_rfl) ⟨⟩ ?_
        refine SemS.callP hS hp58 rfl (by kernel_rfl) (by kernel_rfl) (vs := [(.one (.int .i32 (l.getD i 0)))]) (by kernel_rfl) (v := (.one (.vrow 1 (RB (encB (l.getD i 0)))))) (c := [Utf8.valid (l.getD i (0 : Int)) = true]) (c58 (l.getD i 0)) ⟨by first | assumption | omega, ⟨⟩⟩ (T' := tl 23 [(7, (.one (.vrow 1 (R32 l)))), (8, (.one (.int .i64 ((↑(R32 l).length : Int))))), (9, (.one (.int .i64 ((↑i : Int))))), (16, (.one .nils)), (17, (.one (.int .i32 (l.getD i 0)))), (18, (.one (.vrow 1 (RB (encB (l.getD i 0))))))]) (by kernel_rfl) ?_
        rcases hb2 : encB (l.getD i 0) with _ | ⟨y2, t2⟩
        · skip
          refine run_sound hS (n := 8) (b := []) (s' := ⟨.normal, [.stop R, .blk 0, .code f34_23], tl 23 [(4, (.one .nils)), (7, (.one (.vrow 1 (R32 l)))), (8, (.one (.int .i64 ((↑(R32 l).length : Int))))), (9, (.one (.int .i64 ((↑i : Int) + 1)))), (16, (.one .nils)), (17, (.one (.int .i32 (l.getD i 0)))), (18, (.one (.vrow 1 []))), (19, (.one .nils)), (20, (.one (.int .i64 ((↑i : Int) + 1))))], []⟩) (c := [i64R ((↑i : Int) + (1 : Int))]) (by kernel_rfl) ⟨by unfold i64R; omega, ⟨⟩⟩ ?_
          exact absurd hb2 (encB_ne hb1)
        · skip
          refine run_sound hS (n := 8) (b := []) (s' := ⟨.normal, [.stop R, .blk 0, .code f34_23], tl 23 [(4, (.one (.sl 0 0 ((RB t2).length + 1)))), (7, (.one (.vrow 1 (R32 l)))), (8, (.one (.int .i64 ((↑(R32 l).length : Int))))), (9, (.one (.int .i64 ((↑i : Int) + 1)))), (16, (.one .nils)), (17, (.one (.int .i32 (l.getD i 0)))), (18, (.one (.vrow 1 (RB (y2 :: t2))))), (19, (.one (.sl 0 0 ((RB t2).length + 1)))), (20, (.one (.int .i64 ((↑i : Int) + 1))))], [(.blk 1 ([Lf.int IntKind.u8 (↑y2.toNat : Int)] :: (RB t2)) true)]⟩) (c := [((RB t2).length + (1 : Nat)) * (1 : Nat) ≤ (140737488355328 : Nat), i64R ((↑i : Int) + (1 : Int))]) (by kernel_rfl) ⟨by have hb := encB_len hb1; rw [hb2] at hb; simp only [List.length_map, List.length_cons] at hb ⊢; omega, by unfold i64R; omega, ⟨⟩⟩ ?_
          exact hR ⟨(i + 1, y2 :: t2), by show i + 1 ≤ l.length; omega, bad_step hb0 hb1 ha, by show _ = encL (l.take (i + 1)); rw [encL_step hb0, ← ho2, hb2]; rfl⟩ _ _ (by show l.length - (i + 1) < l.length - i; omega) (abs_l [0] [] 23 [(4, .one (.sl 0 0 (y2 :: t2).length)), (7, .one (.vrow 1 (R32 l))), (8, .one (.int .i64 ((R32 l).length : Int))), (9, .one (.int .i64 ((i + 1 : Nat) : Int)))] (by kernel_rfl) ⟨⟩ ⟨.eq rfl (by simp [elsClosed, Lf.closed]), ⟨⟩⟩ ⟨.slB rfl rfl (by first | (simp; done) | (simp; omega)), .row rfl, .int rfl, .int (by omega), ⟨⟩⟩)
  · skip
    refine run_sound hS (n := 5) (b := bm 23 [4, 7, 8, 9, 10]) (s' := ⟨.normal, [.code f34_4, .code f34_16, .stop R, .blk 0, .code f34_23], tl 23 [(4, (.one (.sl 0 0 ((z :: o).length)))), (7, (.one (.vrow 1 (R32 l)))), (8, (.one (.int .i64 ((↑(R32 l).length : Int))))), (9, (.one (.int .i64 ((↑i : Int))))), (10, (.one (.bool (decide ((↑i : Int) < (↑(R32 l).length : Int))))))], [(.blk 1 (RB (z :: o)) true)]⟩) (c := []) (by kernel_rfl) ⟨⟩ ?_
    cases hb0 : decide ((↑i : Int) < (↑(R32 l).length : Int))
    · replace hb0 := of_decide_eq_false hb0; try simp only [List.length_map] at hb0
      refine run_sound hS (n := 8) (b := bm 23 [21]) (s' := ⟨.normal, [.ops f34_22 1, .code .ret], tl 23 [(21, (.one (.sl 0 0 ((z :: o).length))))], [(.blk 1 (RB (z :: o)) true)]⟩) (c := []) (by kernel_rfl) ⟨⟩ ?_
      refine SemS.step hS rfl (by kernel_rfl) rfl (v := (.one (.str (z :: o)))) (b2s_own (l := z :: o) (b := 0) (o := true) (by kernel_rfl) (by kernel_rfl) (by first | rfl | (simp <;> omega))) (T' := tl 23 [(21, (.one (.sl 0 0 ((z :: o).length)))), (22, (.one (.str (z :: o))))]) (by kernel_rfl) ?_
      refine run_sound hS (n := 4) (b := []) (s' := ⟨.ret, [], tl 23 [(2, (.one (.str (z :: o)))), (3, (.one (.int .i64 0))), (21, (.one (.sl 0 0 ((z :: o).length)))), (22, (.one (.str (z :: o))))], [(.blk 1 (RB (z :: o)) true)]⟩) (c := []) (by kernel_rfl) ⟨⟩ ?_
      refine SemS.done (.inl rfl) Abs.refl (v := (.tup [(.one (.str (z :: o))), (.one (.int .i64 0))])) (by kernel_rfl) ?_
      · show AV.tup [.one (.str _), .one (.int .i64 _)] = AV.tup [.one (.str (encT l)), .one (.int .i64 (encE l))]
        first
          | rw [(encT_at hb0 hb1).1, (encT_at hb0 hb1).2]
          | rw [(encT_all hb0 ha ho2).1, (encT_all hb0 ha ho2).2]
    · replace hb0 := of_decide_eq_true hb0; try simp only [List.length_map] at hb0
      refine run_sound hS (n := 6) (b := bm 23 [4, 7, 8, 9]) (s' := ⟨.normal, [.ops f34_5 0, .code f34_12, .blk 1, .code (.reg f34_15), .stop R, .blk 0, .code f34_23], tl 23 [(4, (.one (.sl 0 0 ((z :: o).length)))), (7, (.one (.vrow 1 (R32 l)))), (8, (.one (.int .i64 ((↑(R32 l).length : Int))))), (9, (.one (.int .i64 ((↑i : Int)))))], [(.blk 1 (RB (z :: o)) true)]⟩) (c := []) (by kernel_rfl) ⟨⟩ ?_
      refine SemS.step hS rfl (by kernel_rfl) rfl (v := (.one (.vptr [(.int .i32 (l.getD i 0))]))) (iaddr_map (kd := .i64) (f := fun r => [Lf.int IntKind.i32 r]) (l := l) (k := ((↑i : Int))) (0) (by kernel_rfl) (by kernel_rfl) (by omega)) (T' := tl 23 [(4, (.one (.sl 0 0 ((z :: o).length)))), (7, (.one (.vrow 1 (R32 l)))), (8, (.one (.int .i64 ((↑(R32 l).length : Int))))), (9, (.one (.int .i64 ((↑i : Int))))), (11, (.one (.vptr [(.int .i32 (l.getD i 0))])))]) (by kernel_rfl) ?_
      refine run_sound hS (n := 7) (b := bm 23 [4, 6, 7, 8, 9, 13]) (s' := ⟨.normal, [.ops f34_6 1, .code f34_9, .code (.reg f34_11), .blk 1, .code (.reg f34_15), .stop R, .blk 0, .code f34_23], tl 23 [(4, (.one (.sl 0 0 ((z :: o).length)))), (6, (.one (.int .i32 (l.getD i 0)))), (7, (.one (.vrow 1 (R32 l)))), (8, (.one (.int .i64 ((↑(R32 l).length : Int))))), (9, (.one (.int .i64 ((↑i : Int))))), (13, (.one (.int .i32 (l.getD i 0))))], [(.blk 1 (RB (z :: o)) true)]⟩) (c := []) (by kernel_rfl) ⟨⟩ ?_
      refine SemS.callP hS hp57 rfl (by kernel_rfl) (by kernel_rfl) (vs := [(.one (.int .i32 (l.getD i 0)))]) (by kernel_rfl) (v := (.one (.bool (Utf8.valid (l.getD i 0))))) (c := []) (c57 (l.getD i 0)) ⟨⟩ (T' := tl 23 [(4, (.one (.sl 0 0 ((z :: o).length)))), (6, (.one (.int .i32 (l.getD i 0)))), (7, (.one (.vrow 1 (R32 l)))), (8, (.one (.int .i64 ((↑(R32 l).length : Int))))), (9, (.one (.int .i64 ((↑i : Int))))), (13, (.one (.int .i32 (l.getD i 0)))), (14, (.one (.bool (Utf8.valid (l.getD i 0)))))]) (by kernel_rfl) ?_
      refine run_sound hS (n := 2) (b := bm 23 [4, 6, 7, 8, 9, 15]) (s' := ⟨.normal, [.code f34_9, .code (.reg f34_11), .blk 1, .code (.reg f34_15), .stop R, .blk 0, .code f34_23], tl 23 [(4, (.one (.sl 0 0 ((z :: o).length)))), (6, (.one (.int .i32 (l.getD i 0)))), (7, (.one (.vrow 1 (R32 l)))), (8, (.one (.int .i64 ((↑(R32 l).length : Int))))), (9, (.one (.int .i64 ((↑i : Int))))), (15, (.one (.bool (!Utf8.valid (l.getD i 0)))))], [(.blk 1 (RB (z :: o)) true)]⟩) (c := []) (by kernel_rfl) ⟨⟩ ?_
      cases hb1 : Utf8.valid (l.getD i 0)
      · skip
        refine run_sound hS (n := 7) (b := []) (s' := ⟨.ret, [], tl 23 [(2, (.one (.str []))), (3, (.one (.int .i64 3))), (4, (.one (.sl 0 0 ((z :: o).length)))), (6, (.one (.int .i32 (l.getD i 0)))), (7, (.one (.vrow 1 (R32 l)))), (8, (.one (.int .i64 ((↑(R32 l).length : Int))))), (9, (.one (.int .i64 ((↑i : Int))))), (15, (.one (.bool true)))], [(.blk 1 (RB (z :: o)) true)]⟩) (c := []) (by kernel_rfl) ⟨⟩ ?_
        refine SemS.done (.inl rfl) Abs.refl (v := (.tup [(.one (.str [])), (.one (.int .i64 3))])) (by kernel_rfl) ?_
        · show AV.tup [.one (.str _), .one (.int .i64 _)] = AV.tup [.one (.str (encT l)), .one (.int .i64 (encE l))]
          first
            | rw [(encT_at hb0 hb1).1, (encT_at hb0 hb1).2]
            | rw [(encT_all hb0 ha ho2).1, (encT_all hb0 ha ho2).2]
      · skip
        refine run_sound hS (n := 5) (b := bm 23 [7, 8, 9, 16, 17]) (s' := ⟨.normal, [.ops f34_11 2, .blk 1, .code (.reg f34_15), .stop R, .blk 0, .code f34_23], tl 23 [(7, (.one (.vrow 1 (R32 l)))), (8, (.one (.int .i64 ((↑(R32 l).length : Int))))), (9, (.one (.int .i64 ((↑i : Int))))), (16, (.one (.sl 0 0 ((z :: o).length)))), (17, (.one (.int .i32 (l.getD i 0))))], [(.blk 1 (RB (z :: o)) true)]⟩) (c := []) (by kernel_rfl) ⟨⟩ ?_
        refine SemS.callP hS hp58 rfl (by kernel_rfl) (by kernel_rfl) (vs := [(.one (.int .i32 (l.getD i 0)))]) (by kernel_rfl) (v := (.one (.vrow 1 (RB (encB (l.getD i 0)))))) (c := [Utf8.valid (l.getD i (0 : Int)) = true]) (c58 (l.getD i 0)) ⟨by first | assumption | omega, ⟨⟩⟩ (T' := tl 23 [(7, (.one (.vrow 1 (R32 l)))), (8, (.one (.int .i64 ((↑(R32 l).length : Int))))), (9, (.one (.int .i64 ((↑i : Int))))), (16, (.one (.sl 0 0 ((z :: o).length)))), (17, (.one (.int .i32 (l.getD i 0)))), (18, (.one (.vrow 1 (RB (encB (l.getD i 0))))))]) (by kernel_rfl) ?_
        rcases hb2 : encB (l.getD i 0) with _ | ⟨y2, t2⟩
        · skip
          refine run_sound hS (n := 8) (b := []) (s' := ⟨.normal, [.stop R, .blk 0, .code f34_23], tl 23 [(4, (.one (.sl 0 0 ((z :: o).length)))), (7, (.one (.vrow 1 (R32 l)))), (8, (.one (.int .i64 ((↑(R32 l).length : Int))))), (9, (.one (.int .i64 ((↑i : Int) + 1)))), (16, (.one (.sl 0 0 ((z :: o).length)))), (17, (.one (.int .i32 (l.getD i 0)))), (18, (.one (.vrow 1 []))), (19, (.one (.sl 0 0 ((z :: o).length)))), (20, (.one (.int .i64 ((↑i : Int) + 1))))], [(.blk 1 (RB (z :: o)) true)]⟩) (c := [i64R ((↑i : Int) + (1 : Int))]) (by kernel_rfl) ⟨by unfold i64R; omega, ⟨⟩⟩ ?_
          exact absurd hb2 (encB_ne hb1)
        · skip
          refine SemS.step hS rfl (by kernel_rfl) rfl (v := (.one (.sl 1 0 ((z :: o).length + (y2 :: t2).length)))) (L1 := [.dead, (.blk 1 (List.map (fun b => [Lf.int IntKind.u8 (↑b.toNat : Int)]) (z :: o ++ y2 :: t2)) true)]) (app_map (b := 0) (s := 1) (bytes := 1) (n := ((z :: o).length)) (f := fun b => [Lf.int IntKind.u8 (↑b.toNat : Int)]) (l := z :: o) (l2 := y2 :: t2) (by kernel_rfl) (by kernel_rfl) (by kernel_rfl) (by simp) (by first | rfl | (simp <;> omega)) (by have hb := encB_len hb1; rw [hb2] at hb; simp only [List.length_cons, List.length_nil] at hb hol ⊢; omega) (by kernel_rfl) (by kernel_rfl)) (T' := tl 23 [(7, (.one (.vrow 1 (R32 l)))), (8, (.one (.int .i64 ((↑(R32 l).length : Int))))), (9, (.one (.int .i64 ((↑i : Int))))), (16, (.one (.sl 0 0 ((z :: o).length)))), (17, (.one (.int .i32 (l.getD i 0)))), (18, (.one (.vrow 1 (RB (y2 :: t2))))), (19, (.one (.sl 1 0 ((z :: o).length + (y2 :: t2).length))))]) (by kernel_rfl) ?_
          refine run_sound hS (n := 7) (b := []) (s' := ⟨.normal, [.stop R, .blk 0, .code f34_23], tl 23 [(4, (.one (.sl 1 0 ((z :: o).length + (y2 :: t2).length)))), (7, (.one (.vrow 1 (R32 l)))), (8, (.one (.int .i64 ((↑(R32 l).length : Int))))), (9, (.one (.int .i64 ((↑i : Int) + 1)))), (16, (.one (.sl 0 0 ((z :: o).length)))), (17, (.one (.int .i32 (l.getD i 0)))), (18, (.one (.vrow 1 (RB (y2 :: t2))))), (19, (.one (.sl 1 0 ((z :: o).length + (y2 :: t2).length)))), (20, (.one (.int .i64 ((↑i : Int) + 1))))], [.dead, (.blk 1 (List.map (fun b => [Lf.int IntKind.u8 (↑b.toNat : Int)]) (z :: o ++ y2 :: t2)) true)]⟩) (c := [i64R ((↑i : Int) + (1 : Int))]) (by kernel_rfl) ⟨by unfold i64R; omega, ⟨⟩⟩ ?_
          exact hR ⟨(i + 1, z :: (o ++ y2 :: t2)), by show i + 1 ≤ l.length; omega, bad_step hb0 hb1 ha, by show _ = encL (l.take (i + 1)); rw [encL_step hb0, ← ho2, hb2]; rfl⟩ _ _ (by show l.length - (i + 1) < l.length - i; omega) (abs_l [1] [] 23 [(4, .one (.sl 0 0 (z :: (o ++ y2 :: t2)).length)), (7, .one (.vrow 1 (R32 l))), (8, .one (.int .i64 ((R32 l).length : Int))), (9, .one (.int .i64 ((i + 1 : Nat) : Int)))] (by kernel_rfl) ⟨⟩ ⟨.eq rfl (by simp [elsClosed, Lf.closed]), ⟨⟩⟩ ⟨.slB rfl rfl (by first | (simp; done) | (simp; omega)), .row rfl, .int rfl, .int (by omega), ⟨⟩⟩)
theorem w8 (hS : S.Good X) (hp16 : X.pr 16 = some (pureP g16)) (hp24 : X.pr 24 = some (pureP g24)) (hp33 : X.pr 33 = some (pureP g33)) (hp34 : X.pr 34 = some (pureP g34)) (hp35 : X.pr 35 = some (pureP g35)) (hp36 : X.pr 36 = some (pureP g36)) (hp37 : X.pr 37 = some (pureP g37)) (h8 : S.has 8 f8) (a b : List Int) (r : Int) : MF S 8 [] [.one (.vrow 1 (R32 a)), .one (.vrow 1 (R32 b)), .one (.int .i32 r)] (hl []) fun v _ => v = .one (.bool true) := by
  refine MF.run hS h8 ([.one (.vrow 1 (R32 a)), .one (.vrow 1 (R32 b)), .one (.int .i32 r)] ++ List.replicate (f8.nt - f8.np) und) rfl rfl ?_
  refine run_sound hS (n := 7) (b := bm 55 [0, 1, 2]) (s' := ⟨.normal, [.ops f8_1 0, .code f8_4, .code f8_17], tl 55 [(0, (.one (.vrow 1 (R32 a)))), (1, (.one (.vrow 1 (R32 b)))), (2, (.one (.int .i32 (r))))], []⟩) (c := []) (by kernel_rfl) ⟨⟩ ?_
  refine SemS.callP hS hp16 rfl (by kernel_rfl) (by kernel_rfl) (vs := []) (by kernel_rfl) (v := (.one (.bool true))) (c := []) (c16) ⟨⟩ (T' := tl 55 [(0, (.one (.vrow 1 (R32 a)))), (1, (.one (.vrow 1 (R32 b)))), (2, (.one (.int .i32 (r)))), (11, (.one (.bool true)))]) (by kernel_rfl) ?_
  refine run_sound hS (n := 11) (b := bm 55 [0, 1, 2, 16]) (s' := ⟨.normal, [.ops f8_6 4, .code f8_9, .code f8_16], tl 55 [(0, (.one (.vrow 1 (R32 a)))), (1, (.one (.vrow 1 (R32 b)))), (2, (.one (.int .i32 (r)))), (16, (.one (.bool (decide (3000 < (↑(R32 a).length : Int))))))], []⟩) (c := []) (by kernel_rfl) ⟨⟩ ?_
  cases hb0 : decide (3000 < (↑(R32 a).length : Int))
  · replace hb0 := of_decide_eq_false hb0; try simp only [List.length_map] at hb0
    refine run_sound hS (n := 5) (b := bm 55 [0, 1, 2, 20]) (s' := ⟨.normal, [.code f8_9, .code f8_16], tl 55 [(0, (.one (.vrow 1 (R32 a)))), (1, (.one (.vrow 1 (R32 b)))), (2, (.one (.int .i32 (r)))), (20, (.one (.bool (decide (3000 < (↑(R32 b).length : Int))))))], []⟩) (c := []) (by kernel_rfl) ⟨⟩ ?_
    cases hb1 : decide (3000 < (↑(R32 b).length : Int))
    · replace hb1 := of_decide_eq_false hb1; try simp only [List.length_map] at hb1
      refine run_sound hS (n := 5) (b := bm 55 [0, 1, 2, 22]) (s' := ⟨.normal, [.ops f8_11 1, .code f8_15], tl 55 [(0, (.one (.vrow 1 (R32 a)))), (1, (.one (.vrow 1 (R32 b)))), (2, (.one (.int .i32 (r)))), (22, (.one (.vrow 1 (R32 a))))], []⟩) (c := []) (by kernel_rfl) ⟨⟩ ?_
      refine SemS.callP hS hp33 rfl (by kernel_rfl) (by kernel_rfl) (vs := [(.one (.vrow 1 (R32 a)))]) (by kernel_rfl) (v := (.tup [(.one (.str (encT a))), (.one (.int .i64 (encE a)))])) (c := [a.length ≤ (1099511627776 : Nat)]) (c33 (a)) ⟨by omega, ⟨⟩⟩ (T' := tl 55 [(0, (.one (.vrow 1 (R32 a)))), (1, (.one (.vrow 1 (R32 b)))), (2, (.one (.int .i32 (r)))), (22, (.one (.vrow 1 (R32 a)))), (23, (.tup [(.one (.str (encT a))), (.one (.int .i64 (encE a)))]))]) (by kernel_rfl) ?_
      refine run_sound hS (n := 9) (b := bm 55 [0, 1, 2, 7, 8, 27]) (s' := ⟨.normal, [.ops f8_12 1, .code f8_14], tl 55 [(0, (.one (.vrow 1 (R32 a)))), (1, (.one (.vrow 1 (R32 b)))), (2, (.one (.int .i32 (r)))), (7, (.one (.str (encT a)))), (8, (.one (.int .i64 (encE a)))), (27, (.one (.vrow 1 (R32 a))))], []⟩) (c := []) (by kernel_rfl) ⟨⟩ ?_
      refine SemS.callP hS hp34 rfl (by kernel_rfl) (by kernel_rfl) (vs := [(.one (.vrow 1 (R32 a)))]) (by kernel_rfl) (v := (.tup [(.one (.str (encT a))), (.one (.int .i64 (encE a)))])) (c := [a.length ≤ (1099511627776 : Nat)]) (c34 (a)) ⟨by omega, ⟨⟩⟩ (T' := tl 55 [(0, (.one (.vrow 1 (R32 a)))), (1, (.one (.vrow 1 (R32 b)))), (2, (.one (.int .i32 (r)))), (7, (.one (.str (encT a)))), (8, (.one (.int .i64 (encE a)))), (27, (.one (.vrow 1 (R32 a)))), (28, (.tup [(.one (.str (encT a))), (.one (.int .i64 (encE a)))]))]) (by kernel_rfl) ?_
      refine run_sound hS (n := 12) (b := bm 55 [0, 1, 2, 8, 10, 34]) (s' := ⟨.normal, [.ops f8_13 4, .code .ret], tl 55 [(0, (.one (.vrow 1 (R32 a)))), (1, (.one (.vrow 1 (R32 b)))), (2, (.one (.int .i32 (r)))), (8, (.one (.int .i64 (encE a)))), (10, (.one (.int .i64 (encE a)))), (34, (.one (.bool (decide (encT a = encT a)))))], []⟩) (c := []) (by kernel_rfl) ⟨⟩ ?_
      cases hb2 : decide (encT a = encT a)
      · replace hb2 := of_decide_eq_false hb2; try simp only [List.length_map] at hb2
        refine run_sound hS (n := 23) (b := []) (s' := ⟨.ret, [], tl 55 [(0, (.one (.vrow 1 (R32 a)))), (1, (.one (.vrow 1 (R32 b)))), (2, (.one (.int .i32 (r)))), (6, (.one (.bool false))), (8, (.one (.int .i64 (encE a)))), (10, (.one (.int .i64 (encE a)))), (34, (.one (.bool false))), (35, und), (36, und), (37, und), (38, (.one (.bool false))), (39, (.one (.bool false))), (40, und), (41, und), (42, und), (43, und), (44, und), (45, (.one (.bool false))), (46, (.one (.bool false))), (47, und), (48, und), (49, und), (50, und), (51, und), (52, und), (53, und), (54, (.one (.bool false)))], []⟩) (c := []) (by kernel_rfl) ⟨⟩ ?_
        refine SemS.done (.inl rfl) Abs.refl (v := (.one (.bool false))) (by kernel_rfl) ?_
        · show AV.one (.bool _) = AV.one (.bool true)
          simp_all
      · replace hb2 := of_decide_eq_true hb2; try simp only [List.length_map] at hb2
        refine run_sound hS (n := 5) (b := bm 55 [0, 1, 2, 39]) (s' := ⟨.normal, [.ops f8_13 9, .code .ret], tl 55 [(0, (.one (.vrow 1 (R32 a)))), (1, (.one (.vrow 1 (R32 b)))), (2, (.one (.int .i32 (r)))), (39, (.one (.bool (decide (encE a = encE a)))))], []⟩) (c := []) (by kernel_rfl) ⟨⟩ ?_
        cases hb3 : decide (encE a = encE a)
        · replace hb3 := of_decide_eq_false hb3; try simp only [List.length_map] at hb3
          refine run_sound hS (n := 18) (b := []) (s' := ⟨.ret, [], tl 55 [(0, (.one (.vrow 1 (R32 a)))), (1, (.one (.vrow 1 (R32 b)))), (2, (.one (.int .i32 (r)))), (6, (.one (.bool false))), (39, (.one (.bool false))), (40, und), (41, und), (42, und), (43, und), (44, und), (45, (.one (.bool false))), (46, (.one (.bool false))), (47, und), (48, und), (49, und), (50, und), (51, und), (52, und), (53, und), (54, (.one (.bool false)))], []⟩) (c := []) (by kernel_rfl) ⟨⟩ ?_
          refine SemS.done (.inl rfl) Abs.refl (v := (.one (.bool false))) (by kernel_rfl) ?_
          · show AV.one (.bool _) = AV.one (.bool true)
            simp_all
        · replace hb3 := of_decide_eq_true hb3; try simp only [List.length_map] at hb3
          refine run_sound hS (n := 1) (b := bm 55 [0, 1, 2, 39, 40]) (s' := ⟨.normal, [.ops f8_13 10, .code .ret], tl 55 [(0, (.one (.vrow 1 (R32 a)))), (1, (.one (.vrow 1 (R32 b)))), (2, (.one (.int .i32 (r)))), (39, (.one (.bool true))), (40, (.one (.int .i32 (r))))], []⟩) (c := []) (by kernel_rfl) ⟨⟩ ?_
          refine SemS.callP hS hp35 rfl (by kernel_rfl) (by kernel_rfl) (vs := [(.one (.int .i32 (r)))]) (by kernel_rfl) (v := (.one (.bool (letterB r)))) (c := []) (c35 (r)) ⟨⟩ (T' := tl 55 [(0, (.one (.vrow 1 (R32 a)))), (1, (.one (.vrow 1 (R32 b)))), (2, (.one (.int .i32 (r)))), (39, (.one (.bool true))), (40, (.one (.int .i32 (r)))), (41, (.one (.bool (letterB r))))]) (by kernel_rfl) ?_
          refine run_sound hS (n := 1) (b := bm 55 [0, 1, 39, 41, 42]) (s' := ⟨.normal, [.ops f8_13 12, .code .ret], tl 55 [(0, (.one (.vrow 1 (R32 a)))), (1, (.one (.vrow 1 (R32 b)))), (39, (.one (.bool true))), (41, (.one (.bool (letterB r)))), (42, (.one (.int .i32 (r))))], []⟩) (c := []) (by kernel_rfl) ⟨⟩ ?_
          refine SemS.callP hS hp36 rfl (by kernel_rfl) (by kernel_rfl) (vs := [(.one (.int .i32 (r)))]) (by kernel_rfl) (v := (.one (.bool (letterB r)))) (c := []) (c36 (r)) ⟨⟩ (T' := tl 55 [(0, (.one (.vrow 1 (R32 a)))), (1, (.one (.vrow 1 (R32 b)))), (39, (.one (.bool true))), (41, (.one (.bool (letterB r)))), (42, (.one (.int .i32 (r)))), (43, (.one (.bool (letterB r))))]) (by kernel_rfl) ?_
          refine run_sound hS (n := 3) (b := bm 55 [0, 1, 46]) (s' := ⟨.normal, [.ops f8_13 16, .code .ret], tl 55 [(0, (.one (.vrow 1 (R32 a)))), (1, (.one (.vrow 1 (R32 b)))), (46, (.one (.bool (if false = true then !decide (letterB r = letterB r) else decide (letterB r = letterB r)))))], []⟩) (c := []) (by kernel_rfl) ⟨⟩ ?_
          cases hb4 : if false = true then !decide (letterB r = letterB r) else decide (letterB r = letterB r)
          · skip
            refine run_sound hS (n := 11) (b := []) (s' := ⟨.ret, [], tl 55 [(0, (.one (.vrow 1 (R32 a)))), (1, (.one (.vrow 1 (R32 b)))), (6, (.one (.bool false))), (46, (.one (.bool false))), (47, und), (48, und), (49, und), (50, und), (51, und), (52, und), (53, und), (54, (.one (.bool false)))], []⟩) (c := []) (by kernel_rfl) ⟨⟩ ?_
            refine SemS.done (.inl rfl) Abs.refl (v := (.one (.bool false))) (by kernel_rfl) ?_
            · show AV.one (.bool _) = AV.one (.bool true)
              simp_all
          · skip
            refine run_sound hS (n := 2) (b := bm 55 [0, 1, 46, 47, 48]) (s' := ⟨.normal, [.ops f8_13 18, .code .ret], tl 55 [(0, (.one (.vrow 1 (R32 a)))), (1, (.one (.vrow 1 (R32 b)))), (46, (.one (.bool true))), (47, (.one (.vrow 1 (R32 a)))), (48, (.one (.vrow 1 (R32 b))))], []⟩) (c := []) (by kernel_rfl) ⟨⟩ ?_
            refine SemS.callP hS hp24 rfl (by kernel_rfl) (by kernel_rfl) (vs := [(.one (.vrow 1 (R32 a))), (.one (.vrow 1 (R32 b)))]) (by kernel_rfl) (v := (.one (.int .i64 (cmpL a b)))) (c := [a.length ≤ (1099511627776 : Nat)]) (c24 (a) (b)) ⟨by omega, ⟨⟩⟩ (T' := tl 55 [(0, (.one (.vrow 1 (R32 a)))), (1, (.one (.vrow 1 (R32 b)))), (46, (.one (.bool true))), (47, (.one (.vrow 1 (R32 a)))), (48, (.one (.vrow 1 (R32 b)))), (49, (.one (.int .i64 (cmpL a b))))]) (by kernel_rfl) ?_
            refine run_sound hS (n := 2) (b := bm 55 [46, 49, 50, 51]) (s' := ⟨.normal, [.ops f8_13 21, .code .ret], tl 55 [(46, (.one (.bool true))), (49, (.one (.int .i64 (cmpL a b)))), (50, (.one (.vrow 1 (R32 a)))), (51, (.one (.vrow 1 (R32 b))))], []⟩) (c := []) (by kernel_rfl) ⟨⟩ ?_
            refine SemS.callP hS hp37 rfl (by kernel_rfl) (by kernel_rfl) (vs := [(.one (.vrow 1 (R32 a))), (.one (.vrow 1 (R32 b)))]) (by kernel_rfl) (v := (.one (.int .i64 (cmpL a b)))) (c := [a.length ≤ (1099511627776 : Nat)]) (c37 (a) (b)) ⟨by omega, ⟨⟩⟩ (T' := tl 55 [(46, (.one (.bool true))), (49, (.one (.int .i64 (cmpL a b)))), (50, (.one (.vrow 1 (R32 a)))), (51, (.one (.vrow 1 (R32 b)))), (52, (.one (.int .i64 (cmpL a b))))]) (by kernel_rfl) ?_
            refine run_sound hS (n := 5) (b := []) (s' := ⟨.ret, [], tl 55 [(6, (.one (.bool (decide (cmpL a b = cmpL a b))))), (46, (.one (.bool true))), (49, (.one (.int .i64 (cmpL a b)))), (50, (.one (.vrow 1 (R32 a)))), (51, (.one (.vrow 1 (R32 b)))), (52, (.one (.int .i64 (cmpL a b)))), (53, (.one (.bool (decide (cmpL a b = cmpL a b))))), (54, (.one (.bool (decide (cmpL a b = cmpL a b)))))], []⟩) (c := []) (by kernel_rfl) ⟨⟩ ?_
            refine SemS.done (.inl rfl) Abs.refl (v := (.one (.bool (decide (cmpL a b = cmpL a b))))) (by kernel_rfl) ?_
            · show AV.one (.bool _) = AV.one (.bool true)
              simp_all
    · replace hb1 := of_decide_eq_true hb1; try simp only [List.length_map] at hb1
      refine run_sound hS (n := 6) (b := []) (s' := ⟨.ret, [], tl 55 [(0, (.one (.vrow 1 (R32 a)))), (1, (.one (.vrow 1 (R32 b)))), (2, (.one (.int .i32 (r)))), (6, (.one (.bool true))), (20, (.one (.bool true)))], []⟩) (c := []) (by kernel_rfl) ⟨⟩ ?_
      refine SemS.done (.inl rfl) Abs.refl (v := (.one (.bool true))) (by kernel_rfl) ?_
      · show AV.one (.bool _) = AV.one (.bool true)
        simp_all
  · replace hb0 := of_decide_eq_true hb0; try simp only [List.length_map] at hb0
    refine run_sound hS (n := 11) (b := []) (s' := ⟨.ret, [], tl 55 [(0, (.one (.vrow 1 (R32 a)))), (1, (.one (.vrow 1 (R32 b)))), (2, (.one (.int .i32 (r)))), (6, (.one (.bool true))), (16, (.one (.bool true))), (17, und), (18, und), (19, und), (20, (.one (.bool true)))], []⟩) (c := []) (by kernel_rfl) ⟨⟩ ?_
    refine SemS.done (.inl rfl) Abs.refl (v := (.one (.bool true))) (by kernel_rfl) ?_
    · show AV.one (.bool _) = AV.one (.bool true)
      simp_all
end
end Go.EA
