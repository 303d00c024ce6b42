/- Layer 1: the reference's Decode, tokens, letters. Conditions: none. (Printed by a program of this project's own.) -/
import Derived.Test.YtngcpifknomecaaDoorEAf1
import Derived.Test.YtngcpifknomecaaDoorEK4
import Derived.Test.YtngcpifknomecaaDoorEMean3
import Derived.KernelRfl
set_option linter.unusedVariables false
set_option linter.unusedSimpArgs false
set_option maxRecDepth 100000
set_option maxHeartbeats 0
namespace Go.EA
open F
section
variable {S : SC} {X : Cx}
def T19 (t : List UInt8) : List Int → List AV
  | [] => tl 25 [(0, .one (.str t)), (4, .one .nils)]
  | x :: r => tl 25 [(0, .one (.str t)), (4, .one (.sl 0 0 (x :: r).length))]
def L19 : List Int → List AO
  | [] => []
  | x :: r => [.blk 1 (R32 (x :: r)) true]
theorem p19 (hS : S.Good X) (hp46 : X.pr 46 = some (pureP g46)) (h19 : S.has 19 f19) : PrOk S 19 (pureP g19) := by
  refine pure_rel 19 fun s hc => ⟨rfl, rfl, ?_⟩
  have hc1 : s.length ≤ 1099511627776 := hc.1
  refine MF.run hS h19 ([.one (.str s)] ++ List.replicate (f19.nt - f19.np) und) rfl rfl ?_
  refine run_sound hS (n := 11) (b := bm 25 [0, 4]) (s' := ⟨.normal, [.code f19_18, .blk 0, .code f19_21], tl 25 [(0, (.one (.str (s)))), (4, (.one .nils))], []⟩) (c := []) (by kernel_rfl) ⟨⟩ ?_
  refine SemS.loop (α := { p : List UInt8 × List Int // runes s = (p.2.map fun r => (r, true)) ++ runes p.1 ∧ p.2.length + p.1.length ≤ s.length }) (fun ⟨⟨t, o⟩, h, hl⟩ => (T19 t o, L19 o)) (fun ⟨⟨t, o⟩, h, hl⟩ => t.length) ⟨(s, []), rfl, by simp⟩ (Abs.refl) ?_
  rintro ⟨⟨t, o⟩, h, hl⟩ R hR
  have hbd := fst_bd t
  have hl2 : o.length + t.length ≤ s.length := hl
  rcases o with _ | ⟨x, r⟩
  · skip
    refine run_sound hS (n := 7) (b := bm 25 [0, 4, 9]) (s' := ⟨.normal, [.code f19_3, .code f19_16, .stop R, .blk 0, .code f19_21], tl 25 [(0, (.one (.str (t)))), (4, (.one .nils)), (9, (.one (.bool (decide (0 < (↑t.length : Int))))))], []⟩) (c := []) (by kernel_rfl) ⟨⟩ ?_
    cases hb0 : decide (0 < (↑t.length : Int))
    · replace hb0 := of_decide_eq_false hb0; try simp only [List.length_map] at hb0
      refine run_sound hS (n := 12) (b := []) (s' := ⟨.ret, [], tl 25 [(0, (.one (.str (t)))), (2, (.one .nils)), (3, (.one (.int .i64 0))), (4, (.one .nils)), (9, (.one (.bool false))), (24, (.one .nils))], []⟩) (c := []) (by kernel_rfl) ⟨⟩ ?_
      refine SemS.done (.inl rfl) (abs_l (L1 := []) [] [] 25 [(2, (.one (.vrow 1 []))), (3, (.one (.int .i64 0)))] (by kernel_rfl) ⟨⟩ ⟨⟩ ⟨.one .nil, .eq1 rfl rfl, ⟨⟩⟩) (v := (.tup [(.one (.vrow 1 [])), (.one (.int .i64 0))])) (by kernel_rfl) ?_
      · show AV.tup [.one (.vrow 1 _), .one (.int .i64 _)] = AV.tup [.one (.vrow 1 (R32 (decR s))), .one (.int .i64 (decE s))]
        by_cases hq : t = []
        · subst hq
          first
            | (exfalso; revert hb0; simp; done)
            | (obtain ⟨e1, e2⟩ := d19_end h; rw [e1, e2]; try rfl)
        · first
            | (exfalso; apply hq; apply List.eq_nil_of_length_eq_zero; omega)
            | (obtain ⟨e1, e2⟩ := d19_bad h hq hb1; rw [e1, e2]; try rfl)
    · replace hb0 := of_decide_eq_true hb0; try simp only [List.length_map] at hb0
      refine run_sound hS (n := 6) (b := bm 25 [0, 4, 11]) (s' := ⟨.normal, [.ops f19_5 1, .code f19_14, .blk 1, .stop R, .blk 0, .code f19_21], tl 25 [(0, (.one (.str (t)))), (4, (.one .nils)), (11, (.one (.str (t))))], []⟩) (c := []) (by kernel_rfl) ⟨⟩ ?_
      refine SemS.callP hS hp46 rfl (by kernel_rfl) (by kernel_rfl) (vs := [(.one (.str (t)))]) (by kernel_rfl) (v := (.tup [(.one (.int .i32 ((fstR t).fst))), (.one (.int .i64 ((fstR t).snd)))])) (c := []) (c46 (t)) ⟨⟩ (T' := tl 25 [(0, (.one (.str (t)))), (4, (.one .nils)), (11, (.one (.str (t)))), (12, (.tup [(.one (.int .i32 ((fstR t).fst))), (.one (.int .i64 ((fstR t).snd)))]))]) (by kernel_rfl) ?_
      refine run_sound hS (n := 12) (b := bm 25 [0, 4, 5, 6, 16]) (s' := ⟨.normal, [.code f19_9, .code f19_13, .blk 1, .stop R, .blk 0, .code f19_21], tl 25 [(0, (.one (.str (t)))), (4, (.one .nils)), (5, (.one (.int .i32 ((fstR t).fst)))), (6, (.one (.int .i64 ((fstR t).snd)))), (16, (.one (.bool (decide ((fstR t).snd = 0)))))], []⟩) (c := []) (by kernel_rfl) ⟨⟩ ?_
      cases hb1 : decide ((fstR t).snd = 0)
      · replace hb1 := of_decide_eq_false hb1; try simp only [List.length_map] at hb1
        refine run_sound hS (n := 17) (b := []) (s' := ⟨.normal, [.stop R, .blk 0, .code f19_21], tl 25 [(0, (.one (.str (List.take (t.length - (fstR t).snd.toNat) (List.drop (fstR t).snd.toNat t))))), (4, (.one (.sl 1 0 1))), (5, (.one (.int .i32 ((fstR t).fst)))), (6, (.one (.int .i64 ((fstR t).snd)))), (16, (.one (.bool false))), (17, (.one .nils)), (18, (.one (.int .i32 ((fstR t).fst)))), (19, (.one (.sl 0 0 1))), (20, (.one (.sl 1 0 1))), (21, (.one (.str (t)))), (22, (.one (.int .i64 ((fstR t).snd)))), (23, (.one (.str (List.take (t.length - (fstR t).snd.toNat) (List.drop (fstR t).snd.toNat t)))))], [(.blk 1 [[(.int .i32 ((fstR t).fst))]] true), (.blk 1 [[(.int .i32 ((fstR t).fst))]] true)]⟩) (c := [(4 : Nat) ≤ (140737488355328 : Nat), (0 : Int) ≤ (fstR t).snd ∧ (fstR t).snd ≤ (↑t.length : Int) ∧ (↑t.length : Int) ≤ (↑t.length : Int)]) (by kernel_rfl) ⟨by omega, by omega, ⟨⟩⟩ ?_
        exact hR ⟨(t.drop (fstR t).2.toNat, [(fstR t).1]), d19_step (o := []) h hb1, by have := hl; simp only [List.length_drop, List.length_append, List.length_cons, List.length_nil] at this ⊢; omega⟩ _ _ (by show (t.drop _).length < t.length; rw [List.length_drop]; omega) (abs_l [1] [] 25 [(0, .one (.str (t.drop (fstR t).2.toNat))), (4, .one (.sl 0 0 1))] (by kernel_rfl) ⟨⟩ ⟨.eq rfl (by simp [elsClosed, Lf.closed]), ⟨⟩⟩ ⟨.str (List.take_of_length_le (by simp)).symm, .slB rfl rfl (by simp), ⟨⟩⟩)
      · replace hb1 := of_decide_eq_true hb1; try simp only [List.length_map] at hb1
        refine run_sound hS (n := 7) (b := []) (s' := ⟨.ret, [], tl 25 [(0, (.one (.str (t)))), (2, (.one .nils)), (3, (.one (.int .i64 3))), (4, (.one .nils)), (5, (.one (.int .i32 ((fstR t).fst)))), (6, (.one (.int .i64 ((fstR t).snd)))), (16, (.one (.bool true)))], []⟩) (c := []) (by kernel_rfl) ⟨⟩ ?_
        refine SemS.done (.inl rfl) (abs_l (L1 := []) [] [] 25 [(2, (.one (.vrow 1 []))), (3, (.one (.int .i64 3)))] (by kernel_rfl) ⟨⟩ ⟨⟩ ⟨.one .nil, .eq1 rfl rfl, ⟨⟩⟩) (v := (.tup [(.one (.vrow 1 [])), (.one (.int .i64 3))])) (by kernel_rfl) ?_
        · show AV.tup [.one (.vrow 1 _), .one (.int .i64 _)] = AV.tup [.one (.vrow 1 (R32 (decR s))), .one (.int .i64 (decE s))]
          by_cases hq : t = []
          · subst hq
            first
              | (exfalso; revert hb0; simp; done)
              | (obtain ⟨e1, e2⟩ := d19_end h; rw [e1, e2]; try rfl)
          · first
              | (exfalso; apply hq; apply List.eq_nil_of_length_eq_zero; omega)
              | (obtain ⟨e1, e2⟩ := d19_bad h hq hb1; rw [e1, e2]; try rfl)
  · skip
    refine run_sound hS (n := 7) (b := bm 25 [0, 4, 9]) (s' := ⟨.normal, [.code f19_3, .code f19_16, .stop R, .blk 0, .code f19_21], tl 25 [(0, (.one (.str (t)))), (4, (.one (.sl 0 0 ((x :: r).length)))), (9, (.one (.bool (decide (0 < (↑t.length : Int))))))], [(.blk 1 (R32 (x :: r)) true)]⟩) (c := []) (by kernel_rfl) ⟨⟩ ?_
    cases hb0 : decide (0 < (↑t.length : Int))
    · replace hb0 := of_decide_eq_false hb0; try simp only [List.length_map] at hb0
      refine run_sound hS (n := 12) (b := []) (s' := ⟨.ret, [], tl 25 [(0, (.one (.str (t)))), (2, (.one (.sl 0 0 ((x :: r).length)))), (3, (.one (.int .i64 0))), (4, (.one (.sl 0 0 ((x :: r).length)))), (9, (.one (.bool false))), (24, (.one (.sl 0 0 ((x :: r).length))))], [(.blk 1 (R32 (x :: r)) true)]⟩) (c := []) (by kernel_rfl) ⟨⟩ ?_
      refine SemS.done (.inl rfl) (abs_l (L1 := []) [] [0] 25 [(2, (.one (.vrow 1 (R32 (x :: r))))), (3, (.one (.int .i64 0)))] (by kernel_rfl) ⟨⟨_, _, rfl, by first | rfl | simp [elsClosed, Lf.closed]⟩, ⟨⟩⟩ ⟨⟩ ⟨.one (.row0 (by simp) rfl (by first | rfl | (simp <;> omega)) rfl), .eq1 rfl rfl, ⟨⟩⟩) (v := (.tup [(.one (.vrow 1 (R32 (x :: r)))), (.one (.int .i64 0))])) (by kernel_rfl) ?_
      · show AV.tup [.one (.vrow 1 _), .one (.int .i64 _)] = AV.tup [.one (.vrow 1 (R32 (decR s))), .one (.int .i64 (decE s))]
        by_cases hq : t = []
        · subst hq
          first
            | (exfalso; revert hb0; simp; done)
            | (obtain ⟨e1, e2⟩ := d19_end h; rw [e1, e2]; try rfl)
        · first
            | (exfalso; apply hq; apply List.eq_nil_of_length_eq_zero; omega)
            | (obtain ⟨e1, e2⟩ := d19_bad h hq hb1; rw [e1, e2]; try rfl)
    · replace hb0 := of_decide_eq_true hb0; try simp only [List.length_map] at hb0
      refine run_sound hS (n := 6) (b := bm 25 [0, 4, 11]) (s' := ⟨.normal, [.ops f19_5 1, .code f19_14, .blk 1, .stop R, .blk 0, .code f19_21], tl 25 [(0, (.one (.str (t)))), (4, (.one (.sl 0 0 ((x :: r).length)))), (11, (.one (.str (t))))], [(.blk 1 (R32 (x :: r)) true)]⟩) (c := []) (by kernel_rfl) ⟨⟩ ?_
      refine SemS.callP hS hp46 rfl (by kernel_rfl) (by kernel_rfl) (vs := [(.one (.str (t)))]) (by kernel_rfl) (v := (.tup [(.one (.int .i32 ((fstR t).fst))), (.one (.int .i64 ((fstR t).snd)))])) (c := []) (c46 (t)) ⟨⟩ (T' := tl 25 [(0, (.one (.str (t)))), (4, (.one (.sl 0 0 ((x :: r).length)))), (11, (.one (.str (t)))), (12, (.tup [(.one (.int .i32 ((fstR t).fst))), (.one (.int .i64 ((fstR t).snd)))]))]) (by kernel_rfl) ?_
      refine run_sound hS (n := 12) (b := bm 25 [0, 4, 5, 6, 16]) (s' := ⟨.normal, [.code f19_9, .code f19_13, .blk 1, .stop R, .blk 0, .code f19_21], tl 25 [(0, (.one (.str (t)))), (4, (.one (.sl 0 0 ((x :: r).length)))), (5, (.one (.int .i32 ((fstR t).fst)))), (6, (.one (.int .i64 ((fstR t).snd)))), (16, (.one (.bool (decide ((fstR t).snd = 0)))))], [(.blk 1 (R32 (x :: r)) true)]⟩) (c := []) (by kernel_rfl) ⟨⟩ ?_
      cases hb1 : decide ((fstR t).snd = 0)
      · replace hb1 := of_decide_eq_false hb1; try simp only [List.length_map] at hb1
        refine run_sound hS (n := 7) (b := bm 25 [0, 6, 17, 19]) (s' := ⟨.normal, [.ops f19_11 3, .code (.reg f19_12), .blk 1, .stop R, .blk 0, .code f19_21], tl 25 [(0, (.one (.str (t)))), (6, (.one (.int .i64 ((fstR t).snd)))), (17, (.one (.sl 0 0 ((x :: r).length)))), (19, (.one (.sl 1 0 1)))], [(.blk 1 (R32 (x :: r)) true), (.blk 1 [[(.int .i32 ((fstR t).fst))]] true)]⟩) (c := []) (by kernel_rfl) ⟨⟩ ?_
        refine SemS.step hS rfl (by kernel_rfl) rfl (v := (.one (.sl 2 0 ((x :: r).length + 1)))) (L1 := [.dead, (.blk 1 [[(.int .i32 ((fstR t).fst))]] true), (.blk 1 (R32 (x :: r ++ [(fstR t).fst])) true)]) (app_map (b := 0) (s := 1) (bytes := 4) (n := ((x :: r).length)) (f := fun r => [Lf.int IntKind.i32 r]) (l := x :: r) (l2 := [(fstR t).fst]) (by kernel_rfl) (by kernel_rfl) (by kernel_rfl) (by simp) (by first | rfl | (simp <;> omega)) (by simp only [List.length_cons, List.length_nil] at hl2 ⊢; omega) (by kernel_rfl) (by kernel_rfl)) (T' := tl 25 [(0, (.one (.str (t)))), (6, (.one (.int .i64 ((fstR t).snd)))), (17, (.one (.sl 0 0 ((x :: r).length)))), (19, (.one (.sl 1 0 1))), (20, (.one (.sl 2 0 ((x :: r).length + 1))))]) (by kernel_rfl) ?_
        refine run_sound hS (n := 9) (b := []) (s' := ⟨.normal, [.stop R, .blk 0, .code f19_21], tl 25 [(0, (.one (.str (List.take (t.length - (fstR t).snd.toNat) (List.drop (fstR t).snd.toNat t))))), (4, (.one (.sl 2 0 ((x :: r).length + 1)))), (6, (.one (.int .i64 ((fstR t).snd)))), (17, (.one (.sl 0 0 ((x :: r).length)))), (19, (.one (.sl 1 0 1))), (20, (.one (.sl 2 0 ((x :: r).length + 1)))), (21, (.one (.str (t)))), (22, (.one (.int .i64 ((fstR t).snd)))), (23, (.one (.str (List.take (t.length - (fstR t).snd.toNat) (List.drop (fstR t).snd.toNat t)))))], [.dead, (.blk 1 [[(.int .i32 ((fstR t).fst))]] true), (.blk 1 (R32 (x :: r ++ [(fstR t).fst])) true)]⟩) (c := [(0 : Int) ≤ (fstR t).snd ∧ (fstR t).snd ≤ (↑t.length : Int) ∧ (↑t.length : Int) ≤ (↑t.length : Int)]) (by kernel_rfl) ⟨by omega, ⟨⟩⟩ ?_
        exact hR ⟨(t.drop (fstR t).2.toNat, x :: (r ++ [(fstR t).1])), d19_step (o := x :: r) h hb1, by have := hl; simp only [List.length_drop, List.length_append, List.length_cons, List.length_nil] at this ⊢; omega⟩ _ _ (by show (t.drop _).length < t.length; rw [List.length_drop]; omega) (abs_l [2] [] 25 [(0, .one (.str (t.drop (fstR t).2.toNat))), (4, .one (.sl 0 0 (x :: (r ++ [(fstR t).1])).length))] (by kernel_rfl) ⟨⟩ ⟨.eq rfl (by simp [elsClosed, Lf.closed]), ⟨⟩⟩ ⟨.str (List.take_of_length_le (by simp)).symm, .slB rfl rfl (by simp), ⟨⟩⟩)
      · replace hb1 := of_decide_eq_true hb1; try simp only [List.length_map] at hb1
        refine run_sound hS (n := 7) (b := []) (s' := ⟨.ret, [], tl 25 [(0, (.one (.str (t)))), (2, (.one .nils)), (3, (.one (.int .i64 3))), (4, (.one (.sl 0 0 ((x :: r).length)))), (5, (.one (.int .i32 ((fstR t).fst)))), (6, (.one (.int .i64 ((fstR t).snd)))), (16, (.one (.bool true)))], [(.blk 1 (R32 (x :: r)) true)]⟩) (c := []) (by kernel_rfl) ⟨⟩ ?_
        refine SemS.done (.inl rfl) (abs_l (L1 := []) [] [] 25 [(2, (.one (.vrow 1 []))), (3, (.one (.int .i64 3)))] (by kernel_rfl) ⟨⟩ ⟨⟩ ⟨.one .nil, .eq1 rfl rfl, ⟨⟩⟩) (v := (.tup [(.one (.vrow 1 [])), (.one (.int .i64 3))])) (by kernel_rfl) ?_
        · show AV.tup [.one (.vrow 1 _), .one (.int .i64 _)] = AV.tup [.one (.vrow 1 (R32 (decR s))), .one (.int .i64 (decE s))]
          by_cases hq : t = []
          · subst hq
            first
              | (exfalso; revert hb0; simp; done)
              | (obtain ⟨e1, e2⟩ := d19_end h; rw [e1, e2]; try rfl)
          · first
              | (exfalso; apply hq; apply List.eq_nil_of_length_eq_zero; omega)
              | (obtain ⟨e1, e2⟩ := d19_bad h hq hb1; rw [e1, e2]; try rfl)
theorem p20 (hS : S.Good X) (hp17 : X.pr 17 = some (pureP g17)) (h20 : S.has 20 f20) : PrOk S 20 (pureP g20) := by
  refine pure_rel 20 fun s hc => ⟨rfl, rfl, ?_⟩
  have hc1 : s.length ≤ 1099511627776 := hc.1
  refine MF.run hS h20 ([.one (.str s)] ++ List.replicate (f20.nt - f20.np) und) rfl rfl ?_
  refine run_sound hS (n := 8) (b := bm 24 [7]) (s' := ⟨.normal, [.ops f20_1 1, .code f20_20], tl 24 [(7, (.one (.str (s))))], []⟩) (c := []) (by kernel_rfl) ⟨⟩ ?_
  refine SemS.callP hS hp17 rfl (by kernel_rfl) (by kernel_rfl) (vs := [(.one (.str (s)))]) (by kernel_rfl) (v := (.tup [(.one (.vrow 1 (R32 (decR s)))), (.one (.int .i64 (decE s)))])) (c := [s.length ≤ (1099511627776 : Nat)]) (c17 (s)) ⟨by omega, ⟨⟩⟩ (T' := tl 24 [(7, (.one (.str (s)))), (8, (.tup [(.one (.vrow 1 (R32 (decR s)))), (.one (.int .i64 (decE s)))]))]) (by kernel_rfl) ?_
  refine run_sound hS (n := 14) (b := bm 24 [4, 5, 11]) (s' := ⟨.normal, [.code f20_15, .blk 0, .code f20_19], tl 24 [(4, (.one (.vrow 1 (R32 (decR s))))), (5, (.one (.int .i64 (decE s)))), (11, (.one (.bool (decide (decE s ≠ 0)))))], []⟩) (c := []) (by kernel_rfl) ⟨⟩ ?_
  cases hb0 : decide (decE s ≠ 0)
  · replace hb0 := of_decide_eq_false hb0; try simp only [List.length_map] at hb0
    refine run_sound hS (n := 8) (b := bm 24 [4, 15]) (s' := ⟨.normal, [.code f20_13, .blk 0, .code f20_19], tl 24 [(4, (.one (.vrow 1 (R32 (decR s))))), (15, (.one (.bool (decide ((↑(R32 (decR s)).length : Int) = 0)))))], []⟩) (c := []) (by kernel_rfl) ⟨⟩ ?_
    cases hb1 : decide ((↑(R32 (decR s)).length : Int) = 0)
    · replace hb1 := of_decide_eq_false hb1; try simp only [List.length_map] at hb1
      refine run_sound hS (n := 8) (b := bm 24 [4, 19]) (s' := ⟨.normal, [.code f20_11, .blk 0, .code f20_19], tl 24 [(4, (.one (.vrow 1 (R32 (decR s))))), (19, (.one (.bool (decide (64 < (↑(R32 (decR s)).length : Int))))))], []⟩) (c := []) (by kernel_rfl) ⟨⟩ ?_
      cases hb2 : decide (64 < (↑(R32 (decR s)).length : Int))
      · replace hb2 := of_decide_eq_false hb2; try simp only [List.length_map] at hb2
        refine run_sound hS (n := 10) (b := []) (s' := ⟨.ret, [], tl 24 [(2, (.one (.vrow 1 (R32 (decR s))))), (3, (.one (.int .i64 0))), (4, (.one (.vrow 1 (R32 (decR s))))), (19, (.one (.bool false))), (23, (.one (.vrow 1 (R32 (decR s)))))], []⟩) (c := []) (by kernel_rfl) ⟨⟩ ?_
        refine SemS.done (.inl rfl) Abs.refl (v := (.tup [(.one (.vrow 1 (R32 (decR s)))), (.one (.int .i64 0))])) (by kernel_rfl) ?_
        · first
            | (show AV.tup [.one (.vrow 1 _), .one (.int .i64 _)] = AV.tup [.one (.vrow 1 (R32 (tokR s))), .one (.int .i64 (tokE s))]; rw [(tok_u (s := s) (by omega)).1, (tok_u (s := s) (by omega)).2]; try rfl)
            | (show AV.tup [.one (.vrow 1 _), .one (.int .i64 _)] = AV.tup [.one (.vrow 1 (R32 (tokR s))), .one (.int .i64 (tokE s))]; rw [(tok_e (s := s) (by omega) (by omega)).1, (tok_e (s := s) (by omega) (by omega)).2]; try rfl)
            | (show AV.tup [.one (.vrow 1 _), .one (.int .i64 _)] = AV.tup [.one (.vrow 1 (R32 (tokR s))), .one (.int .i64 (tokE s))]; rw [(tok_l (s := s) (by omega) (by omega)).1, (tok_l (s := s) (by omega) (by omega)).2]; try rfl)
            | (show AV.tup [.one (.vrow 1 _), .one (.int .i64 _)] = AV.tup [.one (.vrow 1 (R32 (tokR s))), .one (.int .i64 (tokE s))]; rw [(tok_k (s := s) (by omega) (by omega) (by omega)).1, (tok_k (s := s) (by omega) (by omega) (by omega)).2]; try rfl)
      · replace hb2 := of_decide_eq_true hb2; try simp only [List.length_map] at hb2
        refine run_sound hS (n := 7) (b := []) (s' := ⟨.ret, [], tl 24 [(2, (.one .nils)), (3, (.one (.int .i64 5))), (4, (.one (.vrow 1 (R32 (decR s))))), (19, (.one (.bool true)))], []⟩) (c := []) (by kernel_rfl) ⟨⟩ ?_
        refine SemS.done (.inl rfl) (abs_l (L1 := []) [] [] 24 [(2, (.one (.vrow 1 []))), (3, (.one (.int .i64 5)))] (by kernel_rfl) ⟨⟩ ⟨⟩ ⟨.one .nil, .eq1 rfl rfl, ⟨⟩⟩) (v := (.tup [(.one (.vrow 1 [])), (.one (.int .i64 5))])) (by kernel_rfl) ?_
        · first
            | (show AV.tup [.one (.vrow 1 _), .one (.int .i64 _)] = AV.tup [.one (.vrow 1 (R32 (tokR s))), .one (.int .i64 (tokE s))]; rw [(tok_u (s := s) (by omega)).1, (tok_u (s := s) (by omega)).2]; try rfl)
            | (show AV.tup [.one (.vrow 1 _), .one (.int .i64 _)] = AV.tup [.one (.vrow 1 (R32 (tokR s))), .one (.int .i64 (tokE s))]; rw [(tok_e (s := s) (by omega) (by omega)).1, (tok_e (s := s) (by omega) (by omega)).2]; try rfl)
            | (show AV.tup [.one (.vrow 1 _), .one (.int .i64 _)] = AV.tup [.one (.vrow 1 (R32 (tokR s))), .one (.int .i64 (tokE s))]; rw [(tok_l (s := s) (by omega) (by omega)).1, (tok_l (s := s) (by omega) (by omega)).2]; try rfl)
            | (show AV.tup [.one (.vrow 1 _), .one (.int .i64 _)] = AV.tup [.one (.vrow 1 (R32 (tokR s))), .one (.int .i64 (tokE s))]; rw [(tok_k (s := s) (by omega) (by omega) (by omega)).1, (tok_k (s := s) (by omega) (by omega) (by omega)).2]; try rfl)
    · replace hb1 := of_decide_eq_true hb1; try simp only [List.length_map] at hb1
      refine run_sound hS (n := 7) (b := []) (s' := ⟨.ret, [], tl 24 [(2, (.one .nils)), (3, (.one (.int .i64 4))), (4, (.one (.vrow 1 (R32 (decR s))))), (15, (.one (.bool true)))], []⟩) (c := []) (by kernel_rfl) ⟨⟩ ?_
      refine SemS.done (.inl rfl) (abs_l (L1 := []) [] [] 24 [(2, (.one (.vrow 1 []))), (3, (.one (.int .i64 4)))] (by kernel_rfl) ⟨⟩ ⟨⟩ ⟨.one .nil, .eq1 rfl rfl, ⟨⟩⟩) (v := (.tup [(.one (.vrow 1 [])), (.one (.int .i64 4))])) (by kernel_rfl) ?_
      · first
          | (show AV.tup [.one (.vrow 1 _), .one (.int .i64 _)] = AV.tup [.one (.vrow 1 (R32 (tokR s))), .one (.int .i64 (tokE s))]; rw [(tok_u (s := s) (by omega)).1, (tok_u (s := s) (by omega)).2]; try rfl)
          | (show AV.tup [.one (.vrow 1 _), .one (.int .i64 _)] = AV.tup [.one (.vrow 1 (R32 (tokR s))), .one (.int .i64 (tokE s))]; rw [(tok_e (s := s) (by omega) (by omega)).1, (tok_e (s := s) (by omega) (by omega)).2]; try rfl)
          | (show AV.tup [.one (.vrow 1 _), .one (.int .i64 _)] = AV.tup [.one (.vrow 1 (R32 (tokR s))), .one (.int .i64 (tokE s))]; rw [(tok_l (s := s) (by omega) (by omega)).1, (tok_l (s := s) (by omega) (by omega)).2]; try rfl)
          | (show AV.tup [.one (.vrow 1 _), .one (.int .i64 _)] = AV.tup [.one (.vrow 1 (R32 (tokR s))), .one (.int .i64 (tokE s))]; rw [(tok_k (s := s) (by omega) (by omega) (by omega)).1, (tok_k (s := s) (by omega) (by omega) (by omega)).2]; try rfl)
  · replace hb0 := of_decide_eq_true hb0; try simp only [List.length_map] at hb0
    refine run_sound hS (n := 8) (b := []) (s' := ⟨.ret, [], tl 24 [(2, (.one .nils)), (3, (.one (.int .i64 (decE s)))), (4, (.one (.vrow 1 (R32 (decR s))))), (5, (.one (.int .i64 (decE s)))), (11, (.one (.bool true))), (14, (.one (.int .i64 (decE s))))], []⟩) (c := []) (by kernel_rfl) ⟨⟩ ?_
    refine SemS.done (.inl rfl) (abs_l (L1 := []) [] [] 24 [(2, (.one (.vrow 1 []))), (3, (.one (.int .i64 (decE s))))] (by kernel_rfl) ⟨⟩ ⟨⟩ ⟨.one .nil, .eq1 rfl rfl, ⟨⟩⟩) (v := (.tup [(.one (.vrow 1 [])), (.one (.int .i64 (decE s)))])) (by kernel_rfl) ?_
    · first
        | (show AV.tup [.one (.vrow 1 _), .one (.int .i64 _)] = AV.tup [.one (.vrow 1 (R32 (tokR s))), .one (.int .i64 (tokE s))]; rw [(tok_u (s := s) (by omega)).1, (tok_u (s := s) (by omega)).2]; try rfl)
        | (show AV.tup [.one (.vrow 1 _), .one (.int .i64 _)] = AV.tup [.one (.vrow 1 (R32 (tokR s))), .one (.int .i64 (tokE s))]; rw [(tok_e (s := s) (by omega) (by omega)).1, (tok_e (s := s) (by omega) (by omega)).2]; try rfl)
        | (show AV.tup [.one (.vrow 1 _), .one (.int .i64 _)] = AV.tup [.one (.vrow 1 (R32 (tokR s))), .one (.int .i64 (tokE s))]; rw [(tok_l (s := s) (by omega) (by omega)).1, (tok_l (s := s) (by omega) (by omega)).2]; try rfl)
        | (show AV.tup [.one (.vrow 1 _), .one (.int .i64 _)] = AV.tup [.one (.vrow 1 (R32 (tokR s))), .one (.int .i64 (tokE s))]; rw [(tok_k (s := s) (by omega) (by omega) (by omega)).1, (tok_k (s := s) (by omega) (by omega) (by omega)).2]; try rfl)
theorem p21 (hS : S.Good X) (hp19 : X.pr 19 = some (pureP g19)) (h21 : S.has 21 f21) : PrOk S 21 (pureP g21) := by
  refine pure_rel 21 fun s hc => ⟨rfl, rfl, ?_⟩
  have hc1 : s.length ≤ 1099511627776 := hc.1
  refine MF.run hS h21 ([.one (.str s)] ++ List.replicate (f21.nt - f21.np) und) rfl rfl ?_
  refine run_sound hS (n := 8) (b := bm 21 [7]) (s' := ⟨.normal, [.ops f21_1 1, .code f21_21], tl 21 [(7, (.one (.str (s))))], []⟩) (c := []) (by kernel_rfl) ⟨⟩ ?_
  refine SemS.callP hS hp19 rfl (by kernel_rfl) (by kernel_rfl) (vs := [(.one (.str (s)))]) (by kernel_rfl) (v := (.tup [(.one (.vrow 1 (R32 (decR s)))), (.one (.int .i64 (decE s)))])) (c := [s.length ≤ (1099511627776 : Nat)]) (c19 (s)) ⟨by omega, ⟨⟩⟩ (T' := tl 21 [(7, (.one (.str (s)))), (8, (.tup [(.one (.vrow 1 (R32 (decR s)))), (.one (.int .i64 (decE s)))]))]) (by kernel_rfl) ?_
  refine run_sound hS (n := 12) (b := bm 21 [4, 5, 12]) (s' := ⟨.normal, [.code f21_5, .code f21_20], tl 21 [(4, (.one (.vrow 1 (R32 (decR s))))), (5, (.one (.int .i64 (decE s)))), (12, (.one (.bool (decide (decE s ≠ 0)))))], []⟩) (c := []) (by kernel_rfl) ⟨⟩ ?_
  cases hb0 : decide (decE s ≠ 0)
  · replace hb0 := of_decide_eq_false hb0; try simp only [List.length_map] at hb0
    refine run_sound hS (n := 9) (b := bm 21 [4, 16]) (s' := ⟨.normal, [.code f21_10, .code f21_19], tl 21 [(4, (.one (.vrow 1 (R32 (decR s))))), (16, (.one (.bool (decide ((↑(R32 (decR s)).length : Int) = 0)))))], []⟩) (c := []) (by kernel_rfl) ⟨⟩ ?_
    cases hb1 : decide ((↑(R32 (decR s)).length : Int) = 0)
    · replace hb1 := of_decide_eq_false hb1; try simp only [List.length_map] at hb1
      refine run_sound hS (n := 9) (b := bm 21 [4, 19]) (s' := ⟨.normal, [.code f21_15, .code f21_18], tl 21 [(4, (.one (.vrow 1 (R32 (decR s))))), (19, (.one (.bool (decide (64 < (↑(R32 (decR s)).length : Int))))))], []⟩) (c := []) (by kernel_rfl) ⟨⟩ ?_
      cases hb2 : decide (64 < (↑(R32 (decR s)).length : Int))
      · replace hb2 := of_decide_eq_false hb2; try simp only [List.length_map] at hb2
        refine run_sound hS (n := 9) (b := []) (s' := ⟨.ret, [], tl 21 [(2, (.one (.vrow 1 (R32 (decR s))))), (3, (.one (.int .i64 0))), (4, (.one (.vrow 1 (R32 (decR s))))), (19, (.one (.bool false))), (20, (.one (.vrow 1 (R32 (decR s)))))], []⟩) (c := []) (by kernel_rfl) ⟨⟩ ?_
        refine SemS.done (.inl rfl) Abs.refl (v := (.tup [(.one (.vrow 1 (R32 (decR s)))), (.one (.int .i64 0))])) (by kernel_rfl) ?_
        · first
            | (show AV.tup [.one (.vrow 1 _), .one (.int .i64 _)] = AV.tup [.one (.vrow 1 (R32 (tokR s))), .one (.int .i64 (tokE s))]; rw [(tok_u (s := s) (by omega)).1, (tok_u (s := s) (by omega)).2]; try rfl)
            | (show AV.tup [.one (.vrow 1 _), .one (.int .i64 _)] = AV.tup [.one (.vrow 1 (R32 (tokR s))), .one (.int .i64 (tokE s))]; rw [(tok_e (s := s) (by omega) (by omega)).1, (tok_e (s := s) (by omega) (by omega)).2]; try rfl)
            | (show AV.tup [.one (.vrow 1 _), .one (.int .i64 _)] = AV.tup [.one (.vrow 1 (R32 (tokR s))), .one (.int .i64 (tokE s))]; rw [(tok_l (s := s) (by omega) (by omega)).1, (tok_l (s := s) (by omega) (by omega)).2]; try rfl)
            | (show AV.tup [.one (.vrow 1 _), .one (.int .i64 _)] = AV.tup [.one (.vrow 1 (R32 (tokR s))), .one (.int .i64 (tokE s))]; rw [(tok_k (s := s) (by omega) (by omega) (by omega)).1, (tok_k (s := s) (by omega) (by omega) (by omega)).2]; try rfl)
      · replace hb2 := of_decide_eq_true hb2; try simp only [List.length_map] at hb2
        refine run_sound hS (n := 7) (b := []) (s' := ⟨.ret, [], tl 21 [(2, (.one .nils)), (3, (.one (.int .i64 5))), (4, (.one (.vrow 1 (R32 (decR s))))), (19, (.one (.bool true)))], []⟩) (c := []) (by kernel_rfl) ⟨⟩ ?_
        refine SemS.done (.inl rfl) (abs_l (L1 := []) [] [] 21 [(2, (.one (.vrow 1 []))), (3, (.one (.int .i64 5)))] (by kernel_rfl) ⟨⟩ ⟨⟩ ⟨.one .nil, .eq1 rfl rfl, ⟨⟩⟩) (v := (.tup [(.one (.vrow 1 [])), (.one (.int .i64 5))])) (by kernel_rfl) ?_
        · first
            | (show AV.tup [.one (.vrow 1 _), .one (.int .i64 _)] = AV.tup [.one (.vrow 1 (R32 (tokR s))), .one (.int .i64 (tokE s))]; rw [(tok_u (s := s) (by omega)).1, (tok_u (s := s) (by omega)).2]; try rfl)
            | (show AV.tup [.one (.vrow 1 _), .one (.int .i64 _)] = AV.tup [.one (.vrow 1 (R32 (tokR s))), .one (.int .i64 (tokE s))]; rw [(tok_e (s := s) (by omega) (by omega)).1, (tok_e (s := s) (by omega) (by omega)).2]; try rfl)
            | (show AV.tup [.one (.vrow 1 _), .one (.int .i64 _)] = AV.tup [.one (.vrow 1 (R32 (tokR s))), .one (.int .i64 (tokE s))]; rw [(tok_l (s := s) (by omega) (by omega)).1, (tok_l (s := s) (by omega) (by omega)).2]; try rfl)
            | (show AV.tup [.one (.vrow 1 _), .one (.int .i64 _)] = AV.tup [.one (.vrow 1 (R32 (tokR s))), .one (.int .i64 (tokE s))]; rw [(tok_k (s := s) (by omega) (by omega) (by omega)).1, (tok_k (s := s) (by omega) (by omega) (by omega)).2]; try rfl)
    · replace hb1 := of_decide_eq_true hb1; try simp only [List.length_map] at hb1
      refine run_sound hS (n := 7) (b := []) (s' := ⟨.ret, [], tl 21 [(2, (.one .nils)), (3, (.one (.int .i64 4))), (4, (.one (.vrow 1 (R32 (decR s))))), (16, (.one (.bool true)))], []⟩) (c := []) (by kernel_rfl) ⟨⟩ ?_
      refine SemS.done (.inl rfl) (abs_l (L1 := []) [] [] 21 [(2, (.one (.vrow 1 []))), (3, (.one (.int .i64 4)))] (by kernel_rfl) ⟨⟩ ⟨⟩ ⟨.one .nil, .eq1 rfl rfl, ⟨⟩⟩) (v := (.tup [(.one (.vrow 1 [])), (.one (.int .i64 4))])) (by kernel_rfl) ?_
      · first
          | (show AV.tup [.one (.vrow 1 _), .one (.int .i64 _)] = AV.tup [.one (.vrow 1 (R32 (tokR s))), .one (.int .i64 (tokE s))]; rw [(tok_u (s := s) (by omega)).1, (tok_u (s := s) (by omega)).2]; try rfl)
          | (show AV.tup [.one (.vrow 1 _), .one (.int .i64 _)] = AV.tup [.one (.vrow 1 (R32 (tokR s))), .one (.int .i64 (tokE s))]; rw [(tok_e (s := s) (by omega) (by omega)).1, (tok_e (s := s) (by omega) (by omega)).2]; try rfl)
          | (show AV.tup [.one (.vrow 1 _), .one (.int .i64 _)] = AV.tup [.one (.vrow 1 (R32 (tokR s))), .one (.int .i64 (tokE s))]; rw [(tok_l (s := s) (by omega) (by omega)).1, (tok_l (s := s) (by omega) (by omega)).2]; try rfl)
          | (show AV.tup [.one (.vrow 1 _), .one (.int .i64 _)] = AV.tup [.one (.vrow 1 (R32 (tokR s))), .one (.int .i64 (tokE s))]; rw [(tok_k (s := s) (by omega) (by omega) (by omega)).1, (tok_k (s := s) (by omega) (by omega) (by omega)).2]; try rfl)
  · replace hb0 := of_decide_eq_true hb0; try simp only [List.length_map] at hb0
    refine run_sound hS (n := 8) (b := []) (s' := ⟨.ret, [], tl 21 [(2, (.one .nils)), (3, (.one (.int .i64 (decE s)))), (4, (.one (.vrow 1 (R32 (decR s))))), (5, (.one (.int .i64 (decE s)))), (12, (.one (.bool true))), (13, (.one (.int .i64 (decE s))))], []⟩) (c := []) (by kernel_rfl) ⟨⟩ ?_
    refine SemS.done (.inl rfl) (abs_l (L1 := []) [] [] 21 [(2, (.one (.vrow 1 []))), (3, (.one (.int .i64 (decE s))))] (by kernel_rfl) ⟨⟩ ⟨⟩ ⟨.one .nil, .eq1 rfl rfl, ⟨⟩⟩) (v := (.tup [(.one (.vrow 1 [])), (.one (.int .i64 (decE s)))])) (by kernel_rfl) ?_
    · first
        | (show AV.tup [.one (.vrow 1 _), .one (.int .i64 _)] = AV.tup [.one (.vrow 1 (R32 (tokR s))), .one (.int .i64 (tokE s))]; rw [(tok_u (s := s) (by omega)).1, (tok_u (s := s) (by omega)).2]; try rfl)
        | (show AV.tup [.one (.vrow 1 _), .one (.int .i64 _)] = AV.tup [.one (.vrow 1 (R32 (tokR s))), .one (.int .i64 (tokE s))]; rw [(tok_e (s := s) (by omega) (by omega)).1, (tok_e (s := s) (by omega) (by omega)).2]; try rfl)
        | (show AV.tup [.one (.vrow 1 _), .one (.int .i64 _)] = AV.tup [.one (.vrow 1 (R32 (tokR s))), .one (.int .i64 (tokE s))]; rw [(tok_l (s := s) (by omega) (by omega)).1, (tok_l (s := s) (by omega) (by omega)).2]; try rfl)
        | (show AV.tup [.one (.vrow 1 _), .one (.int .i64 _)] = AV.tup [.one (.vrow 1 (R32 (tokR s))), .one (.int .i64 (tokE s))]; rw [(tok_k (s := s) (by omega) (by omega) (by omega)).1, (tok_k (s := s) (by omega) (by omega) (by omega)).2]; try rfl)
theorem p36 (hS : S.Good X) (hp57 : X.pr 57 = some (pureP g57)) (h36 : S.has 36 f36) : PrOk S 36 (pureP g36) := by
  refine pure_rel 36 fun r hc => ⟨rfl, rfl, ?_⟩
  have hv1 : 65 ≤ r → r ≤ 122 → Utf8.valid r = true := fun a b => valid_iff.2 (by omega)
  refine MF.run hS h36 ([.one (.int .i32 r)] ++ List.replicate (f36.nt - f36.np) und) rfl rfl ?_
  refine run_sound hS (n := 10) (b := bm 40 [0, 5]) (s' := ⟨.normal, [.ops f36_1 3, .code f36_4, .code f36_7], tl 40 [(0, (.one (.int .i32 (r)))), (5, (.one (.bool (decide (65 ≤ r)))))], []⟩) (c := []) (by kernel_rfl) ⟨⟩ ?_
  cases hb0 : decide (65 ≤ r)
  · replace hb0 := of_decide_eq_false hb0; try simp only [List.length_map] at hb0
    refine run_sound hS (n := 7) (b := bm 40 [0, 9, 12]) (s' := ⟨.normal, [.ops f36_1 10, .code f36_4, .code f36_7], tl 40 [(0, (.one (.int .i32 (r)))), (9, (.one (.bool false))), (12, (.one (.bool (decide (97 ≤ r)))))], []⟩) (c := []) (by kernel_rfl) ⟨⟩ ?_
    cases hb1 : decide (97 ≤ r)
    · replace hb1 := of_decide_eq_false hb1; try simp only [List.length_map] at hb1
      refine run_sound hS (n := 10) (b := bm 40 [0, 17]) (s' := ⟨.normal, [.ops f36_6 1, .code .ret], tl 40 [(0, (.one (.int .i32 (r)))), (17, (.one (.int .i32 (r))))], []⟩) (c := []) (by kernel_rfl) ⟨⟩ ?_
      refine SemS.callP hS hp57 rfl (by kernel_rfl) (by kernel_rfl) (vs := [(.one (.int .i32 (r)))]) (by kernel_rfl) (v := (.one (.bool (Utf8.valid r)))) (c := []) (c57 (r)) ⟨⟩ (T' := tl 40 [(0, (.one (.int .i32 (r)))), (17, (.one (.int .i32 (r)))), (18, (.one (.bool (Utf8.valid r))))]) (by kernel_rfl) ?_
      refine run_sound hS (n := 1) (b := bm 40 [0, 19]) (s' := ⟨.normal, [.ops f36_6 3, .code .ret], tl 40 [(0, (.one (.int .i32 (r)))), (19, (.one (.bool (Utf8.valid r))))], []⟩) (c := []) (by kernel_rfl) ⟨⟩ ?_
      cases hb2 : Utf8.valid r
      · skip
        refine run_sound hS (n := 23) (b := []) (s' := ⟨.ret, [], tl 40 [(0, (.one (.int .i32 (r)))), (2, (.one (.bool false))), (19, (.one (.bool false))), (20, und), (21, und), (22, (.one (.bool false))), (23, (.one (.bool false))), (24, und), (25, und), (26, (.one (.bool false))), (27, (.one (.bool false))), (28, und), (29, und), (30, (.one (.bool false))), (31, (.one (.bool false))), (32, und), (33, und), (34, und), (35, und), (36, und), (37, und), (38, und), (39, (.one (.bool false)))], []⟩) (c := []) (by kernel_rfl) ⟨⟩ ?_
        refine SemS.done (.inl rfl) Abs.refl (v := (.one (.bool false))) (by kernel_rfl) ?_
        · show AV.one (.bool _) = AV.one (.bool (letterB r))
          congr 2; unfold letterB; rw [Bool.eq_iff_iff]
          first
            | (rw [hv1 (by omega) (by omega)]; simp; omega)
            | (simp [*] <;> omega)
      · skip
        refine run_sound hS (n := 4) (b := bm 40 [0, 23]) (s' := ⟨.normal, [.ops f36_6 7, .code .ret], tl 40 [(0, (.one (.int .i32 (r)))), (23, (.one (.bool (decide (192 ≤ r)))))], []⟩) (c := []) (by kernel_rfl) ⟨⟩ ?_
        cases hb3 : decide (192 ≤ r)
        · replace hb3 := of_decide_eq_false hb3; try simp only [List.length_map] at hb3
          refine run_sound hS (n := 19) (b := []) (s' := ⟨.ret, [], tl 40 [(0, (.one (.int .i32 (r)))), (2, (.one (.bool false))), (23, (.one (.bool false))), (24, und), (25, und), (26, (.one (.bool false))), (27, (.one (.bool false))), (28, und), (29, und), (30, (.one (.bool false))), (31, (.one (.bool false))), (32, und), (33, und), (34, und), (35, und), (36, und), (37, und), (38, und), (39, (.one (.bool false)))], []⟩) (c := []) (by kernel_rfl) ⟨⟩ ?_
          refine SemS.done (.inl rfl) Abs.refl (v := (.one (.bool false))) (by kernel_rfl) ?_
          · show AV.one (.bool _) = AV.one (.bool (letterB r))
            congr 2; unfold letterB; rw [Bool.eq_iff_iff]
            first
              | (rw [hv1 (by omega) (by omega)]; simp; omega)
              | (simp [*] <;> omega)
        · replace hb3 := of_decide_eq_true hb3; try simp only [List.length_map] at hb3
          refine run_sound hS (n := 4) (b := bm 40 [0, 27]) (s' := ⟨.normal, [.ops f36_6 11, .code .ret], tl 40 [(0, (.one (.int .i32 (r)))), (27, (.one (.bool (decide (r ≠ 215)))))], []⟩) (c := []) (by kernel_rfl) ⟨⟩ ?_
          cases hb4 : decide (r ≠ 215)
          · replace hb4 := of_decide_eq_false hb4; try simp only [List.length_map] at hb4
            refine run_sound hS (n := 15) (b := []) (s' := ⟨.ret, [], tl 40 [(0, (.one (.int .i32 (r)))), (2, (.one (.bool false))), (27, (.one (.bool false))), (28, und), (29, und), (30, (.one (.bool false))), (31, (.one (.bool false))), (32, und), (33, und), (34, und), (35, und), (36, und), (37, und), (38, und), (39, (.one (.bool false)))], []⟩) (c := []) (by kernel_rfl) ⟨⟩ ?_
            refine SemS.done (.inl rfl) Abs.refl (v := (.one (.bool false))) (by kernel_rfl) ?_
            · show AV.one (.bool _) = AV.one (.bool (letterB r))
              congr 2; unfold letterB; rw [Bool.eq_iff_iff]
              first
                | (rw [hv1 (by omega) (by omega)]; simp; omega)
                | (simp [*] <;> omega)
          · replace hb4 := of_decide_eq_true hb4; try simp only [List.length_map] at hb4
            refine run_sound hS (n := 4) (b := bm 40 [0, 31]) (s' := ⟨.normal, [.ops f36_6 15, .code .ret], tl 40 [(0, (.one (.int .i32 (r)))), (31, (.one (.bool (decide (r ≠ 247)))))], []⟩) (c := []) (by kernel_rfl) ⟨⟩ ?_
            cases hb5 : decide (r ≠ 247)
            · replace hb5 := of_decide_eq_false hb5; try simp only [List.length_map] at hb5
              refine run_sound hS (n := 11) (b := []) (s' := ⟨.ret, [], tl 40 [(0, (.one (.int .i32 (r)))), (2, (.one (.bool false))), (31, (.one (.bool false))), (32, und), (33, und), (34, und), (35, und), (36, und), (37, und), (38, und), (39, (.one (.bool false)))], []⟩) (c := []) (by kernel_rfl) ⟨⟩ ?_
              refine SemS.done (.inl rfl) Abs.refl (v := (.one (.bool false))) (by kernel_rfl) ?_
              · show AV.one (.bool _) = AV.one (.bool (letterB r))
                congr 2; unfold letterB; rw [Bool.eq_iff_iff]
                first
                  | (rw [hv1 (by omega) (by omega)]; simp; omega)
                  | (simp [*] <;> omega)
            · replace hb5 := of_decide_eq_true hb5; try simp only [List.length_map] at hb5
              refine run_sound hS (n := 3) (b := bm 40 [0, 31, 34]) (s' := ⟨.normal, [.ops f36_6 18, .code .ret], tl 40 [(0, (.one (.int .i32 (r)))), (31, (.one (.bool true))), (34, (.one (.bool (decide (8192 ≤ r)))))], []⟩) (c := []) (by kernel_rfl) ⟨⟩ ?_
              cases hb6 : decide (8192 ≤ r)
              · replace hb6 := of_decide_eq_false hb6; try simp only [List.length_map] at hb6
                refine run_sound hS (n := 8) (b := []) (s' := ⟨.ret, [], tl 40 [(0, (.one (.int .i32 (r)))), (2, (.one (.bool true))), (31, (.one (.bool true))), (34, (.one (.bool false))), (35, und), (36, und), (37, (.one (.bool false))), (38, (.one (.bool true))), (39, (.one (.bool true)))], []⟩) (c := []) (by kernel_rfl) ⟨⟩ ?_
                refine SemS.done (.inl rfl) Abs.refl (v := (.one (.bool true))) (by kernel_rfl) ?_
                · show AV.one (.bool _) = AV.one (.bool (letterB r))
                  congr 2; unfold letterB; rw [Bool.eq_iff_iff]
                  first
                    | (rw [hv1 (by omega) (by omega)]; simp; omega)
                    | (simp [*] <;> omega)
              · replace hb6 := of_decide_eq_true hb6; try simp only [List.length_map] at hb6
                refine run_sound hS (n := 8) (b := []) (s' := ⟨.ret, [], tl 40 [(0, (.one (.int .i32 (r)))), (2, (.one (.bool (!decide (r ≤ 8303))))), (31, (.one (.bool true))), (34, (.one (.bool true))), (35, (.one (.int .i32 (r)))), (36, (.one (.bool (decide (r ≤ 8303))))), (37, (.one (.bool (decide (r ≤ 8303))))), (38, (.one (.bool (!decide (r ≤ 8303))))), (39, (.one (.bool (!decide (r ≤ 8303)))))], []⟩) (c := []) (by kernel_rfl) ⟨⟩ ?_
                refine SemS.done (.inl rfl) Abs.refl (v := (.one (.bool (!decide (r ≤ 8303))))) (by kernel_rfl) ?_
                · show AV.one (.bool _) = AV.one (.bool (letterB r))
                  congr 2; unfold letterB; rw [Bool.eq_iff_iff]
                  first
                    | (rw [hv1 (by omega) (by omega)]; simp; omega)
                    | (simp [*] <;> omega)
    · replace hb1 := of_decide_eq_true hb1; try simp only [List.length_map] at hb1
      refine run_sound hS (n := 5) (b := bm 40 [0, 16]) (s' := ⟨.normal, [.code f36_4, .code f36_7], tl 40 [(0, (.one (.int .i32 (r)))), (16, (.one (.bool (decide (r ≤ 122)))))], []⟩) (c := []) (by kernel_rfl) ⟨⟩ ?_
      cases hb2 : decide (r ≤ 122)
      · replace hb2 := of_decide_eq_false hb2; try simp only [List.length_map] at hb2
        refine run_sound hS (n := 5) (b := bm 40 [0, 17]) (s' := ⟨.normal, [.ops f36_6 1, .code .ret], tl 40 [(0, (.one (.int .i32 (r)))), (17, (.one (.int .i32 (r))))], []⟩) (c := []) (by kernel_rfl) ⟨⟩ ?_
        refine SemS.callP hS hp57 rfl (by kernel_rfl) (by kernel_rfl) (vs := [(.one (.int .i32 (r)))]) (by kernel_rfl) (v := (.one (.bool (Utf8.valid r)))) (c := []) (c57 (r)) ⟨⟩ (T' := tl 40 [(0, (.one (.int .i32 (r)))), (17, (.one (.int .i32 (r)))), (18, (.one (.bool (Utf8.valid r))))]) (by kernel_rfl) ?_
        refine run_sound hS (n := 1) (b := bm 40 [0, 19]) (s' := ⟨.normal, [.ops f36_6 3, .code .ret], tl 40 [(0, (.one (.int .i32 (r)))), (19, (.one (.bool (Utf8.valid r))))], []⟩) (c := []) (by kernel_rfl) ⟨⟩ ?_
        cases hb3 : Utf8.valid r
        · skip
          refine run_sound hS (n := 23) (b := []) (s' := ⟨.ret, [], tl 40 [(0, (.one (.int .i32 (r)))), (2, (.one (.bool false))), (19, (.one (.bool false))), (20, und), (21, und), (22, (.one (.bool false))), (23, (.one (.bool false))), (24, und), (25, und), (26, (.one (.bool false))), (27, (.one (.bool false))), (28, und), (29, und), (30, (.one (.bool false))), (31, (.one (.bool false))), (32, und), (33, und), (34, und), (35, und), (36, und), (37, und), (38, und), (39, (.one (.bool false)))], []⟩) (c := []) (by kernel_rfl) ⟨⟩ ?_
          refine SemS.done (.inl rfl) Abs.refl (v := (.one (.bool false))) (by kernel_rfl) ?_
          · show AV.one (.bool _) = AV.one (.bool (letterB r))
            congr 2; unfold letterB; rw [Bool.eq_iff_iff]
            first
              | (rw [hv1 (by omega) (by omega)]; simp; omega)
              | (simp [*] <;> omega)
        · skip
          refine run_sound hS (n := 4) (b := bm 40 [0, 23]) (s' := ⟨.normal, [.ops f36_6 7, .code .ret], tl 40 [(0, (.one (.int .i32 (r)))), (23, (.one (.bool (decide (192 ≤ r)))))], []⟩) (c := []) (by kernel_rfl) ⟨⟩ ?_
          cases hb4 : decide (192 ≤ r)
          · replace hb4 := of_decide_eq_false hb4; try simp only [List.length_map] at hb4
            refine run_sound hS (n := 19) (b := []) (s' := ⟨.ret, [], tl 40 [(0, (.one (.int .i32 (r)))), (2, (.one (.bool false))), (23, (.one (.bool false))), (24, und), (25, und), (26, (.one (.bool false))), (27, (.one (.bool false))), (28, und), (29, und), (30, (.one (.bool false))), (31, (.one (.bool false))), (32, und), (33, und), (34, und), (35, und), (36, und), (37, und), (38, und), (39, (.one (.bool false)))], []⟩) (c := []) (by kernel_rfl) ⟨⟩ ?_
            refine SemS.done (.inl rfl) Abs.refl (v := (.one (.bool false))) (by kernel_rfl) ?_
            · show AV.one (.bool _) = AV.one (.bool (letterB r))
              congr 2; unfold letterB; rw [Bool.eq_iff_iff]
              first
                | (rw [hv1 (by omega) (by omega)]; simp; omega)
                | (simp [*] <;> omega)
          · replace hb4 := of_decide_eq_true hb4; try simp only [List.length_map] at hb4
            refine run_sound hS (n := 4) (b := bm 40 [0, 27]) (s' := ⟨.normal, [.ops f36_6 11, .code .ret], tl 40 [(0, (.one (.int .i32 (r)))), (27, (.one (.bool (decide (r ≠ 215)))))], []⟩) (c := []) (by kernel_rfl) ⟨⟩ ?_
            cases hb5 : decide (r ≠ 215)
            · replace hb5 := of_decide_eq_false hb5; try simp only [List.length_map] at hb5
              refine run_sound hS (n := 15) (b := []) (s' := ⟨.ret, [], tl 40 [(0, (.one (.int .i32 (r)))), (2, (.one (.bool false))), (27, (.one (.bool false))), (28, und), (29, und), (30, (.one (.bool false))), (31, (.one (.bool false))), (32, und), (33, und), (34, und), (35, und), (36, und), (37, und), (38, und), (39, (.one (.bool false)))], []⟩) (c := []) (by kernel_rfl) ⟨⟩ ?_
              refine SemS.done (.inl rfl) Abs.refl (v := (.one (.bool false))) (by kernel_rfl) ?_
              · show AV.one (.bool _) = AV.one (.bool (letterB r))
                congr 2; unfold letterB; rw [Bool.eq_iff_iff]
                first
                  | (rw [hv1 (by omega) (by omega)]; simp; omega)
                  | (simp [*] <;> omega)
            · replace hb5 := of_decide_eq_true hb5; try simp only [List.length_map] at hb5
              refine run_sound hS (n := 4) (b := bm 40 [0, 31]) (s' := ⟨.normal, [.ops f36_6 15, .code .ret], tl 40 [(0, (.one (.int .i32 (r)))), (31, (.one (.bool (decide (r ≠ 247)))))], []⟩) (c := []) (by kernel_rfl) ⟨⟩ ?_
              cases hb6 : decide (r ≠ 247)
              · replace hb6 := of_decide_eq_false hb6; try simp only [List.length_map] at hb6
                refine run_sound hS (n := 11) (b := []) (s' := ⟨.ret, [], tl 40 [(0, (.one (.int .i32 (r)))), (2, (.one (.bool false))), (31, (.one (.bool false))), (32, und), (33, und), (34, und), (35, und), (36, und), (37, und), (38, und), (39, (.one (.bool false)))], []⟩) (c := []) (by kernel_rfl) ⟨⟩ ?_
                refine SemS.done (.inl rfl) Abs.refl (v := (.one (.bool false))) (by kernel_rfl) ?_
                · show AV.one (.bool _) = AV.one (.bool (letterB r))
                  congr 2; unfold letterB; rw [Bool.eq_iff_iff]
                  first
                    | (rw [hv1 (by omega) (by omega)]; simp; omega)
                    | (simp [*] <;> omega)
              · replace hb6 := of_decide_eq_true hb6; try simp only [List.length_map] at hb6
                refine run_sound hS (n := 3) (b := bm 40 [0, 31, 34]) (s' := ⟨.normal, [.ops f36_6 18, .code .ret], tl 40 [(0, (.one (.int .i32 (r)))), (31, (.one (.bool true))), (34, (.one (.bool (decide (8192 ≤ r)))))], []⟩) (c := []) (by kernel_rfl) ⟨⟩ ?_
                cases hb7 : decide (8192 ≤ r)
                · replace hb7 := of_decide_eq_false hb7; try simp only [List.length_map] at hb7
                  refine run_sound hS (n := 8) (b := []) (s' := ⟨.ret, [], tl 40 [(0, (.one (.int .i32 (r)))), (2, (.one (.bool true))), (31, (.one (.bool true))), (34, (.one (.bool false))), (35, und), (36, und), (37, (.one (.bool false))), (38, (.one (.bool true))), (39, (.one (.bool true)))], []⟩) (c := []) (by kernel_rfl) ⟨⟩ ?_
                  refine SemS.done (.inl rfl) Abs.refl (v := (.one (.bool true))) (by kernel_rfl) ?_
                  · show AV.one (.bool _) = AV.one (.bool (letterB r))
                    congr 2; unfold letterB; rw [Bool.eq_iff_iff]
                    first
                      | (rw [hv1 (by omega) (by omega)]; simp; omega)
                      | (simp [*] <;> omega)
                · replace hb7 := of_decide_eq_true hb7; try simp only [List.length_map] at hb7
                  refine run_sound hS (n := 8) (b := []) (s' := ⟨.ret, [], tl 40 [(0, (.one (.int .i32 (r)))), (2, (.one (.bool (!decide (r ≤ 8303))))), (31, (.one (.bool true))), (34, (.one (.bool true))), (35, (.one (.int .i32 (r)))), (36, (.one (.bool (decide (r ≤ 8303))))), (37, (.one (.bool (decide (r ≤ 8303))))), (38, (.one (.bool (!decide (r ≤ 8303))))), (39, (.one (.bool (!decide (r ≤ 8303)))))], []⟩) (c := []) (by kernel_rfl) ⟨⟩ ?_
                  refine SemS.done (.inl rfl) Abs.refl (v := (.one (.bool (!decide (r ≤ 8303))))) (by kernel_rfl) ?_
                  · show AV.one (.bool _) = AV.one (.bool (letterB r))
                    congr 2; unfold letterB; rw [Bool.eq_iff_iff]
                    first
                      | (rw [hv1 (by omega) (by omega)]; simp; omega)
                      | (simp [*] <;> omega)
      · replace hb2 := of_decide_eq_true hb2; try simp only [List.length_map] at hb2
        refine run_sound hS (n := 6) (b := []) (s' := ⟨.ret, [], tl 40 [(0, (.one (.int .i32 (r)))), (2, (.one (.bool true))), (16, (.one (.bool true)))], []⟩) (c := []) (by kernel_rfl) ⟨⟩ ?_
        refine SemS.done (.inl rfl) Abs.refl (v := (.one (.bool true))) (by kernel_rfl) ?_
        · show AV.one (.bool _) = AV.one (.bool (letterB r))
          congr 2; unfold letterB; rw [Bool.eq_iff_iff]
          first
            | (rw [hv1 (by omega) (by omega)]; simp; omega)
            | (simp [*] <;> omega)
  · replace hb0 := of_decide_eq_true hb0; try simp only [List.length_map] at hb0
    refine run_sound hS (n := 4) (b := bm 40 [0, 9]) (s' := ⟨.normal, [.ops f36_1 7, .code f36_4, .code f36_7], tl 40 [(0, (.one (.int .i32 (r)))), (9, (.one (.bool (decide (r ≤ 90)))))], []⟩) (c := []) (by kernel_rfl) ⟨⟩ ?_
    cases hb1 : decide (r ≤ 90)
    · replace hb1 := of_decide_eq_false hb1; try simp only [List.length_map] at hb1
      refine run_sound hS (n := 3) (b := bm 40 [0, 9, 12]) (s' := ⟨.normal, [.ops f36_1 10, .code f36_4, .code f36_7], tl 40 [(0, (.one (.int .i32 (r)))), (9, (.one (.bool false))), (12, (.one (.bool (decide (97 ≤ r)))))], []⟩) (c := []) (by kernel_rfl) ⟨⟩ ?_
      cases hb2 : decide (97 ≤ r)
      · replace hb2 := of_decide_eq_false hb2; try simp only [List.length_map] at hb2
        refine run_sound hS (n := 10) (b := bm 40 [0, 17]) (s' := ⟨.normal, [.ops f36_6 1, .code .ret], tl 40 [(0, (.one (.int .i32 (r)))), (17, (.one (.int .i32 (r))))], []⟩) (c := []) (by kernel_rfl) ⟨⟩ ?_
        refine SemS.callP hS hp57 rfl (by kernel_rfl) (by kernel_rfl) (vs := [(.one (.int .i32 (r)))]) (by kernel_rfl) (v := (.one (.bool (Utf8.valid r)))) (c := []) (c57 (r)) ⟨⟩ (T' := tl 40 [(0, (.one (.int .i32 (r)))), (17, (.one (.int .i32 (r)))), (18, (.one (.bool (Utf8.valid r))))]) (by kernel_rfl) ?_
        refine run_sound hS (n := 1) (b := bm 40 [0, 19]) (s' := ⟨.normal, [.ops f36_6 3, .code .ret], tl 40 [(0, (.one (.int .i32 (r)))), (19, (.one (.bool (Utf8.valid r))))], []⟩) (c := []) (by kernel_rfl) ⟨⟩ ?_
        cases hb3 : Utf8.valid r
        · skip
          refine run_sound hS (n := 23) (b := []) (s' := ⟨.ret, [], tl 40 [(0, (.one (.int .i32 (r)))), (2, (.one (.bool false))), (19, (.one (.bool false))), (20, und), (21, und), (22, (.one (.bool false))), (23, (.one (.bool false))), (24, und), (25, und), (26, (.one (.bool false))), (27, (.one (.bool false))), (28, und), (29, und), (30, (.one (.bool false))), (31, (.one (.bool false))), (32, und), (33, und), (34, und), (35, und), (36, und), (37, und), (38, und), (39, (.one (.bool false)))], []⟩) (c := []) (by kernel_rfl) ⟨⟩ ?_
          refine SemS.done (.inl rfl) Abs.refl (v := (.one (.bool false))) (by kernel_rfl) ?_
          · show AV.one (.bool _) = AV.one (.bool (letterB r))
            congr 2; unfold letterB; rw [Bool.eq_iff_iff]
            first
              | (rw [hv1 (by omega) (by omega)]; simp; omega)
              | (simp [*] <;> omega)
        · skip
          refine run_sound hS (n := 4) (b := bm 40 [0, 23]) (s' := ⟨.normal, [.ops f36_6 7, .code .ret], tl 40 [(0, (.one (.int .i32 (r)))), (23, (.one (.bool (decide (192 ≤ r)))))], []⟩) (c := []) (by kernel_rfl) ⟨⟩ ?_
          cases hb4 : decide (192 ≤ r)
          · replace hb4 := of_decide_eq_false hb4; try simp only [List.length_map] at hb4
            refine run_sound hS (n := 19) (b := []) (s' := ⟨.ret, [], tl 40 [(0, (.one (.int .i32 (r)))), (2, (.one (.bool false))), (23, (.one (.bool false))), (24, und), (25, und), (26, (.one (.bool false))), (27, (.one (.bool false))), (28, und), (29, und), (30, (.one (.bool false))), (31, (.one (.bool false))), (32, und), (33, und), (34, und), (35, und), (36, und), (37, und), (38, und), (39, (.one (.bool false)))], []⟩) (c := []) (by kernel_rfl) ⟨⟩ ?_
            refine SemS.done (.inl rfl) Abs.refl (v := (.one (.bool false))) (by kernel_rfl) ?_
            · show AV.one (.bool _) = AV.one (.bool (letterB r))
              congr 2; unfold letterB; rw [Bool.eq_iff_iff]
              first
                | (rw [hv1 (by omega) (by omega)]; simp; omega)
                | (simp [*] <;> omega)
          · replace hb4 := of_decide_eq_true hb4; try simp only [List.length_map] at hb4
            refine run_sound hS (n := 4) (b := bm 40 [0, 27]) (s' := ⟨.normal, [.ops f36_6 11, .code .ret], tl 40 [(0, (.one (.int .i32 (r)))), (27, (.one (.bool (decide (r ≠ 215)))))], []⟩) (c := []) (by kernel_rfl) ⟨⟩ ?_
            cases hb5 : decide (r ≠ 215)
            · replace hb5 := of_decide_eq_false hb5; try simp only [List.length_map] at hb5
              refine run_sound hS (n := 15) (b := []) (s' := ⟨.ret, [], tl 40 [(0, (.one (.int .i32 (r)))), (2, (.one (.bool false))), (27, (.one (.bool false))), (28, und), (29, und), (30, (.one (.bool false))), (31, (.one (.bool false))), (32, und), (33, und), (34, und), (35, und), (36, und), (37, und), (38, und), (39, (.one (.bool false)))], []⟩) (c := []) (by kernel_rfl) ⟨⟩ ?_
              refine SemS.done (.inl rfl) Abs.refl (v := (.one (.bool false))) (by kernel_rfl) ?_
              · show AV.one (.bool _) = AV.one (.bool (letterB r))
                congr 2; unfold letterB; rw [Bool.eq_iff_iff]
                first
                  | (rw [hv1 (by omega) (by omega)]; simp; omega)
                  | (simp [*] <;> omega)
            · replace hb5 := of_decide_eq_true hb5; try simp only [List.length_map] at hb5
              refine run_sound hS (n := 4) (b := bm 40 [0, 31]) (s' := ⟨.normal, [.ops f36_6 15, .code .ret], tl 40 [(0, (.one (.int .i32 (r)))), (31, (.one (.bool (decide (r ≠ 247)))))], []⟩) (c := []) (by kernel_rfl) ⟨⟩ ?_
              cases hb6 : decide (r ≠ 247)
              · replace hb6 := of_decide_eq_false hb6; try simp only [List.length_map] at hb6
                refine run_sound hS (n := 11) (b := []) (s' := ⟨.ret, [], tl 40 [(0, (.one (.int .i32 (r)))), (2, (.one (.bool false))), (31, (.one (.bool false))), (32, und), (33, und), (34, und), (35, und), (36, und), (37, und), (38, und), (39, (.one (.bool false)))], []⟩) (c := []) (by kernel_rfl) ⟨⟩ ?_
                refine SemS.done (.inl rfl) Abs.refl (v := (.one (.bool false))) (by kernel_rfl) ?_
                · show AV.one (.bool _) = AV.one (.bool (letterB r))
                  congr 2; unfold letterB; rw [Bool.eq_iff_iff]
                  first
                    | (rw [hv1 (by omega) (by omega)]; simp; omega)
                    | (simp [*] <;> omega)
              · replace hb6 := of_decide_eq_true hb6; try simp only [List.length_map] at hb6
                refine run_sound hS (n := 3) (b := bm 40 [0, 31, 34]) (s' := ⟨.normal, [.ops f36_6 18, .code .ret], tl 40 [(0, (.one (.int .i32 (r)))), (31, (.one (.bool true))), (34, (.one (.bool (decide (8192 ≤ r)))))], []⟩) (c := []) (by kernel_rfl) ⟨⟩ ?_
                cases hb7 : decide (8192 ≤ r)
                · replace hb7 := of_decide_eq_false hb7; try simp only [List.length_map] at hb7
                  refine run_sound hS (n := 8) (b := []) (s' := ⟨.ret, [], tl 40 [(0, (.one (.int .i32 (r)))), (2, (.one (.bool true))), (31, (.one (.bool true))), (34, (.one (.bool false))), (35, und), (36, und), (37, (.one (.bool false))), (38, (.one (.bool true))), (39, (.one (.bool true)))], []⟩) (c := []) (by kernel_rfl) ⟨⟩ ?_
                  refine SemS.done (.inl rfl) Abs.refl (v := (.one (.bool true))) (by kernel_rfl) ?_
                  · show AV.one (.bool _) = AV.one (.bool (letterB r))
                    congr 2; unfold letterB; rw [Bool.eq_iff_iff]
                    first
                      | (rw [hv1 (by omega) (by omega)]; simp; omega)
                      | (simp [*] <;> omega)
                · replace hb7 := of_decide_eq_true hb7; try simp only [List.length_map] at hb7
                  refine run_sound hS (n := 8) (b := []) (s' := ⟨.ret, [], tl 40 [(0, (.one (.int .i32 (r)))), (2, (.one (.bool (!decide (r ≤ 8303))))), (31, (.one (.bool true))), (34, (.one (.bool true))), (35, (.one (.int .i32 (r)))), (36, (.one (.bool (decide (r ≤ 8303))))), (37, (.one (.bool (decide (r ≤ 8303))))), (38, (.one (.bool (!decide (r ≤ 8303))))), (39, (.one (.bool (!decide (r ≤ 8303)))))], []⟩) (c := []) (by kernel_rfl) ⟨⟩ ?_
                  refine SemS.done (.inl rfl) Abs.refl (v := (.one (.bool (!decide (r ≤ 8303))))) (by kernel_rfl) ?_
                  · show AV.one (.bool _) = AV.one (.bool (letterB r))
                    congr 2; unfold letterB; rw [Bool.eq_iff_iff]
                    first
                      | (rw [hv1 (by omega) (by omega)]; simp; omega)
                      | (simp [*] <;> omega)
      · replace hb2 := of_decide_eq_true hb2; try simp only [List.length_map] at hb2
        refine run_sound hS (n := 5) (b := bm 40 [0, 16]) (s' := ⟨.normal, [.code f36_4, .code f36_7], tl 40 [(0, (.one (.int .i32 (r)))), (16, (.one (.bool (decide (r ≤ 122)))))], []⟩) (c := []) (by kernel_rfl) ⟨⟩ ?_
        cases hb3 : decide (r ≤ 122)
        · replace hb3 := of_decide_eq_false hb3; try simp only [List.length_map] at hb3
          refine run_sound hS (n := 5) (b := bm 40 [0, 17]) (s' := ⟨.normal, [.ops f36_6 1, .code .ret], tl 40 [(0, (.one (.int .i32 (r)))), (17, (.one (.int .i32 (r))))], []⟩) (c := []) (by kernel_rfl) ⟨⟩ ?_
          refine SemS.callP hS hp57 rfl (by kernel_rfl) (by kernel_rfl) (vs := [(.one (.int .i32 (r)))]) (by kernel_rfl) (v := (.one (.bool (Utf8.valid r)))) (c := []) (c57 (r)) ⟨⟩ (T' := tl 40 [(0, (.one (.int .i32 (r)))), (17, (.one (.int .i32 (r)))), (18, (.one (.bool (Utf8.valid r))))]) (by kernel_rfl) ?_
          refine run_sound hS (n := 1) (b := bm 40 [0, 19]) (s' := ⟨.normal, [.ops f36_6 3, .code .ret], tl 40 [(0, (.one (.int .i32 (r)))), (19, (.one (.bool (Utf8.valid r))))], []⟩) (c := []) (by kernel_rfl) ⟨⟩ ?_
          cases hb4 : Utf8.valid r
          · skip
            refine run_sound hS (n := 23) (b := []) (s' := ⟨.ret, [], tl 40 [(0, (.one (.int .i32 (r)))), (2, (.one (.bool false))), (19, (.one (.bool false))), (20, und), (21, und), (22, (.one (.bool false))), (23, (.one (.bool false))), (24, und), (25, und), (26, (.one (.bool false))), (27, (.one (.bool false))), (28, und), (29, und), (30, (.one (.bool false))), (31, (.one (.bool false))), (32, und), (33, und), (34, und), (35, und), (36, und), (37, und), (38, und), (39, (.one (.bool false)))], []⟩) (c := []) (by kernel_rfl) ⟨⟩ ?_
            refine SemS.done (.inl rfl) Abs.refl (v := (.one (.bool false))) (by kernel_rfl) ?_
            · show AV.one (.bool _) = AV.one (.bool (letterB r))
              congr 2; unfold letterB; rw [Bool.eq_iff_iff]
              first
                | (rw [hv1 (by omega) (by omega)]; simp; omega)
                | (simp [*] <;> omega)
          · skip
            refine run_sound hS (n := 4) (b := bm 40 [0, 23]) (s' := ⟨.normal, [.ops f36_6 7, .code .ret], tl 40 [(0, (.one (.int .i32 (r)))), (23, (.one (.bool (decide (192 ≤ r)))))], []⟩) (c := []) (by kernel_rfl) ⟨⟩ ?_
            cases hb5 : decide (192 ≤ r)
            · replace hb5 := of_decide_eq_false hb5; try simp only [List.length_map] at hb5
              refine run_sound hS (n := 19) (b := []) (s' := ⟨.ret, [], tl 40 [(0, (.one (.int .i32 (r)))), (2, (.one (.bool false))), (23, (.one (.bool false))), (24, und), (25, und), (26, (.one (.bool false))), (27, (.one (.bool false))), (28, und), (29, und), (30, (.one (.bool false))), (31, (.one (.bool false))), (32, und), (33, und), (34, und), (35, und), (36, und), (37, und), (38, und), (39, (.one (.bool false)))], []⟩) (c := []) (by kernel_rfl) ⟨⟩ ?_
              refine SemS.done (.inl rfl) Abs.refl (v := (.one (.bool false))) (by kernel_rfl) ?_
              · show AV.one (.bool _) = AV.one (.bool (letterB r))
                congr 2; unfold letterB; rw [Bool.eq_iff_iff]
                first
                  | (rw [hv1 (by omega) (by omega)]; simp; omega)
                  | (simp [*] <;> omega)
            · replace hb5 := of_decide_eq_true hb5; try simp only [List.length_map] at hb5
              refine run_sound hS (n := 4) (b := bm 40 [0, 27]) (s' := ⟨.normal, [.ops f36_6 11, .code .ret], tl 40 [(0, (.one (.int .i32 (r)))), (27, (.one (.bool (decide (r ≠ 215)))))], []⟩) (c := []) (by kernel_rfl) ⟨⟩ ?_
              cases hb6 : decide (r ≠ 215)
              · replace hb6 := of_decide_eq_false hb6; try simp only [List.length_map] at hb6
                refine run_sound hS (n := 15) (b := []) (s' := ⟨.ret, [], tl 40 [(0, (.one (.int .i32 (r)))), (2, (.one (.bool false))), (27, (.one (.bool false))), (28, und), (29, und), (30, (.one (.bool false))), (31, (.one (.bool false))), (32, und), (33, und), (34, und), (35, und), (36, und), (37, und), (38, und), (39, (.one (.bool false)))], []⟩) (c := []) (by kernel_rfl) ⟨⟩ ?_
                refine SemS.done (.inl rfl) Abs.refl (v := (.one (.bool false))) (by kernel_rfl) ?_
                · show AV.one (.bool _) = AV.one (.bool (letterB r))
                  congr 2; unfold letterB; rw [Bool.eq_iff_iff]
                  first
                    | (rw [hv1 (by omega) (by omega)]; simp; omega)
                    | (simp [*] <;> omega)
              · replace hb6 := of_decide_eq_true hb6; try simp only [List.length_map] at hb6
                refine run_sound hS (n := 4) (b := bm 40 [0, 31]) (s' := ⟨.normal, [.ops f36_6 15, .code .ret], tl 40 [(0, (.one (.int .i32 (r)))), (31, (.one (.bool (decide (r ≠ 247)))))], []⟩) (c := []) (by kernel_rfl) ⟨⟩ ?_
                cases hb7 : decide (r ≠ 247)
                · replace hb7 := of_decide_eq_false hb7; try simp only [List.length_map] at hb7
                  refine run_sound hS (n := 11) (b := []) (s' := ⟨.ret, [], tl 40 [(0, (.one (.int .i32 (r)))), (2, (.one (.bool false))), (31, (.one (.bool false))), (32, und), (33, und), (34, und), (35, und), (36, und), (37, und), (38, und), (39, (.one (.bool false)))], []⟩) (c := []) (by kernel_rfl) ⟨⟩ ?_
                  refine SemS.done (.inl rfl) Abs.refl (v := (.one (.bool false))) (by kernel_rfl) ?_
                  · show AV.one (.bool _) = AV.one (.bool (letterB r))
                    congr 2; unfold letterB; rw [Bool.eq_iff_iff]
                    first
                      | (rw [hv1 (by omega) (by omega)]; simp; omega)
                      | (simp [*] <;> omega)
                · replace hb7 := of_decide_eq_true hb7; try simp only [List.length_map] at hb7
                  refine run_sound hS (n := 3) (b := bm 40 [0, 31, 34]) (s' := ⟨.normal, [.ops f36_6 18, .code .ret], tl 40 [(0, (.one (.int .i32 (r)))), (31, (.one (.bool true))), (34, (.one (.bool (decide (8192 ≤ r)))))], []⟩) (c := []) (by kernel_rfl) ⟨⟩ ?_
                  cases hb8 : decide (8192 ≤ r)
                  · replace hb8 := of_decide_eq_false hb8; try simp only [List.length_map] at hb8
                    refine run_sound hS (n := 8) (b := []) (s' := ⟨.ret, [], tl 40 [(0, (.one (.int .i32 (r)))), (2, (.one (.bool true))), (31, (.one (.bool true))), (34, (.one (.bool false))), (35, und), (36, und), (37, (.one (.bool false))), (38, (.one (.bool true))), (39, (.one (.bool true)))], []⟩) (c := []) (by kernel_rfl) ⟨⟩ ?_
                    refine SemS.done (.inl rfl) Abs.refl (v := (.one (.bool true))) (by kernel_rfl) ?_
                    · show AV.one (.bool _) = AV.one (.bool (letterB r))
                      congr 2; unfold letterB; rw [Bool.eq_iff_iff]
                      first
                        | (rw [hv1 (by omega) (by omega)]; simp; omega)
                        | (simp [*] <;> omega)
                  · replace hb8 := of_decide_eq_true hb8; try simp only [List.length_map] at hb8
                    refine run_sound hS (n := 8) (b := []) (s' := ⟨.ret, [], tl 40 [(0, (.one (.int .i32 (r)))), (2, (.one (.bool (!decide (r ≤ 8303))))), (31, (.one (.bool true))), (34, (.one (.bool true))), (35, (.one (.int .i32 (r)))), (36, (.one (.bool (decide (r ≤ 8303))))), (37, (.one (.bool (decide (r ≤ 8303))))), (38, (.one (.bool (!decide (r ≤ 8303))))), (39, (.one (.bool (!decide (r ≤ 8303)))))], []⟩) (c := []) (by kernel_rfl) ⟨⟩ ?_
                    refine SemS.done (.inl rfl) Abs.refl (v := (.one (.bool (!decide (r ≤ 8303))))) (by kernel_rfl) ?_
                    · show AV.one (.bool _) = AV.one (.bool (letterB r))
                      congr 2; unfold letterB; rw [Bool.eq_iff_iff]
                      first
                        | (rw [hv1 (by omega) (by omega)]; simp; omega)
                        | (simp [*] <;> omega)
        · replace hb3 := of_decide_eq_true hb3; try simp only [List.length_map] at hb3
          refine run_sound hS (n := 6) (b := []) (s' := ⟨.ret, [], tl 40 [(0, (.one (.int .i32 (r)))), (2, (.one (.bool true))), (16, (.one (.bool true)))], []⟩) (c := []) (by kernel_rfl) ⟨⟩ ?_
          refine SemS.done (.inl rfl) Abs.refl (v := (.one (.bool true))) (by kernel_rfl) ?_
          · show AV.one (.bool _) = AV.one (.bool (letterB r))
            congr 2; unfold letterB; rw [Bool.eq_iff_iff]
            first
              | (rw [hv1 (by omega) (by omega)]; simp; omega)
              | (simp [*] <;> omega)
    · replace hb1 := of_decide_eq_true hb1; try simp only [List.length_map] at hb1
      refine run_sound hS (n := 14) (b := []) (s' := ⟨.ret, [], tl 40 [(0, (.one (.int .i32 (r)))), (2, (.one (.bool true))), (9, (.one (.bool true))), (10, und), (11, und), (12, und), (13, und), (14, und), (15, und), (16, (.one (.bool true)))], []⟩) (c := []) (by kernel_rfl) ⟨⟩ ?_
      refine SemS.done (.inl rfl) Abs.refl (v := (.one (.bool true))) (by kernel_rfl) ?_
      · show AV.one (.bool _) = AV.one (.bool (letterB r))
        congr 2; unfold letterB; rw [Bool.eq_iff_iff]
        first
          | (rw [hv1 (by omega) (by omega)]; simp; omega)
          | (simp [*] <;> omega)
end
end Go.EA
