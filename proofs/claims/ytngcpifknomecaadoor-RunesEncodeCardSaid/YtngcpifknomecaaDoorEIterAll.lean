/- The iterator over a text's runes (runes.all). Conditions: none. -/
import Derived.Test.YtngcpifknomecaaDoorEAf1
import Derived.Test.YtngcpifknomecaaDoorEK6
import Derived.KernelRfl
set_option linter.unusedVariables false
set_option linter.unusedSimpArgs false
set_option maxRecDepth 10000
namespace Go.EA
open F
section
variable {S : SC} {X : Cx}
/-- The iterator's own temporaries. -/
def AT (l bx : Nat) : List AV := tl 26 [(0, .one (.yld l)), (1, .one (.ptr bx 0 0))]

theorem all_iter (hS : S.Good X) (hp69 : X.pr 69 = some (pureP gDec)) (h68 : S.has 68 f68) {α : Type} (I : α → List AO) (s : α → List UInt8) (l bx : Nat) (Q : AV → Heap → Prop) (a0 : α)
    (hbx : ∀ a, (I a).getD bx .dead = .blk 1 [[.str (s a)]] true)
    (hstep : ∀ a, s a ≠ [] → MCall S (.one (.yld l)) [.one (.int .i32 ((dec (s a)).1 : Nat)), .one (.bool (isR (s a)))] (hl (I a)) fun v H' => ∃ L', H' = hl L' ∧
      ((v = .one (.bool true) ∧ L'.getD bx .dead = .blk 1 [[.str (s a)]] true ∧ ∃ a', s a' = (s a).drop (dec (s a)).2 ∧ Abs S (I a0).length (tmL (AT l bx)) (hl (L'.set bx (.blk 1 [[.str ((s a).drop (dec (s a)).2)]] true))) (tmL (AT l bx)) (hl (I a'))) ∨
       (v = .one (.bool false) ∧ Q und (hl L'))))
    (hend : ∀ a, s a = [] → Q und (hl (I a))) : MF S 68 [(bx, 0, 0)] [.one (.yld l)] (hl (I a0)) Q := by
  refine MF.run hS h68 [.one (.yld l), .one (.ptr bx 0 0), und, und, und, und, und, und, und, und, und, und, und, und, und, und, und, und, und, und, und, und, und, und, und, und] rfl rfl ?_
  refine run_sound hS (n := 1) (b := bm 26 [0, 1]) (s' := ⟨.normal, [.code f68_12, .blk 0], AT l bx, I a0⟩) (c := []) (by kernel_rfl) ⟨⟩ ?_
  refine SemS.loop (fun a => (AT l bx, I a)) (fun a => (s a).length) a0 Abs.refl fun a R hR => ?_
  refine run_sound hS (n := 3) (b := bm 26 [0, 1]) (s' := ⟨.normal, [.ops f68_0 0, .code f68_1, .code f68_10, .stop R, .blk 0], AT l bx, I a⟩) (c := []) (by kernel_rfl) ⟨⟩ ?_
  refine SemS.step hS rfl rfl rfl (load1 (by kernel_rfl) (hbx a)) (T' := tl 26 [(0, .one (.yld l)), (1, .one (.ptr bx 0 0)), (5, .one (.str (s a)))]) (by kernel_rfl) ?_
  refine run_sound hS (n := 3) (b := bm 26 [0, 1, 7]) (s' := ⟨.normal, [.code f68_1, .code f68_10, .stop R, .blk 0], tl 26 [(0, .one (.yld l)), (1, .one (.ptr bx 0 0)), (7, .one (.bool (decide ((0 : Int) < (s a).length))))], I a⟩) (c := []) (by kernel_rfl) ⟨⟩ ?_
  cases hb0 : decide ((0 : Int) < (s a).length)
  · replace hb0 := of_decide_eq_false hb0
    have hs : s a = [] := List.eq_nil_of_length_eq_zero (by omega)
    refine run_sound hS (n := 5) (b := []) (s' := ⟨.normal, [], tl 26 [(0, .one (.yld l)), (1, .one (.ptr bx 0 0)), (7, .one (.bool false))], I a⟩) (c := []) (by kernel_rfl) ⟨⟩ ?_
    exact SemS.done (.inr rfl) Abs.refl (v := und) (by kernel_rfl) (hend a hs)
  · replace hb0 := of_decide_eq_true hb0
    have hne : s a ≠ [] := by intro h; rw [h] at hb0; simp at hb0
    have hw := dec_width hne
    refine run_sound hS (n := 5) (b := bm 26 [0, 1]) (s' := ⟨.normal, [.ops f68_3 0, .code f68_8, .blk 1, .stop R, .blk 0], AT l bx, I a⟩) (c := []) (by kernel_rfl) ⟨⟩ ?_
    refine SemS.step hS rfl rfl rfl (load1 (by kernel_rfl) (hbx a)) (T' := tl 26 [(0, .one (.yld l)), (1, .one (.ptr bx 0 0)), (9, .one (.str (s a)))]) (by kernel_rfl) ?_
    refine SemS.callP hS hp69 rfl (by kernel_rfl) (by kernel_rfl) (vs := [.one (.str (s a))]) (by kernel_rfl) (v := (.tup [(.one (.int .i32 (dec (s a)).1)), (.one (.int .i64 (dec (s a)).2))])) (c := []) (by kernel_rfl) ⟨⟩ (T' := tl 26 [(0, .one (.yld l)), (1, .one (.ptr bx 0 0)), (9, .one (.str (s a))), (10, (.tup [(.one (.int .i32 (dec (s a)).1)), (.one (.int .i64 (dec (s a)).2))]))]) (by kernel_rfl) ?_
    refine run_sound hS (n := 14) (b := bm 26 [0, 1, 4, 13, 14, 17]) (s' := ⟨.normal, [.ops f68_4 5, .code f68_5, .code (.reg f68_7), .blk 1, .stop R, .blk 0], tl 26 [(0, (.one (.yld l))), (1, (.one (.ptr bx 0 0))), (4, (.one (.int .i64 (dec (s a)).2))), (13, (.one (.yld l))), (14, (.one (.int .i32 (dec (s a)).1))), (17, (.one (.bool (decide (((dec (s a)).1 : Int) ≠ 65533)))))], I a⟩) (c := []) (by kernel_rfl) ⟨⟩ ?_
    have fin : SemS S X (I a0).length ⟨.normal, [.ops f68_4 8, .code f68_5, .code (.reg f68_7), .blk 1, .stop R, .blk 0], tl 26 [(0, (.one (.yld l))), (1, (.one (.ptr bx 0 0))), (4, (.one (.int .i64 (dec (s a)).2))), (13, (.one (.yld l))), (14, (.one (.int .i32 (dec (s a)).1))), (20, (.one (.bool (isR (s a)))))], I a⟩ (fun e T' H' => ∃ T1 H1, Abs S (I a0).length T' H' T1 H1 ∧ (e = .ret ∨ e = .normal) ∧ ∃ v, evRes T1 H1 f68.res = some v ∧ Q v H1) := by
      refine SemS.call hS rfl (by kernel_rfl) (fv := .one (.yld l)) (by kernel_rfl) (vs := [.one (.int .i32 ((dec (s a)).1 : Nat)), .one (.bool (isR (s a)))]) (by kernel_rfl) ((hstep a hne).mono ?_)
      rintro v H' ⟨L', rfl, ⟨rfl, hb, a', ha', habs⟩ | ⟨rfl, hq⟩⟩
      · refine ⟨tl 26 [(0, (.one (.yld l))), (1, (.one (.ptr bx 0 0))), (4, (.one (.int .i64 (dec (s a)).2))), (13, (.one (.yld l))), (14, (.one (.int .i32 (dec (s a)).1))), (20, (.one (.bool (isR (s a))))), (21, .one (.bool true))], by kernel_rfl, ?_⟩
        show SemS S X (I a0).length ⟨.normal, [.ops f68_4 9, .code f68_5, .code (.reg f68_7), .blk 1, .stop R, .blk 0], _, L'⟩ _
        refine run_sound hS (n := 5) (b := bm 26 [0, 1, 4]) (s' := ⟨.normal, [.ops f68_7 0, .blk 1, .stop R, .blk 0], tl 26 [(0, (.one (.yld l))), (1, (.one (.ptr bx 0 0))), (4, (.one (.int .i64 (dec (s a)).2)))], L'⟩) (c := []) (by kernel_rfl) ⟨⟩ ?_
        refine SemS.step hS rfl rfl rfl (load1 (by kernel_rfl) hb) (T' := tl 26 [(0, .one (.yld l)), (1, .one (.ptr bx 0 0)), (4, (.one (.int .i64 (dec (s a)).2))), (23, .one (.str (s a)))]) (by kernel_rfl) ?_
        refine run_sound hS (n := 2) (b := bm 26 [0, 1, 25]) (s' := ⟨.normal, [.ops f68_7 3, .blk 1, .stop R, .blk 0], tl 26 [(0, (.one (.yld l))), (1, (.one (.ptr bx 0 0))), (25, (.one (.str (((s a).drop (dec (s a)).2).take ((s a).length - (dec (s a)).2)))))], L'⟩) (c := [0 ≤ ((dec (s a)).2 : Int) ∧ ((dec (s a)).2 : Int) ≤ (s a).length ∧ ((s a).length : Int) ≤ (s a).length]) (by kernel_rfl) ⟨by omega, ⟨⟩⟩ ?_
        rw [List.take_of_length_le (by simp)]
        refine SemS.step hS rfl rfl rfl (store1 (z := .str ((s a).drop (dec (s a)).2)) (by kernel_rfl) (by kernel_rfl) hb) (T' := tl 26 [(0, .one (.yld l)), (1, .one (.ptr bx 0 0)), (25, .one (.str ((s a).drop (dec (s a)).2)))]) (by kernel_rfl) ?_
        refine run_sound hS (n := 2) (b := []) (s' := ⟨.normal, [.stop R, .blk 0], tl 26 [(0, (.one (.yld l))), (1, (.one (.ptr bx 0 0))), (25, (.one (.str ((s a).drop (dec (s a)).2))))], L'.set bx (.blk 1 [[.str ((s a).drop (dec (s a)).2)]] true)⟩) (c := []) (by kernel_rfl) ⟨⟩ ?_
        refine SemS.stop (hR a' _ _ ?_ (Abs.trans (Abs.junk fun k => ?_) habs))
        · show (s a').length < (s a).length
          rw [ha', List.length_drop]; omega
        · have : AT l bx = keepT (bm 26 [0, 1]) (tl 26 [(0, (.one (.yld l))), (1, (.one (.ptr bx 0 0))), (25, (.one (.str ((s a).drop (dec (s a)).2))))]) := by kernel_rfl
          rw [this]
          exact keepT_abs (H := hl []) _ _ k
      · refine ⟨tl 26 [(0, (.one (.yld l))), (1, (.one (.ptr bx 0 0))), (4, (.one (.int .i64 (dec (s a)).2))), (13, (.one (.yld l))), (14, (.one (.int .i32 (dec (s a)).1))), (20, (.one (.bool (isR (s a))))), (21, .one (.bool false))], by kernel_rfl, ?_⟩
        show SemS S X (I a0).length ⟨.normal, [.ops f68_4 9, .code f68_5, .code (.reg f68_7), .blk 1, .stop R, .blk 0], _, L'⟩ _
        refine run_sound hS (n := 4) (b := []) (s' := ⟨.ret, [], tl 26 [(0, (.one (.yld l))), (1, (.one (.ptr bx 0 0))), (4, (.one (.int .i64 (dec (s a)).2))), (13, (.one (.yld l))), (14, (.one (.int .i32 (dec (s a)).1))), (20, (.one (.bool (isR (s a))))), (21, .one (.bool false)), (22, .one (.bool true))], L'⟩) (c := []) (by kernel_rfl) ⟨⟩ ?_
        exact SemS.done (.inl rfl) Abs.refl (v := und) (by kernel_rfl) hq
    cases hb1 : decide (((dec (s a)).1 : Int) ≠ 65533)
    · refine run_sound hS (n := 3) (b := bm 26 [0, 1, 4, 13, 14, 20]) (s' := ⟨.normal, [.ops f68_4 8, .code f68_5, .code (.reg f68_7), .blk 1, .stop R, .blk 0], tl 26 [(0, (.one (.yld l))), (1, (.one (.ptr bx 0 0))), (4, (.one (.int .i64 (dec (s a)).2))), (13, (.one (.yld l))), (14, (.one (.int .i32 (dec (s a)).1))), (20, (.one (.bool (decide ((1 : Int) < (dec (s a)).2)))))], I a⟩) (c := []) (by kernel_rfl) ⟨⟩ ?_
      have e : decide ((1 : Int) < (dec (s a)).2) = isR (s a) := by unfold isR; rw [hb1, Bool.false_or]; exact decide_eq_decide.2 (by omega)
      rw [e]; exact fin
    · refine run_sound hS (n := 3) (b := bm 26 [0, 1, 4, 13, 14, 20]) (s' := ⟨.normal, [.ops f68_4 8, .code f68_5, .code (.reg f68_7), .blk 1, .stop R, .blk 0], tl 26 [(0, (.one (.yld l))), (1, (.one (.ptr bx 0 0))), (4, (.one (.int .i64 (dec (s a)).2))), (13, (.one (.yld l))), (14, (.one (.int .i32 (dec (s a)).1))), (20, (.one (.bool true)))], I a⟩) (c := []) (by kernel_rfl) ⟨⟩ ?_
      have e : true = isR (s a) := by unfold isR; rw [hb1]; rfl
      rw [e]; exact fin
end
end Go.EA
