/- Whether a text is letters (runes.Letters). Conditions: none. -/
import Derived.Test.YtngcpifknomecaaDoorEIterAll
import Derived.Test.YtngcpifknomecaaDoorEK4
import Derived.Test.YtngcpifknomecaaDoorEMean3
set_option linter.unusedVariables false
set_option linter.unusedSimpArgs false
set_option maxRecDepth 10000
namespace Go.EA
open F
section
variable {S : SC} {X : Cx}
def LB (l : List (Int × Bool)) : Bool := l.all fun p => p.2 && letterB p.1
theorem LB_cons (x : Int × Bool) (l : List (Int × Bool)) : LB (x :: l) = ((x.2 && letterB x.1) && LB l) := rfl
theorem letters_LB (s : List UInt8) : lettersB s = (decide (s ≠ []) && LB (runes s)) := by
  unfold lettersB LB decE decR decOk
  by_cases hs : s = []
  · subst hs; rfl
  · skip
    · rw [decide_eq_true hs, Bool.true_and]
      have hne : runes s ≠ [] := by rw [runes_cons hs]; simp
      cases hk : (runes s).all (·.2)
      · symm
        simp only [Bool.false_eq_true, if_false]
        rw [show decide ((3 : Int) = 0) = false from rfl, Bool.false_and, Bool.false_and]
        rw [List.all_eq_false] at hk ⊢
        obtain ⟨x, hx, hx2⟩ := hk
        exact ⟨x, hx, by simp only [Bool.not_eq_true] at hx2; rw [hx2]; simp⟩
      · simp only [if_true]
        rw [show decide True = true from rfl, Bool.true_and, decide_eq_true (by rw [List.length_map]; exact List.length_pos_iff.2 hne), Bool.true_and, List.all_map]
        rw [Bool.eq_iff_iff, List.all_eq_true, List.all_eq_true]
        rw [List.all_eq_true] at hk
        exact ⟨fun h x hx => by rw [hk x hx]; exact h x hx, fun h x hx => by have := h x hx; rw [hk x hx] at this; exact this⟩
def T22 : List AV := tl 20 [(3, (.one (.ptr 0 0 0))), (9, (.one (.fn 68 [(1, (0, 0))])))]
def D22 (t : List UInt8) (b : Bool) : List AO := [.blk 1 [[.bool b]] true, .blk 1 [[.str t]] true, .loop .ready none (tmL T22) [10, 11] f22_5 f22_11]
theorem p22 (hS : S.Good X) (hp69 : X.pr 69 = some (pureP gDec)) (hp35 : X.pr 35 = some (pureP g35)) (h68 : S.has 68 f68) (h45 : S.has 45 f45) (h22 : S.has 22 f22) : PrOk S 22 (pureP g22) := by
  refine pure_rel 22 fun s hc => ⟨rfl, rfl, ?_⟩
  refine MF.run hS h22 ([.one (.str s)] ++ List.replicate (f22.nt - f22.np) und) rfl rfl ?_
  refine run_sound hS (n := 17) (b := bm 20 [3, 8]) (s' := ⟨.normal, [.ops f22_2 1, .code f22_13, .code f22_16], tl 20 [(3, (.one (.ptr 0 0 0))), (8, (.one (.str (s))))], [(.blk 1 [[(.bool (decide (s ≠ [])))]] true)]⟩) (c := []) (by kernel_rfl) ⟨⟩ ?_
  refine SemS.call hS rfl (by kernel_rfl) (fv := (.one (.fn 45 []))) (by kernel_rfl) (vs := [(.one (.str (s)))]) (by kernel_rfl) (MCall.fn (MF.run hS h45 [(.one (.str (s))), und, und, und] rfl rfl ?_))
  refine run_sound hS (n := 11) (b := []) (s' := ⟨.ret, [], tl 4 [(0, (.one (.str (s)))), (1, (.one (.ptr 1 0 0))), (2, (.one (.fn 68 [(1, (0, 0))]))), (3, (.one (.fn 68 [(1, (0, 0))])))], [(.blk 1 [[(.bool (decide (s ≠ [])))]] true), (.blk 1 [[(.str (s))]] true)]⟩) (c := []) (by kernel_rfl) ⟨⟩ ?_
  refine SemS.done (.inl rfl) Abs.refl (v := (.one (.fn 68 [(1, (0, 0))]))) (by kernel_rfl) ⟨tl 20 [(3, (.one (.ptr 0 0 0))), (8, (.one (.str (s)))), (9, (.one (.fn 68 [(1, (0, 0))])))], by kernel_rfl, ?_⟩
  show SemS S X _ ⟨.normal, [.ops f22_2 2, .code f22_13, .code f22_16], tl 20 [(3, (.one (.ptr 0 0 0))), (8, (.one (.str (s)))), (9, (.one (.fn 68 [(1, (0, 0))])))], [(.blk 1 [[(.bool (decide (s ≠ [])))]] true), (.blk 1 [[(.str (s))]] true)]⟩ _
  refine run_sound hS (n := 2) (b := bm 20 [3, 9]) (s' := ⟨.normal, [.code f22_12, .blk 0, .code f22_16], T22, [(.blk 1 [[(.bool (decide (s ≠ [])))]] true), (.blk 1 [[(.str (s))]] true)]⟩) (c := []) (by kernel_rfl) ⟨⟩ ?_
  -- what comes behind the range
  have fin : ∀ (e : Ex) (b : Bool) (t : List UInt8), (e = .normal ∨ e = .exit 0) → b = lettersB s → SemS S X 0 ⟨e, [.blk 0, .code f22_16], T22, (D22 t b).set 2 .dead⟩ fun e T' H' => ∃ T1 H1, Abs S 0 T' H' T1 H1 ∧ (e = .ret ∨ e = .normal) ∧ ∃ v, evRes T1 H1 f22.res = some v ∧ v = AV.one (.bool (lettersB s)) := by
    rintro e b t (rfl | rfl) rfl
    · refine run_sound hS (n := 7) (b := []) (s' := ⟨.ret, [], tl 20 [(2, .one (.bool (lettersB s))), (3, (.one (.ptr 0 0 0))), (9, (.one (.fn 68 [(1, (0, 0))]))), (19, .one (.bool (lettersB s)))], (D22 t (lettersB s)).set 2 .dead⟩) (c := []) (by kernel_rfl) ⟨⟩ ?_
      exact SemS.done (.inl rfl) Abs.refl (v := .one (.bool (lettersB s))) (by kernel_rfl) rfl
    · refine run_sound hS (n := 7) (b := []) (s' := ⟨.ret, [], tl 20 [(2, .one (.bool (lettersB s))), (3, (.one (.ptr 0 0 0))), (9, (.one (.fn 68 [(1, (0, 0))]))), (19, .one (.bool (lettersB s)))], (D22 t (lettersB s)).set 2 .dead⟩) (c := []) (by kernel_rfl) ⟨⟩ ?_
      exact SemS.done (.inl rfl) Abs.refl (v := .one (.bool (lettersB s))) (by kernel_rfl) rfl
  refine SemS.rangeF hS (i := 68) (cap := [(1, 0, 0)]) (by kernel_rfl) ?_
  have key := all_iter hS hp69 h68 (α := { p : List UInt8 × Bool // lettersB s = (p.2 && LB (runes p.1)) ∧ (p.1 ≠ [] → p.2 = true) }) (fun p => D22 p.1.1 p.1.2) (fun p => p.1.1) 2 1
    (fun _ H' => ∃ st pend T0 ps0 as0 bd0 L', H' = hl L' ∧ L'.getD 2 .dead = .loop st pend T0 ps0 as0 bd0 ∧ st ≠ .busy ∧
      (match pend with
        | none => SemS S X 0 ⟨.normal, [.blk 0, .code f22_16], T22, L'.set 2 .dead⟩ fun e T' H' => ∃ T1 H1, Abs S 0 T' H' T1 H1 ∧ (e = .ret ∨ e = .normal) ∧ ∃ v, evRes T1 H1 f22.res = some v ∧ v = AV.one (.bool (lettersB s))
        | some e => SemS S X 0 ⟨e, [.blk 0, .code f22_16], T22, L'.set 2 .dead⟩ fun e T' H' => ∃ T1 H1, Abs S 0 T' H' T1 H1 ∧ (e = .ret ∨ e = .normal) ∧ ∃ v, evRes T1 H1 f22.res = some v ∧ v = AV.one (.bool (lettersB s)))) ⟨(s, decide (s ≠ [])), letters_LB s, fun h => decide_eq_true h⟩ ?_ ?_ ?_
  · exact key
  · rintro ⟨⟨t, b⟩, h⟩
    rfl
  · rintro ⟨⟨t, b⟩, h, hb⟩ hne
    simp only at h hb hne
    have hrc := runes_cons hne
    obtain rfl : b = true := hb hne
    rw [hrc, LB_cons, Bool.true_and] at h
    refine MCall.yldS hS (T := T22) rfl rfl (by kernel_rfl) ?_
    refine run_sound hS (n := 7) (b := []) (s' := ⟨.normal, [], tl 20 [(3, (.one (.ptr 0 0 0))), (4, (.one (.int .i32 (dec t).1))), (5, (.one (.bool (isR t)))), (9, (.one (.fn 68 [(1, (0, 0))]))), (10, (.one (.int .i32 (dec t).1))), (11, (.one (.bool (isR t))))], D22 t true⟩) (c := []) (by kernel_rfl) ⟨⟩ ?_
    refine ⟨rfl, _, _, rfl, rfl, rfl, ?_⟩
    refine run_sound hS (n := 5) (b := bm 20 [3, 4, 13]) (s' := ⟨.normal, [.ops f22_6 2, .code f22_9, .blk 1], tl 20 [(3, (.one (.ptr 0 0 0))), (4, (.one (.int .i32 ((↑(dec t).fst : Int))))), (13, (.one (.bool (isR t))))], [(.blk 1 [[(.bool true)]] true), (.blk 1 [[(.str (t))]] true), (.loop .busy none (tmL T22) [10, 11] f22_5 f22_11)]⟩) (c := []) (by kernel_rfl) ⟨⟩ ?_
    cases hb0 : isR t
    · refine run_sound hS (n := 13) (b := []) (s' := ⟨(.exit 0), [], tl 20 [(3, (.one (.ptr 0 0 0))), (4, (.one (.int .i32 ((↑(dec t).fst : Int))))), (13, (.one (.bool false))), (14, und), (15, und), (16, (.one (.bool false))), (17, (.one (.bool false))), (18, (.one (.bool true)))], [(.blk 1 [[(.bool false)]] true), (.blk 1 [[(.str (t))]] true), (.loop .busy none (tmL T22) [10, 11] f22_5 f22_11)]⟩) (c := []) (by kernel_rfl) ⟨⟩ ?_
      refine ⟨_, _, _, _, _, _, rfl, rfl, ?_⟩
      refine ⟨_, rfl, .inr ⟨rfl, _, _, _, _, _, _, _, rfl, rfl, by simp, fin (.exit 0) false t (.inr rfl) ?_⟩⟩
      rw [h, hb0]; rfl
    · refine run_sound hS (n := 1) (b := bm 20 [3, 13, 14]) (s' := ⟨.normal, [.ops f22_6 3, .code f22_9, .blk 1], tl 20 [(3, (.one (.ptr 0 0 0))), (13, (.one (.bool true))), (14, (.one (.int .i32 ((↑(dec t).fst : Int)))))], [(.blk 1 [[(.bool true)]] true), (.blk 1 [[(.str (t))]] true), (.loop .busy none (tmL T22) [10, 11] f22_5 f22_11)]⟩) (c := []) (by kernel_rfl) ⟨⟩ ?_
      refine SemS.callP hS hp35 rfl (by kernel_rfl) (by kernel_rfl) (vs := [(.one (.int .i32 ((↑(dec t).fst : Int))))]) (by kernel_rfl) (v := (.one (.bool (letterB (↑(dec t).fst : Int))))) (c := []) (c35 ((↑(dec t).fst : Int))) ⟨⟩ (T' := tl 20 [(3, (.one (.ptr 0 0 0))), (13, (.one (.bool true))), (14, (.one (.int .i32 ((↑(dec t).fst : Int))))), (15, (.one (.bool (letterB (↑(dec t).fst : Int)))))]) (by kernel_rfl) ?_
      refine run_sound hS (n := 8) (b := bm 20 [3, 18]) (s' := ⟨.normal, [.code f22_8, .blk 1], tl 20 [(3, (.one (.ptr 0 0 0))), (18, (.one (.bool (!letterB (↑(dec t).fst : Int)))))], [(.blk 1 [[(.bool (letterB (↑(dec t).fst : Int)))]] true), (.blk 1 [[(.str (t))]] true), (.loop .busy none (tmL T22) [10, 11] f22_5 f22_11)]⟩) (c := []) (by kernel_rfl) ⟨⟩ ?_
      cases hb1 : letterB (↑(dec t).fst : Int)
      · refine run_sound hS (n := 3) (b := []) (s' := ⟨(.exit 0), [], tl 20 [(3, (.one (.ptr 0 0 0))), (18, (.one (.bool true)))], [(.blk 1 [[(.bool false)]] true), (.blk 1 [[(.str (t))]] true), (.loop .busy none (tmL T22) [10, 11] f22_5 f22_11)]⟩) (c := []) (by kernel_rfl) ⟨⟩ ?_
        refine ⟨_, _, _, _, _, _, rfl, rfl, ?_⟩
        refine ⟨_, rfl, .inr ⟨rfl, _, _, _, _, _, _, _, rfl, rfl, by simp, fin (.exit 0) false t (.inr rfl) ?_⟩⟩
        rw [h, hb0]; show false = ((true && letterB ((dec t).1 : Int)) && _); rw [hb1]; rfl
      · refine run_sound hS (n := 3) (b := []) (s' := ⟨.normal, [], tl 20 [(3, (.one (.ptr 0 0 0))), (18, (.one (.bool false)))], [(.blk 1 [[(.bool true)]] true), (.blk 1 [[(.str (t))]] true), (.loop .busy none (tmL T22) [10, 11] f22_5 f22_11)]⟩) (c := []) (by kernel_rfl) ⟨⟩ ?_
        refine ⟨_, _, _, _, _, _, rfl, rfl, ?_⟩
        refine ⟨_, rfl, .inl ⟨rfl, rfl, ⟨(t.drop (dec t).2, true), ?_, fun _ => rfl⟩, rfl, ?_⟩⟩
        · rw [h, hb0]; show ((true && letterB ((dec t).1 : Int)) && _) = _; rw [hb1]; rfl
        · exact abs_l [0, 1, 2] [] 26 [(0, .one (.yld 2)), (1, .one (.ptr 1 0 0))] (by kernel_rfl) ⟨⟩ ⟨.eq rfl rfl, .eq rfl rfl, .loopL rfl ⟨.ptrB rfl rfl, .fn1 rfl rfl, ⟨⟩⟩, ⟨⟩⟩ ⟨.yldB rfl rfl, .ptrB rfl rfl, ⟨⟩⟩
  · rintro ⟨⟨t, b⟩, h, hb⟩ ht
    simp only at ht h
    subst ht
    exact ⟨_, _, _, _, _, _, _, rfl, rfl, by simp, fin .normal b [] (.inl rfl) (by rw [h, runes_nil]; show b = (b && true); rw [Bool.and_true])⟩
end
end Go.EA
