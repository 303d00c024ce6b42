/- A text's runes (runes.Decode). Conditions: none. -/
import Derived.Test.YtngcpifknomecaaDoorEIterAll
import Derived.Test.YtngcpifknomecaaDoorEK4
import Derived.Test.YtngcpifknomecaaDoorEMean1
set_option linter.unusedVariables false
set_option linter.unusedSimpArgs false
set_option maxRecDepth 10000
namespace Go.EA
open F
section
variable {S : SC} {X : Cx}
def T17 : List AV := tl 17 [(2, (.one (.ptr 0 0 0))), (3, (.one (.ptr 1 0 0))), (7, (.one (.fn 68 [(2, (0, 0))])))]
def D17 (s : List UInt8) : List Int → List AO
  | [] => [.blk 1 [[.nils]] true, .blk 1 [[.int .i64 0]] true, .blk 1 [[.str s]] true, .loop .ready none (tmL T17) [8, 9] f17_4 f17_12]
  | x :: o => [.blk 1 [[.sl 4 0 (x :: o).length]] true, .blk 1 [[.int .i64 0]] true, .blk 1 [[.str s]] true, .loop .ready none (tmL T17) [8, 9] f17_4 f17_12, .blk 1 ((x :: o).map fun r => [.int .i32 r]) true]
theorem p17 (hS : S.Good X) (hp69 : X.pr 69 = some (pureP gDec)) (h68 : S.has 68 f68) (h45 : S.has 45 f45) (h17 : S.has 17 f17) : PrOk S 17 (pureP g17) := by
  refine pure_rel 17 fun s hc => ?_
  have hlen : s.length ≤ 1099511627776 := hc.1
  refine ⟨rfl, rfl, ?_⟩
  refine MF.run hS h17 [.one (.str s), und, und, und, und, und, und, und, und, und, und, und, und, und, und, und, und] rfl rfl ?_
  refine run_sound hS (n := 9) (b := bm 17 [2, 3, 6]) (s' := ⟨.normal, [.ops f17_1 1, .code f17_14, .code f17_17], tl 17 [(2, (.one (.ptr 0 0 0))), (3, (.one (.ptr 1 0 0))), (6, (.one (.str (s))))], [(.blk 1 [[.nils]] true), (.blk 1 [[(.int .i64 0)]] true)]⟩) (c := []) (by kernel_rfl) ⟨⟩ ?_
  refine SemS.call hS rfl (by kernel_rfl) (fv := (.one (.fn 45 []))) (by kernel_rfl) (vs := [(.one (.str (s)))]) (by kernel_rfl) (MCall.fn (MF.run hS h45 [(.one (.str (s))), und, und, und] rfl rfl ?_))
  refine run_sound hS (n := 11) (b := []) (s' := ⟨.ret, [], tl 4 [(0, (.one (.str (s)))), (1, (.one (.ptr 2 0 0))), (2, (.one (.fn 68 [(2, (0, 0))]))), (3, (.one (.fn 68 [(2, (0, 0))])))], [(.blk 1 [[.nils]] true), (.blk 1 [[(.int .i64 0)]] true), (.blk 1 [[(.str (s))]] true)]⟩) (c := []) (by kernel_rfl) ⟨⟩ ?_
  refine SemS.done (.inl rfl) Abs.refl (v := (.one (.fn 68 [(2, (0, 0))]))) (by kernel_rfl) ⟨tl 17 [(2, (.one (.ptr 0 0 0))), (3, (.one (.ptr 1 0 0))), (6, (.one (.str (s)))), (7, (.one (.fn 68 [(2, (0, 0))])))], by kernel_rfl, ?_⟩
  show SemS S X _ ⟨.normal, [.ops f17_1 2, .code f17_14, .code f17_17], tl 17 [(2, (.one (.ptr 0 0 0))), (3, (.one (.ptr 1 0 0))), (6, (.one (.str (s)))), (7, (.one (.fn 68 [(2, (0, 0))])))], [(.blk 1 [[.nils]] true), (.blk 1 [[(.int .i64 0)]] true), (.blk 1 [[(.str (s))]] true)]⟩ _
  refine run_sound hS (n := 2) (b := bm 17 [2, 3, 7]) (s' := ⟨.normal, [.code f17_13, .blk 0, .code f17_17], T17, [(.blk 1 [[.nils]] true), (.blk 1 [[(.int .i64 0)]] true), (.blk 1 [[(.str (s))]] true)]⟩) (c := []) (by kernel_rfl) ⟨⟩ ?_
  -- what comes behind the range
  have fin0 : ∀ o : List Int, runes s = o.map (fun r => (r, true)) → SemS S X 0 ⟨.normal, [.blk 0, .code f17_17], T17, (D17 [] o).set 3 .dead⟩ fun e T' H' => ∃ T1 H1, Abs S 0 T' H' T1 H1 ∧ (e = .ret ∨ e = .normal) ∧ ∃ v, evRes T1 H1 f17.res = some v ∧ v = AV.tup [.one (.vrow 1 ((decR s).map fun r => [.int .i32 r])), .one (.int .i64 (decE s))] := by
    intro o ho
    have hok : decOk s = true := by unfold decOk; rw [ho]; simp
    have hR : decR s = o := by unfold decR; rw [hok, ho]; simp [Function.comp_def]
    have hE : decE s = 0 := by unfold decE; rw [hok]; rfl
    rw [hR, hE]
    cases o with
    | nil =>
      refine run_sound hS (n := 8) (b := []) (s' := ⟨.ret, [], tl 17 [(2, (.one (.ptr 0 0 0))), (3, (.one (.ptr 1 0 0))), (7, (.one (.fn 68 [(2, (0, 0))]))), (16, (.one .nils))], [(.blk 1 [[.nils]] true), (.blk 1 [[(.int .i64 0)]] true), (.blk 1 [[(.str [])]] true), .dead]⟩) (c := []) (by kernel_rfl) ⟨⟩ ?_
      refine SemS.done (.inl rfl) (abs_l (L1 := [(.blk 1 [[.vrow 1 []]] true), (.blk 1 [[(.int .i64 0)]] true)]) [0, 1] [] 17 [(2, (.one (.ptr 0 0 0))), (3, (.one (.ptr 1 0 0)))] (by kernel_rfl) ⟨⟩ ⟨.box .nil, .eq rfl rfl, ⟨⟩⟩ ⟨.ptrB rfl rfl, .ptrB rfl rfl, ⟨⟩⟩) (v := .tup [.one (.vrow 1 []), .one (.int .i64 0)]) (by kernel_rfl) rfl
    | cons x r =>
      refine run_sound hS (n := 8) (b := []) (s' := ⟨.ret, [], tl 17 [(2, (.one (.ptr 0 0 0))), (3, (.one (.ptr 1 0 0))), (7, (.one (.fn 68 [(2, (0, 0))]))), (16, (.one (.sl 4 0 (x :: r).length)))], [(.blk 1 [[.sl 4 0 (x :: r).length]] true), (.blk 1 [[(.int .i64 0)]] true), (.blk 1 [[(.str [])]] true), .dead, .blk 1 ((x :: r).map fun r => [.int .i32 r]) true]⟩) (c := []) (by kernel_rfl) ⟨⟩ ?_
      refine SemS.done (.inl rfl) (abs_l (L1 := [(.blk 1 [[.vrow 1 ((x :: r).map fun r => [.int .i32 r])]] true), (.blk 1 [[(.int .i64 0)]] true)]) [0, 1] [4] 17 [(2, (.one (.ptr 0 0 0))), (3, (.one (.ptr 1 0 0)))] (by kernel_rfl) ⟨⟨1, _, rfl, by simp [elsClosed, Lf.closed]⟩, ⟨⟩⟩
        ⟨.box (.row0 (by simp) rfl (by simp) rfl), .eq rfl rfl, ⟨⟩⟩ ⟨.ptrB rfl rfl, .ptrB rfl rfl, ⟨⟩⟩) (v := .tup [.one (.vrow 1 ((x :: r).map fun r => [.int .i32 r])), .one (.int .i64 0)]) (by kernel_rfl) rfl
  have fin1 : decOk s = false → ∀ L : List AO, L.getD 0 .dead = .blk 1 [[.nils]] true → L.getD 1 .dead = .blk 1 [[.int .i64 3]] true → SemS S X 0 ⟨.ret, [.blk 0, .code f17_17], T17, L⟩ fun e T' H' => ∃ T1 H1, Abs S 0 T' H' T1 H1 ∧ (e = .ret ∨ e = .normal) ∧ ∃ v, evRes T1 H1 f17.res = some v ∧ v = AV.tup [.one (.vrow 1 ((decR s).map fun r => [.int .i32 r])), .one (.int .i64 (decE s))] := by
    intro hok L h0 h1
    have hR : decR s = [] := by unfold decR; rw [hok]; rfl
    have hE : decE s = 3 := by unfold decE; rw [hok]; rfl
    rw [hR, hE]
    refine Sem.ret ?_
    have hl : 2 ≤ L.length := by
      have := hl_lt (L := L) (b := 1) (by rw [h1]; simp)
      omega
    obtain ⟨x, L, rfl⟩ : ∃ x L', L = x :: L' := by cases L with | nil => simp at hl | cons x L' => exact ⟨x, L', rfl⟩
    obtain ⟨y, L, rfl⟩ : ∃ x L', L = x :: L' := by cases L with | nil => simp at hl | cons x L' => exact ⟨x, L', rfl⟩
    simp only [List.getD_cons_zero, List.getD_cons_succ] at h0 h1
    subst h0 h1
    exact SemS.done (S := S) (X := X) (m := 0) (T := T17) (e := .ret) (L := (.blk 1 [[.nils]] true) :: (.blk 1 [[.int .i64 3]] true) :: L) (rs := f17.res) (Q := fun v _ => v = AV.tup [.one (.vrow 1 []), .one (.int .i64 3)]) (.inl rfl) (abs_l (L1 := [(.blk 1 [[.vrow 1 []]] true), (.blk 1 [[(.int .i64 3)]] true)]) [0, 1] [] 17 [(2, (.one (.ptr 0 0 0))), (3, (.one (.ptr 1 0 0)))] (by kernel_rfl) ⟨⟩ ⟨.box .nil, .eq rfl rfl, ⟨⟩⟩ ⟨.ptrB rfl rfl, .ptrB rfl rfl, ⟨⟩⟩) (v := .tup [.one (.vrow 1 []), .one (.int .i64 3)]) (by kernel_rfl) rfl
  refine SemS.rangeF hS (i := 68) (cap := [(2, 0, 0)]) (by kernel_rfl) ?_
  have key := all_iter hS hp69 h68 (α := { p : List UInt8 × List Int // runes s = (p.2.map fun r => (r, true)) ++ runes p.1 }) (fun p => D17 p.1.1 p.1.2) (fun p => p.1.1) 3 2
    (fun _ H' => ∃ st pend T0 ps0 as0 bd0 L', H' = hl L' ∧ L'.getD 3 .dead = .loop st pend T0 ps0 as0 bd0 ∧ st ≠ .busy ∧
      (match pend with
        | none => SemS S X 0 ⟨.normal, [.blk 0, .code f17_17], T17, L'.set 3 .dead⟩ fun e T' H' => ∃ T1 H1, Abs S 0 T' H' T1 H1 ∧ (e = .ret ∨ e = .normal) ∧ ∃ v, evRes T1 H1 f17.res = some v ∧ v = AV.tup [.one (.vrow 1 ((decR s).map fun r => [.int .i32 r])), .one (.int .i64 (decE s))]
        | some e => SemS S X 0 ⟨e, [.blk 0, .code f17_17], T17, L'.set 3 .dead⟩ fun e T' H' => ∃ T1 H1, Abs S 0 T' H' T1 H1 ∧ (e = .ret ∨ e = .normal) ∧ ∃ v, evRes T1 H1 f17.res = some v ∧ v = AV.tup [.one (.vrow 1 ((decR s).map fun r => [.int .i32 r])), .one (.int .i64 (decE s))])) ⟨(s, []), by simp⟩ ?_ ?_ ?_
  · exact key
  · rintro ⟨⟨t, o⟩, h⟩
    cases o <;> rfl
  · rintro ⟨⟨t, o⟩, h⟩ hne
    simp only at h hne
    have hrc := runes_cons hne
    have hol : o.length + 1 ≤ 1099511627776 := by
      have := runes_len s
      rw [h, hrc] at this
      simp at this
      omega
    have hir : (runes t) = (((dec t).1 : Int), isR t) :: runes (t.drop (dec t).2) := hrc
    cases o with
    | nil =>
      refine MCall.yldS hS (T := T17) rfl rfl (by kernel_rfl) ?_
      refine run_sound hS (n := 7) (b := []) (s' := ⟨.normal, [], tl 17 [(2, (.one (.ptr 0 0 0))), (3, (.one (.ptr 1 0 0))), (4, (.one (.int .i32 (dec t).1))), (5, (.one (.bool (isR t)))), (7, (.one (.fn 68 [(2, (0, 0))]))), (8, (.one (.int .i32 (dec t).1))), (9, (.one (.bool (isR t))))], D17 t []⟩) (c := []) (by kernel_rfl) ⟨⟩ ?_
      refine ⟨rfl, _, _, rfl, rfl, rfl, ?_⟩
      refine run_sound hS (n := 7) (b := bm 17 [2, 3, 4, 11]) (s' := ⟨.normal, [.code f17_8, .code (.reg f17_10), .blk 1], tl 17 [(2, (.one (.ptr 0 0 0))), (3, (.one (.ptr 1 0 0))), (4, (.one (.int .i32 (dec t).1))), (11, (.one (.bool (!isR t))))], [(.blk 1 [[.nils]] true), (.blk 1 [[(.int .i64 0)]] true), (.blk 1 [[(.str t)]] true), (.loop .busy none (tmL T17) [8, 9] f17_4 f17_12)]⟩) (c := []) (by kernel_rfl) ⟨⟩ ?_
      cases hb0 : isR t
      · refine run_sound hS (n := 7) (b := []) (s' := ⟨.ret, [], tl 17 [(2, (.one (.ptr 0 0 0))), (3, (.one (.ptr 1 0 0))), (4, (.one (.int .i32 (dec t).1))), (11, (.one (.bool true)))], [(.blk 1 [[.nils]] true), (.blk 1 [[(.int .i64 3)]] true), (.blk 1 [[(.str t)]] true), (.loop .busy none (tmL T17) [8, 9] f17_4 f17_12)]⟩) (c := []) (by kernel_rfl) ⟨⟩ ?_
        refine ⟨_, _, _, _, _, _, rfl, rfl, ?_⟩
        refine ⟨_, rfl, .inr ⟨rfl, _, _, _, _, _, _, _, rfl, rfl, by simp, fin1 ?_ _ rfl rfl⟩⟩
        unfold decOk; rw [h, hir, hb0]; simp
      · refine run_sound hS (n := 10) (b := []) (s' := ⟨.normal, [], tl 17 [(2, (.one (.ptr 0 0 0))), (3, (.one (.ptr 1 0 0))), (4, (.one (.int .i32 (dec t).1))), (11, (.one (.bool false))), (12, (.one .nils)), (13, (.one (.int .i32 (dec t).1))), (14, (.one (.sl 4 0 1))), (15, (.one (.sl 5 0 1)))], [(.blk 1 [[(.sl 5 0 1)]] true), (.blk 1 [[(.int .i64 0)]] true), (.blk 1 [[(.str t)]] true), (.loop .busy none (tmL T17) [8, 9] f17_4 f17_12), (.blk 1 [[(.int .i32 (dec t).1)]] true), (.blk 1 [[(.int .i32 (dec t).1)]] true)]⟩) (c := [1 * 4 ≤ 140737488355328]) (by kernel_rfl) ⟨by omega, ⟨⟩⟩ ?_
        refine ⟨_, _, _, _, _, _, rfl, rfl, ?_⟩
        refine ⟨_, rfl, .inl ⟨rfl, rfl, ⟨(t.drop (dec t).2, [((dec t).1 : Int)]), by rw [h, hir, hb0]; simp⟩, rfl, ?_⟩⟩
        exact abs_l [0, 1, 2, 3, 5] [] 26 [(0, .one (.yld 3)), (1, .one (.ptr 2 0 0))] (by kernel_rfl) ⟨⟩ ⟨.box (.slB rfl rfl rfl), .eq rfl rfl, .eq rfl rfl, .loopL rfl ⟨.ptrB rfl rfl, .ptrB rfl rfl, .fn1 rfl rfl, ⟨⟩⟩, .eq rfl rfl, ⟨⟩⟩ ⟨.yldB rfl rfl, .ptrB rfl rfl, ⟨⟩⟩
    | cons x o =>
      refine MCall.yldS hS (T := T17) rfl rfl (by kernel_rfl) ?_
      refine run_sound hS (n := 7) (b := []) (s' := ⟨.normal, [], tl 17 [(2, (.one (.ptr 0 0 0))), (3, (.one (.ptr 1 0 0))), (4, (.one (.int .i32 (dec t).1))), (5, (.one (.bool (isR t)))), (7, (.one (.fn 68 [(2, (0, 0))]))), (8, (.one (.int .i32 (dec t).1))), (9, (.one (.bool (isR t))))], D17 t (x :: o)⟩) (c := []) (by kernel_rfl) ⟨⟩ ?_
      refine ⟨rfl, _, _, rfl, rfl, rfl, ?_⟩
      refine run_sound hS (n := 7) (b := bm 17 [2, 3, 4, 11]) (s' := ⟨.normal, [.code f17_8, .code (.reg f17_10), .blk 1], tl 17 [(2, (.one (.ptr 0 0 0))), (3, (.one (.ptr 1 0 0))), (4, (.one (.int .i32 (dec t).1))), (11, (.one (.bool (!isR t))))], [(.blk 1 [[.sl 4 0 (x :: o).length]] true), (.blk 1 [[(.int .i64 0)]] true), (.blk 1 [[(.str t)]] true), (.loop .busy none (tmL T17) [8, 9] f17_4 f17_12), .blk 1 ((x :: o).map fun r => [.int .i32 r]) true]⟩) (c := []) (by kernel_rfl) ⟨⟩ ?_
      cases hb0 : isR t
      · refine run_sound hS (n := 7) (b := []) (s' := ⟨.ret, [], tl 17 [(2, (.one (.ptr 0 0 0))), (3, (.one (.ptr 1 0 0))), (4, (.one (.int .i32 (dec t).1))), (11, (.one (.bool true)))], [(.blk 1 [[.nils]] true), (.blk 1 [[(.int .i64 3)]] true), (.blk 1 [[(.str t)]] true), (.loop .busy none (tmL T17) [8, 9] f17_4 f17_12), .blk 1 ((x :: o).map fun r => [.int .i32 r]) true]⟩) (c := []) (by kernel_rfl) ⟨⟩ ?_
        refine ⟨_, _, _, _, _, _, rfl, rfl, ?_⟩
        refine ⟨_, rfl, .inr ⟨rfl, _, _, _, _, _, _, _, rfl, rfl, by simp, fin1 ?_ _ rfl rfl⟩⟩
        unfold decOk; rw [h, hir, hb0]; simp
      · refine run_sound hS (n := 10) (b := []) (s' := ⟨.normal, [], tl 17 [(2, (.one (.ptr 0 0 0))), (3, (.one (.ptr 1 0 0))), (4, (.one (.int .i32 (dec t).1))), (11, (.one (.bool false))), (12, (.one (.sl 4 0 (x :: o).length))), (13, (.one (.int .i32 (dec t).1))), (14, (.one (.sl 5 0 1))), (15, (.one (.sl 6 0 ((x :: o).length + 1))))], [(.blk 1 [[(.sl 6 0 ((x :: o).length + 1))]] true), (.blk 1 [[(.int .i64 0)]] true), (.blk 1 [[(.str t)]] true), (.loop .busy none (tmL T17) [8, 9] f17_4 f17_12), .dead, (.blk 1 [[(.int .i32 (dec t).1)]] true), (.blk 1 (List.take (x :: o).length (List.map (fun r => [.int .i32 r]) (x :: o)) ++ [[.int .i32 (dec t).1]]) true)]⟩) (c := [0 + (x :: o).length ≤ (List.map (fun r : Int => [Lf.int .i32 r]) (x :: o)).length ∧ ((x :: o).length + 1) * 4 ≤ 140737488355328]) (by kernel_rfl) ⟨by simp only [List.length_map, List.length_cons] at hol ⊢; omega, ⟨⟩⟩ ?_
        refine ⟨_, _, _, _, _, _, rfl, rfl, ?_⟩
        refine ⟨_, rfl, .inl ⟨rfl, rfl, ⟨(t.drop (dec t).2, x :: (o ++ [((dec t).1 : Int)])), by rw [h, hir, hb0]; simp⟩, rfl, ?_⟩⟩
        exact abs_l [0, 1, 2, 3, 6] [] 26 [(0, .one (.yld 3)), (1, .one (.ptr 2 0 0))] (by kernel_rfl) ⟨⟩ ⟨.box (.slB rfl rfl (by simp)), .eq rfl rfl, .eq rfl rfl, .loopL rfl ⟨.ptrB rfl rfl, .ptrB rfl rfl, .fn1 rfl rfl, ⟨⟩⟩, .eq (by simp [List.take_of_length_le]) (by simp [elsClosed, Lf.closed]), ⟨⟩⟩ ⟨.yldB rfl rfl, .ptrB rfl rfl, ⟨⟩⟩
  · rintro ⟨⟨t, o⟩, h⟩ ht
    simp only at ht h
    subst ht
    have hro : runes s = o.map (fun r => (r, true)) := by rw [h]; simp [runes_nil]
    cases o with
    | nil => exact ⟨_, _, _, _, _, _, _, rfl, rfl, by simp, fin0 [] hro⟩
    | cons x r => exact ⟨_, _, _, _, _, _, _, rfl, rfl, by simp, fin0 (x :: r) hro⟩
end
end Go.EA
