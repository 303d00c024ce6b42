/- Layer 1: what functions that compare mean. Conditions: none. -/
import Derived.Test.YtmfjbaepgfdfpaaDoorEOrder
set_option linter.unusedVariables false
set_option linter.unusedSimpArgs false
namespace Go.EA
def cmpI (x y : Int) : Int := if x < y then -1 else if y < x then 1 else 0
theorem not_ne2 {x : Int} (h : ¬ x ≠ 0) : x = 0 := by omega
theorem cmpI_z {x y : Int} (h : ¬ cmpI x y ≠ 0) : ¬ x < y ∧ ¬ y < x := by
  unfold cmpI at h
  constructor
  · intro g; rw [if_pos g] at h; simp at h
  · intro g; rw [if_neg (by omega), if_pos g] at h; simp at h
theorem cmpL_bd : ∀ (a b : List Int), -1 ≤ cmpL a b ∧ cmpL a b ≤ 1
  | [], [] => by simp [cmpL]
  | [], _ :: _ => by simp [cmpL]
  | _ :: _, [] => by simp [cmpL]
  | x :: a, y :: b => by
    unfold cmpL
    split
    · omega
    · split
      · omega
      · exact cmpL_bd a b
theorem wrp64 {z : Int} (h : -9223372036854775808 ≤ z ∧ z ≤ 9223372036854775807) : IntKind.i64.wrap z = z := by
  have e : IntKind.i64.wrap z = (if z % 18446744073709551616 ≥ 9223372036854775808 then z % 18446744073709551616 - 18446744073709551616 else z % 18446744073709551616) := by
    show (if (true && decide _) = true then _ else _) = _
    simp only [Bool.true_and, decide_eq_true_eq]
    rfl
  rw [e]
  split <;> omega
theorem neg_wrap (a b : List Int) : cmpL a b = IntKind.i64.wrap (0 - cmpL b a) := by
  have h := cmpL_bd b a
  rw [wrp64 (by omega), cmpL_neg a b]
  omega
theorem half_cmp (x : List Int) : cmpL (List.take (((↑(R32 x).length : Int).tdiv 2).toNat - 0) x) x = IntKind.i64.wrap (0 - if false = true then if 1 < (↑(R32 x).length : Int) - (↑(R32 x).length : Int).tdiv 2 then (↑(R32 x).length : Int) - (↑(R32 x).length : Int).tdiv 2 else 1 else if (↑(R32 x).length : Int) - (↑(R32 x).length : Int).tdiv 2 < 1 then (↑(R32 x).length : Int) - (↑(R32 x).length : Int).tdiv 2 else 1) := by
  have e : (R32 x).length = x.length := List.length_map ..
  rw [e, Int.tdiv_eq_ediv_of_nonneg (by omega), cmpL_take, if_neg Bool.false_ne_true]
  by_cases h : x.length = 0
  · rw [h]; rfl
  · rw [if_pos (by omega), if_neg (by omega)]; rfl
def pII (p : Int × Int) : List AV := [.one (.int .i32 p.1), .one (.int .i32 p.2)]
theorem pII_inj (a b : Int × Int) (h : pII a = pII b) : a = b := by
  obtain ⟨a1, a2⟩ := a; obtain ⟨b1, b2⟩ := b; simpa [pII] using h
def pSS (p : List UInt8 × List UInt8) : List AV := [.one (.str p.1), .one (.str p.2)]
theorem pSS_inj (a b : List UInt8 × List UInt8) (h : pSS a = pSS b) : a = b := by
  obtain ⟨a1, a2⟩ := a; obtain ⟨b1, b2⟩ := b; simpa [pSS] using h
def pRRF (p : List Int × List Int) : List AV := [.one (.vrow 1 (R32 p.1)), .one (.vrow 1 (R32 p.2)), .one (.fn 48 [])]
theorem pRRF_inj (a b : List Int × List Int) (h : pRRF a = pRRF b) : a = b := by
  simp only [pRRF, List.cons.injEq, AV.one.injEq, Lf.vrow.injEq, true_and, and_true] at h
  exact Prod.ext (R32_inj h.1) (R32_inj h.2)
noncomputable def g70 : GP := relG pI fun r => (.one (.bool false), [])
theorem c70 (r : Int) : g70 [.one (.int .i32 r)] = some (.one (.bool false), []) := relG_eq pI_inj r
noncomputable def g48 : GP := relG pII fun p => (.one (.int .i64 (cmpI p.1 p.2)), [])
theorem c48 (x y : Int) : g48 [.one (.int .i32 x), .one (.int .i32 y)] = some (.one (.int .i64 (cmpI x y)), []) := relG_eq pII_inj (x, y)
noncomputable def g47 : GP := relG pRRF fun p => (.one (.int .i64 (cmpL p.1 p.2)), [p.1.length ≤ 1099511627776])
theorem c47 (a b : List Int) : g47 [.one (.vrow 1 (R32 a)), .one (.vrow 1 (R32 b)), .one (.fn 48 [])] = some (.one (.int .i64 (cmpL a b)), [a.length ≤ 1099511627776]) := relG_eq pRRF_inj (a, b)
noncomputable def g24 : GP := relG pRR fun p => (.one (.int .i64 (cmpL p.1 p.2)), [p.1.length ≤ 1099511627776])
theorem c24 (a b : List Int) : g24 [.one (.vrow 1 (R32 a)), .one (.vrow 1 (R32 b))] = some (.one (.int .i64 (cmpL a b)), [a.length ≤ 1099511627776]) := relG_eq pRR_inj (a, b)
noncomputable def g25 : GP := relG pSS fun p => (.one (.int .i64 (Go.Lib.compareBytes p.1 p.2)), [])
theorem c25 (a b : List UInt8) : g25 [.one (.str a), .one (.str b)] = some (.one (.int .i64 (Go.Lib.compareBytes a b)), []) := relG_eq pSS_inj (a, b)
end Go.EA
