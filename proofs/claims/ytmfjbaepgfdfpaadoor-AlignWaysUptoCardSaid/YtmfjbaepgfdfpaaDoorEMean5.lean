/- Layer 1: what functions that encode mean. Conditions: none. -/
import Derived.Test.YtmfjbaepgfdfpaaDoorEMean4
set_option linter.unusedVariables false
set_option linter.unusedSimpArgs false
namespace Go.EA
noncomputable def g54 : GP := relG pI fun r => (.one (.bool (!Utf8.valid r)), [])
theorem c54 (r : Int) : g54 [.one (.int .i32 r)] = some (.one (.bool (!Utf8.valid r)), []) := relG_eq pI_inj r
def badI (l : List Int) : Int := if l.all Utf8.valid then -1 else (l.findIdx fun r => !Utf8.valid r : Nat)
def pRF (l : List Int) : List AV := [.one (.vrow 1 (R32 l)), .one (.fn 54 [])]
theorem pRF_inj (a b : List Int) (h : pRF a = pRF b) : a = b := by
  simp only [pRF, List.cons.injEq, AV.one.injEq, Lf.vrow.injEq, true_and, and_true] at h
  exact R32_inj h
noncomputable def g74 : GP := relG pRF fun l => (.one (.int .i64 (badI l)), [l.length ≤ 140737488355328])
theorem c74 (l : List Int) : g74 [.one (.vrow 1 (R32 l)), .one (.fn 54 [])] = some (.one (.int .i64 (badI l)), [l.length ≤ 140737488355328]) := relG_eq pRF_inj l
noncomputable def g53 : GP := relG pRF fun l => (.one (.bool (!l.all Utf8.valid)), [l.length ≤ 140737488355328])
theorem c53 (l : List Int) : g53 [.one (.vrow 1 (R32 l)), .one (.fn 54 [])] = some (.one (.bool (!l.all Utf8.valid)), [l.length ≤ 140737488355328]) := relG_eq pRF_inj l
theorem bad_end {l : List Int} {i : Nat} (h : ¬ (i : Int) < l.length) (ha : (l.take i).all Utf8.valid = true) : badI l = -1 := by
  rw [List.take_of_length_le (by omega)] at ha
  unfold badI
  rw [if_pos ha]
theorem bad_hit {l : List Int} {i : Nat} (h : (i : Int) < l.length) (h2 : Utf8.valid (l.getD i 0) = false) (ha : (l.take i).all Utf8.valid = true) : badI l = i := by
  have hi : i < l.length := by omega
  rw [List.getD_eq_getElem?_getD, List.getElem?_eq_getElem hi, Option.getD_some] at h2
  have hn : l.all Utf8.valid = false := by
    rw [List.all_eq_false]
    exact ⟨l[i], List.getElem_mem hi, by rw [h2]; simp⟩
  unfold badI
  rw [hn, if_neg (by simp)]
  congr 1
  rw [List.findIdx_eq hi]
  refine ⟨by rw [h2]; rfl, fun j hj => ?_⟩
  rw [List.all_eq_true] at ha
  have := ha l[j] (List.mem_take_iff_getElem.2 ⟨j, by omega, rfl⟩)
  rw [this]; rfl
theorem bad_step {l : List Int} {i : Nat} (h : (i : Int) < l.length) (h2 : Utf8.valid (l.getD i 0) = true) (ha : (l.take i).all Utf8.valid = true) : (l.take (i + 1)).all Utf8.valid = true := by
  have hi : i < l.length := by omega
  rw [List.getD_eq_getElem?_getD, List.getElem?_eq_getElem hi] at h2
  rw [List.take_add_one, List.all_append, ha, List.getElem?_eq_getElem hi]
  simpa using h2
theorem bad_sgn (l : List Int) : decide (0 ≤ badI l) = !l.all Utf8.valid := by
  unfold badI
  cases l.all Utf8.valid
  · simp
  · simp
/-- A row's bytes. -/
def encL (l : List Int) : List UInt8 := (l.map encB).flatten
def encE (l : List Int) : Int := if l.all Utf8.valid then 0 else 3
def encT (l : List Int) : List UInt8 := if l.all Utf8.valid then encL l else []
def pR (l : List Int) : List AV := [.one (.vrow 1 (R32 l))]
theorem pR_inj (a b : List Int) (h : pR a = pR b) : a = b := by
  simp only [pR, List.cons.injEq, AV.one.injEq, Lf.vrow.injEq, true_and, and_true] at h
  exact R32_inj h
noncomputable def g33 : GP := relG pR fun l => (.tup [.one (.str (encT l)), .one (.int .i64 (encE l))], [l.length ≤ 1099511627776])
theorem c33 (l : List Int) : g33 [.one (.vrow 1 (R32 l))] = some (.tup [.one (.str (encT l)), .one (.int .i64 (encE l))], [l.length ≤ 1099511627776]) := relG_eq pR_inj l
end Go.EA
