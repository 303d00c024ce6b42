/- Layer 1: what Go's library's functions on texts mean. Conditions: none. -/
import Derived.Test.YtmfjbaepgfdfpaaDoorEBack
import Derived.Test.YtmfjbaepgfdfpaaDoorEMean3
set_option linter.unusedVariables false
set_option linter.unusedSimpArgs false
namespace Go.EA
noncomputable def g38 : GP := relG pS fun s => (.one (.bool (decOk s)), [])
theorem c38 (s : List UInt8) : g38 [.one (.str s)] = some (.one (.bool (decOk s)), []) := relG_eq pS_inj s
noncomputable def g43 : GP := relG pS fun s => (.one (.int .i64 ((runes s).length : Int)), [s.length ≤ 4611686018427387904])
theorem c43 (s : List UInt8) : g43 [.one (.str s)] = some (.one (.int .i64 ((runes s).length : Int)), [s.length ≤ 4611686018427387904]) := relG_eq pS_inj s
theorem encL_len {l : List Int} (h : l.all Utf8.valid = true) : (encL l).length ≤ 4 * l.length := by
  have := encLI_len l h
  rw [encLI_eq, List.length_map] at this
  exact this
theorem encT_len (l : List Int) : (encT l).length ≤ 4 * l.length := by
  unfold encT
  split
  · rename_i h; exact encL_len h
  · simp
theorem encE_ok {l : List Int} (h : encE l = 0) : l.all Utf8.valid = true := by
  unfold encE at h
  split at h
  · assumption
  · simp at h
theorem back1 {l : List Int} (h : encE l = 0) : decR (encT l) = l ∧ decE (encT l) = 0 ∧ decOk (encT l) = true := by
  have ha := encE_ok h
  rw [(encT_ok ha).1]
  exact dec_encL ha
theorem decE_dec (s : List UInt8) : decide (decE s = 0) = decOk s := by
  unfold decE
  cases decOk s <;> rfl
end Go.EA
