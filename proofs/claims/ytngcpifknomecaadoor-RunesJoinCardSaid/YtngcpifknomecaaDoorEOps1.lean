/- Numbers, texts, '==': what the abstract operation answers, the model's does. Conditions: none. -/
import Derived.Test.YtngcpifknomecaaDoorEOpd
import Derived.Laws.Strings
set_option linter.unusedVariables false
set_option linter.unusedSimpArgs false
namespace Go.EA
section
variable {S : SC} {w : World}

/-! ### Numbers and texts -/
theorem bits_run (P : Program) {op : BinOp} {k : IntKind} {x y r : Int} (h : bitsOp op k x y = some r) : (Op.intBits op k x y).run P w = .ok (.int k r) w := by
  unfold bitsOp at h
  unfold Op.intBits
  cases op <;> simp only [Option.some.injEq, reduceCtorEq] at h <;> (subst h; rfl)

/-- Answered in one cell, whatever the world. -/
def Ans (S : SC) (w : World) (P : Program) (s : Sem Value) (v : AV) : Prop := ∃ z u, v = .one z ∧ s.run P w = .ok u w ∧ ∀ ρ n, LRel S ρ n z u

theorem int_run (P : Program) (t : TypeId) {op : BinOp} {k : IntKind} {x y : Int} {v : AV} (h : evInt op k x y = some v) : Ans S w P (binOp op t (.int k x) (.int k y)) v := by
  unfold evInt at h
  cases op
  case add => simp at h; subst h; exact ⟨_, _, rfl, by simp [binOp, Op.intArith], fun _ _ => rfl⟩
  case sub => simp at h; subst h; exact ⟨_, _, rfl, by simp [binOp, Op.intArith], fun _ _ => rfl⟩
  case mul => simp at h; subst h; exact ⟨_, _, rfl, by simp [binOp, Op.intArith], fun _ _ => rfl⟩
  case quo => simp at h; obtain ⟨h0, rfl⟩ := h; exact ⟨_, _, rfl, by simp [binOp, Op.intDiv, h0], fun _ _ => rfl⟩
  case rem => simp at h; obtain ⟨h0, rfl⟩ := h; exact ⟨_, _, rfl, by simp [binOp, Op.intDiv, h0], fun _ _ => rfl⟩
  case eql => simp at h; subst h; exact ⟨_, .bool (x == y), rfl, by simp [binOp, Op.intCmp], fun _ _ => by simp [LRel, BEq.beq]⟩
  case neq => simp at h; subst h; exact ⟨_, .bool (x != y), rfl, by simp [binOp, Op.intCmp], fun _ _ => by simp [LRel, bne, BEq.beq]⟩
  case lss => simp at h; subst h; exact ⟨_, .bool (decide (x < y)), rfl, by simp [binOp, Op.intCmp], fun _ _ => rfl⟩
  case leq => simp at h; subst h; exact ⟨_, .bool (decide (x ≤ y)), rfl, by simp [binOp, Op.intCmp], fun _ _ => rfl⟩
  case gtr => simp at h; subst h; exact ⟨_, .bool (decide (x > y)), rfl, by simp [binOp, Op.intCmp], fun _ _ => rfl⟩
  case geq => simp at h; subst h; exact ⟨_, .bool (decide (x ≥ y)), rfl, by simp [binOp, Op.intCmp], fun _ _ => rfl⟩
  case shl => cases h
  case shr => cases h
  all_goals
    simp only [Option.map_eq_some_iff] at h
    obtain ⟨r, hr, rfl⟩ := h
    exact ⟨_, .int k r, rfl, by simp only [binOp, ne_eq, not_true_eq_false, if_false]; exact bits_run P hr, fun _ _ => rfl⟩

theorem shift_run (P : Program) (t : TypeId) {op : BinOp} {k k' : IntKind} {x y : Int} {v : AV} (hop : op = .shl ∨ op = .shr) (h : evShift op k x y = some v) : Ans S w P (binOp op t (.int k x) (.int k' y)) v := by
  unfold evShift at h
  split at h
  · cases h
  · rename_i h0
    rcases hop with rfl | rfl
    · simp at h; subst h; exact ⟨_, .int k (k.wrap (x * 2 ^ (min y.toNat k.bits))), rfl, by simp [binOp, Op.shift, h0], fun _ _ => rfl⟩
    · simp at h; subst h; exact ⟨_, .int k (x.fdiv (2 ^ (min y.toNat k.bits))), rfl, by simp [binOp, Op.shift, h0], fun _ _ => rfl⟩

theorem toList_mk (s : List UInt8) : (⟨s.toArray⟩ : ByteArray).toList = s := by
  rw [ByteArray.toList_eq]
theorem size_mk (s : List UInt8) : (⟨s.toArray⟩ : ByteArray).size = s.length := by simp [ByteArray.size]

theorem lbeq (x y : List UInt8) : (x == y) = decide (x = y) := by
  by_cases h : x = y
  · simp [h]
  · simp [h]
theorem str_run (P : Program) (t : TypeId) {op : BinOp} {x y : List UInt8} {v : AV} (h : evStr op x y = some v) : Ans S w P (binOp op t (.string ⟨x.toArray⟩) (.string ⟨y.toArray⟩)) v := by
  unfold evStr at h
  cases op
  case add =>
    simp only at h
    split at h
    · rename_i hl
      simp at h; subst h
      refine ⟨_, .string ⟨(x ++ y).toArray⟩, rfl, ?_, fun _ _ => rfl⟩
      have h1 : ¬ ((((⟨x.toArray⟩ : ByteArray).size + (⟨y.toArray⟩ : ByteArray).size : Nat) : Int) > IntKind.i64.max) := by
        rw [size_mk, size_mk]
        have : IntKind.i64.max = 9223372036854775807 := by decide
        rw [this]; omega
      simp only [binOp, Op.stringOp, if_neg h1]
      show Result.ok _ w = _
      congr 2
    · cases h
  case eql => simp at h; subst h; exact ⟨_, .bool (x == y), rfl, by simp [binOp, Op.stringOp, toList_mk], fun _ _ => by simp [LRel, lbeq]⟩
  case neq => simp at h; subst h; exact ⟨_, .bool (!(x == y)), rfl, by simp [binOp, Op.stringOp, toList_mk], fun _ _ => by simp [LRel, lbeq]⟩
  case lss => simp at h; subst h; exact ⟨_, .bool (Op.bytesLess x y), rfl, by simp [binOp, Op.stringOp, toList_mk], fun _ _ => by simp [LRel]⟩
  case leq => simp at h; subst h; exact ⟨_, .bool (Op.bytesLess x y || x == y), rfl, by simp [binOp, Op.stringOp, toList_mk], fun _ _ => by simp [LRel, lbeq]⟩
  case gtr => simp at h; subst h; exact ⟨_, .bool (!(Op.bytesLess x y || x == y)), rfl, by simp [binOp, Op.stringOp, toList_mk], fun _ _ => by simp [LRel, lbeq]⟩
  case geq => simp at h; subst h; exact ⟨_, .bool (!Op.bytesLess x y), rfl, by simp [binOp, Op.stringOp, toList_mk], fun _ _ => by simp [LRel]⟩
  all_goals cases h
end
end Go.EA
