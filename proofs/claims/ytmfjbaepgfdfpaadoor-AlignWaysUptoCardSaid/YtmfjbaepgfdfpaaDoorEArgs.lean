/- A law's arguments that are rows of numbers. Conditions: none. -/
import Derived.Test.YtmfjbaepgfdfpaaDoorEK6
import Derived.Test.YtmfjbaepgfdfpaaDoorEMean1
import Derived.ChangeSlices
import Derived.OpenShut
set_option linter.unusedVariables false
set_option linter.unusedSimpArgs false
namespace Go.EA
open Go.ChangeShapes Go.WideShapes Go.RowKit
/-- Rows of numbers of a kind. -/
abbrev RK (k : IntKind) (l : List Int) : List (List Lf) := List.map (fun r => [Lf.int k r]) l
theorem rowC_ints {S : SC} {fz : Nat → Option Obj} {C : Array Value} {k : IntKind} : ∀ {l : List Int} {o : Nat}, (∀ j, j < l.length → C[o + j]? = some (.int k (l.getD j 0))) → RowC S fz C o 1 (RK k l)
  | [], _, _ => trivial
  | x :: l, o, h => by
    refine ⟨rfl, ⟨⟨_, h 0 (by simp), rfl⟩, trivial⟩, rowC_ints fun j hj => ?_⟩
    have := h (j + 1) (by simpa using hj)
    rw [show o + 1 + j = o + (j + 1) by omega]
    exact this
theorem open_row {S : SC} {P : Program} {W : World} {H : Type} {enc : TypeId × Value → H} {r : Reach} {b0 : Nat} {t e : TypeId} {k : IntKind} {v : Value} {d : DataW H} {ps : List MemPlace}
    (ht : P.underlying t = some (.slice e)) (he : P.underlying e = some (.int k)) (hc : P.cellsOf e = 1) (hval : Value.okWide P W r b0 t v) (hd : DataW.Trod enc P W 0 (fun _ => true) true t v d ps) :
    ∃ zs : List Int, VRel S (rho0 W) 0 (.one (.vrow 1 (RK k zs))) v := by
  obtain ⟨a, len, cap, rfl⟩ := okWide_slice ht hval
  obtain ⟨fuel, hf⟩ := hd
  rcases Go.ChangeShapes.open_ints ht he hc hf with ⟨h, hx⟩ | ⟨a', len', cap', zs, h, hb, hl, hm, hz, hx, hcell, hw⟩
  · simp only [Value.cells, List.cons.injEq, Value.slice.injEq, and_true] at h
    obtain ⟨rfl, rfl, rfl⟩ := h
    exact ⟨[], none, 0, rfl, Nat.le_refl _, .inl rfl⟩
  · simp only [Value.cells, List.cons.injEq, Value.slice.injEq, and_true] at h
    obtain ⟨rfl, rfl, rfl⟩ := h
    simp only [if_true] at hz
    have hlen : (zs.take len).length = len := by rw [List.length_take]; omega
    refine ⟨zs.take len, some a', cap, ?_, ?_, ?_⟩
    · rw [List.length_map, hlen]
    · rw [List.length_map, hlen]; exact hl
    · by_cases h0 : len = 0
      · left; subst h0; rfl
      · right
        obtain ⟨b, off, rfl, hat⟩ := ints_at hcell (by omega)
        have hcells : ∃ C ty fr, W.heap[b]? = some (.cells C ty fr) := by
          have := hat 0 (by omega)
          unfold World.cell? at this
          split at this
          · exact ⟨_, _, _, by assumption⟩
          · cases this
        obtain ⟨C, ty, fr, hC⟩ := hcells
        refine ⟨b, off, C, ty, fr, rfl, ?_, ?_⟩
        · show (match W.heap[b]? with | some (.cells C t f) => some (Obj.cells C t f) | _ => none) = _
          rw [hC]
        · refine rowC_ints fun j hj => ?_
          rw [hlen] at hj
          have := hat j (by omega)
          unfold World.cell? at this
          rw [hC] at this
          simp only [Option.isSome_none, Bool.false_eq_true, if_false] at this
          rw [this, List.getD_eq_getElem?_getD, List.getD_eq_getElem?_getD, List.getElem?_take_of_lt hj]
end Go.EA
