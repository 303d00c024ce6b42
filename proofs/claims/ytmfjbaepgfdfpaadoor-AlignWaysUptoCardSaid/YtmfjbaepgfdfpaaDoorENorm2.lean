/- Rows of bytes told as numbers. Conditions: none. -/
import Derived.Test.YtmfjbaepgfdfpaaDoorEK4
set_option linter.unusedVariables false
set_option linter.unusedSimpArgs false
namespace Go.EA
abbrev RI (l : List Int) : List (List Lf) := List.map (fun z => [Lf.int IntKind.u8 z]) l
def unI (l : List Int) : List UInt8 := l.map fun z => UInt8.ofNat z.toNat
theorem toBytes_RI : ∀ s : List Int, toBytes (RI s) = some (unI s)
  | [] => rfl
  | b :: s => by
    show (toBytes (RI s)).map _ = _
    rw [toBytes_RI s]
    rfl
section
variable {T : List AV} {L : List AO} {l : List Int}
theorem b2s_vrowI {H : Heap} {x : Opd} (hx : x.ev (tmL T) = .one (.vrow 1 (RI l))) : evOp (tmL T) H (.b2s x) = some (.one (.str (unI l)), H) := by
  simp only [evOp, hx, Heap.row, if_true, Option.bind_some, toBytes_RI, Option.map_some]
theorem b2s_ownI {x : Opd} {b n : Nat} {o : Bool} (hx : x.ev (tmL T) = .one (.sl b 0 n)) (hb : L.getD b .dead = .blk 1 (RI l) o) (hn : n = l.length) : evOp (tmL T) (hl L) (.b2s x) = some (.one (.str (unI l)), hl L) := by
  have hob : (hl L).o b = .blk 1 (RI l) o := hb
  simp only [evOp, hx, Heap.row, hob]
  rw [if_pos ⟨trivial, by rw [List.length_map]; omega⟩, List.drop_zero, List.take_of_length_le (by rw [List.length_map]; omega)]
  simp only [Option.bind_some, toBytes_RI, Option.map_some]
end
theorem unI_bytes (l : List UInt8) : unI (l.map fun x => (x.toNat : Int)) = l := by
  unfold unI
  rw [List.map_map]
  conv => rhs; rw [← List.map_id l]
  congr 1
  funext x
  simp
end Go.EA
