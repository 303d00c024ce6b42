/- Functions of Go's library by the shelf's contracts, as functions with a given meaning. Conditions: none. -/
import Derived.Test.YtngcpifknomecaaDoorENorm
import Derived.Below
import Derived.Shelf.Unicode.DecodeAny
set_option linter.unusedVariables false
set_option linter.unusedSimpArgs false
namespace Go.EA
open Go.RowKit
/-- Every block that was there is as it was. -/
structure Old (w w' : World) : Prop where
  sz : w.heap.size ≤ w'.heap.size
  os : w'.os = w.os
  tape : w'.tape = w.tape
  output : w'.output = w.output
  keep : ∀ k, k < w.heap.size → w'.heap[k]? = w.heap[k]?

section
variable {S : SC} {H : Heap} {ρ : Rho} {w w' : World}
theorem HRel.old (h : HRel S H ρ w) (o : Old w w') : HRel S H ρ w' ∧ Frm H ρ w H ρ w' := by
  refine HRel.mk2 h (fun i hi => ?_) h.ap ⟨o.sz, o.os, o.tape, o.output, Nat.le_refl _, fun _ _ => rfl, fun k hk hn => ⟨o.keep k hk, hn⟩, fun _ _ h => h, fun _ _ _ => rfl⟩
  cases hd : live (H.o i) with
  | false =>
    have : H.o i = .dead := by revert hd; cases H.o i <;> simp [live]
    rw [this]; trivial
  | true => rw [o.keep _ (h.lt' hi hd)]; exact h.obj i hi

theorem below_old {w w' : World} (h : Below w.heap.size w w') : Old w w' := ⟨h.size, h.os, h.tape, h.output, h.block⟩

/-- A contract that leaves every old block as it was, as a meaning. -/
theorem prOk_below {i : Nat} (hent : ∀ args w, (callFunc (S.re i) args).run S.C.P w = .ok (.enter (S.re i) args) w) (g : GP)
    (hc : ∀ xs v c, g xs = some (v, c) → AllT c → ∀ H ρ w vs, All2 (VRel S ρ H.n) xs vs → HRel S H ρ w → Calls S.C.P (S.re i) vs.toArray w fun e w' => ∃ u, e = .returned u ∧ VRel S ρ H.n v u ∧ Below w.heap.size w w') :
    PrOk S i (pureP g) := by
  intro xs H v H' hp ρ w vs hvs hH
  obtain ⟨hHH, c, hg, hcc⟩ := pureP_inv hp
  subst H'
  refine .inr (.inl ⟨_, _, w, ρ, hent _ _, rfl, rfl, ?_⟩)
  refine (callsIn_wide.2 (hc xs v c hg hcc H ρ w vs hvs hH)).mono fun e w' hr => ?_
  obtain ⟨u, rfl, hu, hb⟩ := hr
  obtain ⟨k1, k2⟩ := hH.old (below_old hb)
  exact ⟨u, ρ, rfl, k1, k2, hu⟩
end

/-- The first rune of some bytes, and how many it takes. -/
def dec (s : List UInt8) : Nat × Nat := if s.length = 0 then (65533, 0) else Utf8.decode ⟨s.toArray⟩ 0
def gDec : GP
  | [.one (.str s)] => some (.tup [.one (.int .i32 (dec s).1), .one (.int .i64 (dec s).2)], [])
  | _ => none

section
variable {S : SC}
theorem pDec_ok {i : Nat} (hent : ∀ args w, (callFunc (S.re i) args).run S.C.P w = .ok (.enter (S.re i) args) w) {ρl : Shelf.Ren} (hf : ρl.f 197 = S.re i) (L : Proofs.Lays.n197 S.C.P ρl) (hT : ∀ H ρ w, HRel S H ρ w → Lib.Utf8Tabs (ρl.g 3) (ρl.g 4) w) : PrOk S i (pureP gDec) := by
  refine prOk_below hent gDec fun xs v c hg _ H ρ w vs hvs hH => ?_
  unfold gDec at hg
  split at hg
  · rename_i s
    cases hg
    obtain ⟨u, us, rfl, hu, ht⟩ := hvs.cons_inv
    obtain rfl := ht.nil_inv
    have hu : u = .string ⟨s.toArray⟩ := hu
    subst hu
    have := Proofs.Any.utf8_DecodeRuneInString L ⟨s.toArray⟩ w (hT H ρ w hH)
    rw [hf] at this
    refine Calls.mono this fun e w' h => ⟨_, h.1, ?_, h.2⟩
    have hd : Lib.decodeGo ⟨s.toArray⟩ = dec s := by
      unfold Lib.decodeGo dec
      rw [size_mk]
    rw [hd]
    exact .inr ⟨_, rfl, All2.cons rfl (All2.cons rfl All2.nil)⟩
  · cases hg
end
end Go.EA
