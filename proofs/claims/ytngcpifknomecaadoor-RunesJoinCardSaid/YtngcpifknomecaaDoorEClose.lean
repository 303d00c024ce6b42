/- From a function's walk to its call; the abstract program out of a list of meanings. Conditions: none. -/
import Derived.Test.YtngcpifknomecaaDoorEPrim
import Derived.Test.YtngcpifknomecaaDoorEDraw3
set_option linter.unusedVariables false
set_option linter.unusedSimpArgs false
namespace Go.EA
open Go.RowKit
/-- Functions with these meanings. -/
noncomputable def Xof (l : List (Nat × GP)) : Cx := ⟨fun _ => none, fun i => match l.find? (fun p => Nat.beq p.1 i) with | some p => some (pureP p.2) | none => none⟩
theorem good_of (S : SC) (l : List (Nat × GP)) (hok : S.Ok) (hdr : S.dr = okDraw (fun _ => true)) (hmix : S.C.P.follows .mixedOrders = true) (h : ∀ p ∈ l, PrOk S p.1 (pureP p.2)) : S.Good (Xof l) := by
  refine ⟨hok, fun i af hi => by simp [Xof] at hi, fun i p hp => ?_, fun nt ops ais t hd hc T H r he => ?_⟩
  · simp only [Xof] at hp
    split at hp
    · rename_i q hq
      have h1 := List.find?_some hq
      have h2 := List.mem_of_find?_eq_some hq
      cases hp
      have := Nat.eq_of_beq_eq_true h1
      rw [← this]; exact h q h2
    · cases hp
  · rw [hmix]
    refine draw_ok (pp := fun _ => true) ?_ (by rw [hdr] at hd; exact hd) he
    intro f xs H v H' hf hcall
    simp only [callV, Xof] at hcall
    split at hcall
    · rename_i p hp
      split at hp
      · rename_i q hq
        cases hp
        simp only [List.isEmpty_nil, if_true] at hcall
        exact (pureP_inv hcall).1
      · cases hp
    · cases hcall
theorem good_add {S : SC} {l : List (Nat × GP)} (hS : S.Good (Xof l)) (hdr : S.dr = okDraw (fun _ => true)) (hmix : S.C.P.follows .mixedOrders = true) (hl : ∀ p ∈ l, PrOk S p.1 (pureP p.2)) {i : Nat} {g : GP} (h : PrOk S i (pureP g)) : S.Good (Xof ((i, g) :: l)) :=
  good_of S _ hS.ok hdr hmix fun p hp => by
    rcases List.mem_cons.1 hp with rfl | hp
    · exact h
    · exact hl p hp

/-- The blocks of two tables. -/
def fxOf (W : World) (a b : Nat) : Nat → Option Obj := fun k => if k = a then W.heap[k]? else if k = b then W.heap[k]? else none
theorem tabs_of {S : SC} {W : World} {a b : Nat} (hfx : S.fx = fxOf W a b) (hU : Lib.Utf8Tabs a b W) : ∀ H ρ w, HRel S H ρ w → Lib.Utf8Tabs a b w := by
  intro H ρ w hH
  have key : ∀ k, k = a ∨ k = b → ∀ c v, W.cell? ⟨k, c, none⟩ = some v → w.cell? ⟨k, c, none⟩ = some v := by
    intro k hk c v hv
    cases ho : W.heap[k]? with
    | none => simp [World.cell?, ho] at hv
    | some ob =>
      have : S.fx k = some ob := by
        rw [hfx]; unfold fxOf
        rcases hk with rfl | rfl
        · rw [if_pos rfl]; exact ho
        · split
          · exact ho
          · rw [if_pos rfl]; exact ho
      have h2 := (hH.fx k ob this).1
      simp only [World.cell?, ho] at hv
      simp only [World.cell?, h2]
      exact hv
  exact ⟨fun c hc => key a (.inl rfl) _ _ (hU.1 c hc), fun i hi => ⟨key b (.inr rfl) _ _ (hU.2 i hi).1, key b (.inr rfl) _ _ (hU.2 i hi).2⟩⟩

/-- All that lies there when the call begins stays as it is. -/
def rho0 (W : World) : Rho := ⟨fun _ => ⟨0, 0, 0, 0⟩, fun k => match W.heap[k]? with | some (.cells C t f) => some (.cells C t f) | _ => none⟩
theorem hrel0 {S : SC} {W : World} (hfx : ∀ k ob, S.fx k = some ob → W.heap[k]? = some ob) : HRel S (hl []) (rho0 W) W :=
  ⟨fun i hi => absurd hi (Nat.not_lt_zero _), fun i j hi => absurd hi (Nat.not_lt_zero _), fun k ob hk => ⟨hfx k ob hk, fun i hi => absurd hi (Nat.not_lt_zero _)⟩, fun k ob hk => by
    have hk' : (match W.heap[k]? with | some (.cells C t f) => some (.cells C t f) | _ => none) = some ob := hk
    split at hk'
    · rename_i C t f ho
      cases hk'
      exact ⟨⟨C, t, f, rfl⟩, ho, fun i hi => absurd hi (Nat.not_lt_zero _)⟩
    · cases hk'⟩
theorem fxOf_heap {W : World} {a b : Nat} : ∀ k ob, fxOf W a b k = some ob → W.heap[k]? = some ob := by
  intro k ob h
  unfold fxOf at h
  split at h
  · exact h
  · split at h
    · exact h
    · cases h

/-- THE CALL: what it hands back, and that all that was there is as it was. -/
theorem calls_of {S : SC} {f : Nat} {xs : List AV} {v : AV} (h : MF S f [] xs (hl []) fun v' _ => v' = v) {W : World} (hfx : ∀ k ob, S.fx k = some ob → W.heap[k]? = some ob) {vs : List Value} (hvs : All2 (VRel S (rho0 W) 0) xs vs) :
    Calls S.C.P (S.re f) vs.toArray W fun e w' => ∃ u ρ' n', e = .returned u ∧ VRel S ρ' n' v u ∧ Below W.heap.size W w' := by
  have := (h (rho0 W) W vs (by simp) hvs (hrel0 hfx)).2
  rw [show vs.toArray ++ (List.map (capAddr (rho0 W)) ([] : List (Nat × Nat × Nat))).toArray = vs.toArray by simp] at this
  refine (callsIn_wide.1 this).mono fun e w' hr => ?_
  obtain ⟨_, H1, rfl, u, ρ', rfl, k1, k2, k3⟩ := hr
  exact ⟨u, ρ', _, rfl, k3, ⟨k2.os, k2.tape, k2.output, k2.sz, fun k hk => (k2.keep k hk fun i hi => absurd hi (Nat.not_lt_zero _)).1⟩⟩
end Go.EA
