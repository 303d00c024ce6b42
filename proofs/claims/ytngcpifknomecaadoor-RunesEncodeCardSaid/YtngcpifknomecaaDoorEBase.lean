/- This seat's program as abstract code; its tables; the calls of laws. Conditions: none. -/
import Derived.Test.YtngcpifknomecaaDoorEShelf
import Derived.Test.YtngcpifknomecaaDoorEK6
import Derived.Test.YtngcpifknomecaaDoorEFn1
import Derived.Test.YtngcpifknomecaaDoorEDecode
import Derived.Test.YtngcpifknomecaaDoorCards
import Derived.Test.YtngcpifknomecaaDoorTie
import Derived.WalkKit
import Derived.ProofKit
import Derived.OpenShut
import Derived.Deep.DeepHandedRow
import Derived.Lib.LaidTab
import Derived.Lib.LaidU8
import Derived.PinnedBridge
set_option linter.unusedVariables false
set_option linter.unusedSimpArgs false
set_option maxRecDepth 100000
namespace Go.Proofs.YtngcpifknomecaaDoor
open Go.EA Go.EA.F Go.ChangeShapes Go.WideShapes Go.ChangeAt Go.RowKit Go.Lib
open Go.ChangeMaps (open_string shut_string)

noncomputable def eaC : RCx := ⟨Tryd.prog, fun f => some f⟩
noncomputable def eaS (W : World) : SC := ⟨eaC, id, okDraw (fun _ => true), fxOf W 0 1⟩
theorem eaOk (W : World) : (eaS W).Ok := ⟨fun f i h => by cases h; rfl⟩
theorem eaMix (W : World) : (eaS W).C.P.follows .mixedOrders = true := by kernel_rfl

theorem has3 (W : World) : (eaS W).has 3 f3 := ⟨Tryd.f3, Tryd.func3, by kernel_rfl, by kernel_rfl⟩
theorem has16 (W : World) : (eaS W).has 16 f16 := ⟨Tryd.f16, Tryd.func16, by kernel_rfl, by kernel_rfl⟩
theorem has17 (W : World) : (eaS W).has 17 f17 := ⟨Tryd.f17, Tryd.func17, by kernel_rfl, by kernel_rfl⟩
theorem has18 (W : World) : (eaS W).has 18 f18 := ⟨Tryd.f18, Tryd.func18, by kernel_rfl, by kernel_rfl⟩
theorem has35 (W : World) : (eaS W).has 35 f35 := ⟨Tryd.f35, Tryd.func35, by kernel_rfl, by kernel_rfl⟩
theorem has37 (W : World) : (eaS W).has 37 f37 := ⟨Tryd.f37, Tryd.func37, by kernel_rfl, by kernel_rfl⟩
theorem has45 (W : World) : (eaS W).has 45 f45 := ⟨Tryd.f45, Tryd.func45, by kernel_rfl, by kernel_rfl⟩
theorem has55 (W : World) : (eaS W).has 55 f55 := ⟨Tryd.f55, Tryd.func55, by kernel_rfl, by kernel_rfl⟩
theorem has59 (W : World) : (eaS W).has 59 f59 := ⟨Tryd.f59, Tryd.func59, by kernel_rfl, by kernel_rfl⟩
theorem has68 (W : World) : (eaS W).has 68 f68 := ⟨Tryd.f68, Tryd.func68, by kernel_rfl, by kernel_rfl⟩

theorem ent69 (W : World) (args : Array Value) (w : World) : (callFunc 69 args).run (eaS W).C.P w = .ok (.enter 69 args) w := by
  have h : Tryd.prog.funcs[69]? = some Tryd.f69 := Tryd.func69
  have hn : (Tryd.f69.name == "runtime.NumGoroutine") = false := by kernel_rfl
  have hb : Tryd.f69.body.isSome = true := by kernel_rfl
  obtain ⟨b, hb⟩ := Option.isSome_iff_exists.1 hb
  simp only [callFunc, Sem.run_bind, run_program, Result.andThen_ok]
  rw [show (eaS W).C.P.funcs[69]? = some Tryd.f69 from h]
  simp only [hn, hb]
  simp

/-- The functions' meanings, one level upon the other. -/
structure Lv1 (W : World) : Prop where
  q69 : PrOk (eaS W) 69 (pureP gDec)
  q17 : PrOk (eaS W) 17 (pureP g17)
  q55 : PrOk (eaS W) 55 (pureP g55)
  q59 : PrOk (eaS W) 59 (pureP g59)
  q35 : PrOk (eaS W) 35 (pureP g35)
  q37 : PrOk (eaS W) 37 (pureP g37)
  q18 : PrOk (eaS W) 18 (pureP g18)
  q16 : PrOk (eaS W) 16 (pureP g16)
theorem mk (W : World) (l : List (Nat × GP)) (h : ∀ p ∈ l, PrOk (eaS W) p.1 (pureP p.2)) : (eaS W).Good (Xof l) := good_of (eaS W) l (eaOk W) rfl (eaMix W) h
theorem lv1 {W : World} (hU : Lib.Utf8Tabs 0 1 W) : Lv1 W := by
  have q69 : PrOk (eaS W) 69 (pureP gDec) := pDec_ok (ent69 W) (ρl := Tryd.lays197_ren) rfl Tryd.lays197 (tabs_of rfl hU)
  have q17 := p17 (mk W [(69, gDec)] (by simp [q69])) rfl (has68 W) (has45 W) (has17 W)
  have q55 := p55 (mk W [] (by simp)) (has55 W)
  have q59 := p59 (mk W [] (by simp)) (has59 W)
  have q35 := p35 (mk W [(55, g55), (59, g59)] (by simp [q55, q59])) rfl rfl (has35 W)
  have q37 := p37 (mk W [] (by simp)) (has37 W)
  have q18 := p18 (mk W [(37, g37)] (by simp [q37])) rfl (has18 W)
  have q16 := p16 (mk W [(17, g17), (35, g35)] (by simp [q17, q35])) rfl rfl (has16 W)
  exact ⟨q69, q17, q55, q59, q35, q37, q18, q16⟩

theorem own : ownKnob Tryd.prog.godebug = none := by kernel_rfl
abbrev laid2 : List (String × DataW Unit) := [("unicode/utf8.acceptRanges", Rows.laid_unicode_utf8_acceptRanges), ("unicode/utf8.first", Rows.laid_unicode_utf8_first)]
theorem tabs {W : World} (hL : laidMet Tryd.prog laid2 W) : Lib.Utf8Tabs 0 1 W :=
  utf8Tabs_of_reads (ρ := Tryd.lays260_ren) Tryd.lays260 ⟨by kernel_rfl, by kernel_rfl, by kernel_rfl, by kernel_rfl, by kernel_rfl, by kernel_rfl, by kernel_rfl⟩
    (by rw [← Pinned.utf8First_eq]; exact Lib.laidMet.reads hL (.tail _ (.head _)))
    (by have h : Rows.laid_unicode_utf8_acceptRanges = acceptData := by kernel_rfl
        rw [← h]; exact Lib.laidMet.reads hL (.head _))

/-- A world for the witness: the settled one, the two tables holding what their initialisers lay. -/
noncomputable def laidWorld (os : Os) : World :=
  let w0 := World.holding Tryd.prog os ⟨#[], #[], []⟩
  { w0 with heap := (w0.heap.modify 0 fun
      | .cells _ t frozen => .cells ((List.range 256).map fun c => Value.int .u8 (firstT c)).toArray t frozen
      | o => o).modify 1 fun
      | .cells _ t frozen => .cells ((List.range 32).map fun c => Value.int .u8 (if c % 2 = 0 then accLo (c / 2) else accHi (c / 2) : Nat)).toArray t frozen
      | o => o }
set_option maxRecDepth 1000000 in
theorem laid_met (os : Os) (args : Array Value) : laidMet Tryd.prog laid2 ((laidWorld os).forCall (fun _ _ => 0) ⟨#[], args, []⟩).memory :=
  laidMet_of_run' 8 (by kernel_rfl) (by kernel_rfl)
end Go.Proofs.YtngcpifknomecaaDoor
