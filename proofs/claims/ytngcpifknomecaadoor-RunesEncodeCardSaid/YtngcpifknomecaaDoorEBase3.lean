/- This seat's functions of layer 1 that compare. Conditions: none. -/
import Derived.Test.YtngcpifknomecaaDoorEBase
import Derived.Test.YtngcpifknomecaaDoorEFn7
set_option linter.unusedVariables false
set_option linter.unusedSimpArgs false
set_option maxRecDepth 100000
namespace Go.Proofs.YtngcpifknomecaaDoor
open Go.EA Go.EA.F
theorem has5 (W : World) : (eaS W).has 5 f5 := ⟨Tryd.f5, Tryd.func5, by kernel_rfl, by kernel_rfl⟩
theorem has24 (W : World) : (eaS W).has 24 f24 := ⟨Tryd.f24, Tryd.func24, by kernel_rfl, by kernel_rfl⟩
theorem has47 (W : World) : (eaS W).has 47 f47 := ⟨Tryd.f47, Tryd.func47, by kernel_rfl, by kernel_rfl⟩
theorem has48 (W : World) : (eaS W).has 48 f48 := ⟨Tryd.f48, Tryd.func48, by kernel_rfl, by kernel_rfl⟩
theorem has70 (W : World) : (eaS W).has 70 f70 := ⟨Tryd.f70, Tryd.func70, by kernel_rfl, by kernel_rfl⟩
theorem ent25 (W : World) (args : Array Value) (w : World) : (callFunc 25 args).run (eaS W).C.P w = .ok (.enter 25 args) w := by
  have h : Tryd.prog.funcs[25]? = some Tryd.f25 := Tryd.func25
  have hn : (Tryd.f25.name == "runtime.NumGoroutine") = false := by kernel_rfl
  have hb : Tryd.f25.body.isSome = true := by kernel_rfl
  obtain ⟨b, hb⟩ := Option.isSome_iff_exists.1 hb
  simp only [callFunc, Sem.run_bind, run_program, Result.andThen_ok]
  rw [show (eaS W).C.P.funcs[25]? = some Tryd.f25 from h]
  simp only [hn, hb]
  simp
theorem q25 (W : World) : PrOk (eaS W) 25 (pureP g25) := by
  refine prOk_below (ent25 W) g25 fun xs v c hg _ H ρ w vs hvs hH => ?_
  unfold g25 relG at hg
  split at hg
  · rename_i hx
    have hp := hx.choose_spec
    generalize hx.choose = a at hg hp
    obtain ⟨a, b⟩ := a
    cases hg
    subst hp
    obtain ⟨u, us, rfl, hu, ht⟩ := hvs.cons_inv
    obtain ⟨u2, us, rfl, hu2, ht⟩ := ht.cons_inv
    obtain rfl := ht.nil_inv
    have hu : u = .string ⟨a.toArray⟩ := hu
    have hu2 : u2 = .string ⟨b.toArray⟩ := hu2
    subst hu hu2
    refine Calls.mono (Tryd.strings_Compare ⟨a.toArray⟩ ⟨b.toArray⟩ w) fun e w' h => ⟨_, h.1, rfl, ?_⟩
    rw [h.2]
    exact Go.RowKit.Below.refl _ _
  · cases hg
theorem q70 (W : World) : PrOk (eaS W) 70 (pureP g70) := p70 (mk W [] (by simp)) (has70 W)
theorem q48 (W : World) : PrOk (eaS W) 48 (pureP g48) := p48 (mk W [(70, g70)] (by simp [q70 W])) rfl (has48 W)
theorem q47 (W : World) : PrOk (eaS W) 47 (pureP g47) := p47 (mk W [(48, g48)] (by simp [q48 W])) rfl (has47 W)
theorem q24 (W : World) : PrOk (eaS W) 24 (pureP g24) := p24 (mk W [(47, g47)] (by simp [q47 W])) rfl (has24 W)
end Go.Proofs.YtngcpifknomecaaDoor
