/- This seat's functions of layer 1, more of them. Conditions: none. -/
import Derived.Test.YtngcpifknomecaaDoorEBase
import Derived.Test.YtngcpifknomecaaDoorEFn2
import Derived.Test.YtngcpifknomecaaDoorEFn3
import Derived.Test.YtngcpifknomecaaDoorEFn4
import Derived.Test.YtngcpifknomecaaDoorEFn5
import Derived.Test.YtngcpifknomecaaDoorEFn6
set_option linter.unusedVariables false
set_option linter.unusedSimpArgs false
set_option maxRecDepth 100000
namespace Go.Proofs.YtngcpifknomecaaDoor
open Go.EA Go.EA.F
theorem has4 (W : World) : (eaS W).has 4 f4 := ⟨Tryd.f4, Tryd.func4, by kernel_rfl, by kernel_rfl⟩
theorem has19 (W : World) : (eaS W).has 19 f19 := ⟨Tryd.f19, Tryd.func19, by kernel_rfl, by kernel_rfl⟩
theorem has20 (W : World) : (eaS W).has 20 f20 := ⟨Tryd.f20, Tryd.func20, by kernel_rfl, by kernel_rfl⟩
theorem has21 (W : World) : (eaS W).has 21 f21 := ⟨Tryd.f21, Tryd.func21, by kernel_rfl, by kernel_rfl⟩
theorem has22 (W : World) : (eaS W).has 22 f22 := ⟨Tryd.f22, Tryd.func22, by kernel_rfl, by kernel_rfl⟩
theorem has23 (W : World) : (eaS W).has 23 f23 := ⟨Tryd.f23, Tryd.func23, by kernel_rfl, by kernel_rfl⟩
theorem has36 (W : World) : (eaS W).has 36 f36 := ⟨Tryd.f36, Tryd.func36, by kernel_rfl, by kernel_rfl⟩
theorem has46 (W : World) : (eaS W).has 46 f46 := ⟨Tryd.f46, Tryd.func46, by kernel_rfl, by kernel_rfl⟩
theorem has57 (W : World) : (eaS W).has 57 f57 := ⟨Tryd.f57, Tryd.func57, by kernel_rfl, by kernel_rfl⟩
theorem has58 (W : World) : (eaS W).has 58 f58 := ⟨Tryd.f58, Tryd.func58, by kernel_rfl, by kernel_rfl⟩
/-- The functions' meanings, one level upon the other. -/
structure Lv2 (W : World) : Prop extends Lv1 W where
  q57 : PrOk (eaS W) 57 (pureP g57)
  q58 : PrOk (eaS W) 58 (pureP g58)
  q46 : PrOk (eaS W) 46 (pureP g46)
  q19 : PrOk (eaS W) 19 (pureP g19)
  q20 : PrOk (eaS W) 20 (pureP g20)
  q21 : PrOk (eaS W) 21 (pureP g21)
  q36 : PrOk (eaS W) 36 (pureP g36)
  q22 : PrOk (eaS W) 22 (pureP g22)
  q23 : PrOk (eaS W) 23 (pureP g23)
theorem lv2 {W : World} (hU : Lib.Utf8Tabs 0 1 W) : Lv2 W := by
  have L := lv1 hU
  have q57 := p57 (mk W [] (by simp)) (has57 W)
  have q58 := p58 (mk W [] (by simp)) (has58 W)
  have q46 := p46 (mk W [(57, g57), (58, g58)] (by simp [q57, q58])) rfl rfl (has46 W)
  have q19 := p19 (mk W [(46, g46)] (by simp [q46])) rfl (has19 W)
  have q20 := p20 (mk W [(17, g17)] (by simp [L.q17])) rfl (has20 W)
  have q21 := p21 (mk W [(19, g19)] (by simp [q19])) rfl (has21 W)
  have q36 := p36 (mk W [(57, g57)] (by simp [q57])) rfl (has36 W)
  have q22 := p22 (mk W [(69, gDec), (35, g35)] (by simp [L.q69, L.q35])) rfl rfl (has68 W) (has45 W) (has22 W)
  have q23 := p23 (mk W [(19, g19), (36, g36)] (by simp [q19, q36])) rfl rfl (has23 W)
  exact ⟨L, q57, q58, q46, q19, q20, q21, q36, q22, q23⟩
end Go.Proofs.YtngcpifknomecaaDoor
