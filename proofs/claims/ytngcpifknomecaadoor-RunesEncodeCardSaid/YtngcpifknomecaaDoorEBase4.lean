/- This seat's functions of layer 1 that encode. Conditions: none. -/
import Derived.Test.YtngcpifknomecaaDoorEBase2
import Derived.Test.YtngcpifknomecaaDoorEBase3
import Derived.Test.YtngcpifknomecaaDoorEFn8
import Derived.Test.YtngcpifknomecaaDoorEFn9
import Derived.Test.YtngcpifknomecaaDoorEFn10
import Derived.Test.YtngcpifknomecaaDoorEArgs
import Derived.Carry
set_option linter.unusedVariables false
set_option linter.unusedSimpArgs false
set_option maxRecDepth 100000
namespace Go.Proofs.YtngcpifknomecaaDoor
open Go.EA Go.EA.F
theorem has8 (W : World) : (eaS W).has 8 f8 := ⟨Tryd.f8, Tryd.func8, by kernel_rfl, by kernel_rfl⟩
theorem has33 (W : World) : (eaS W).has 33 f33 := ⟨Tryd.f33, Tryd.func33, by kernel_rfl, by kernel_rfl⟩
theorem has34 (W : World) : (eaS W).has 34 f34 := ⟨Tryd.f34, Tryd.func34, by kernel_rfl, by kernel_rfl⟩
theorem has53 (W : World) : (eaS W).has 53 f53 := ⟨Tryd.f53, Tryd.func53, by kernel_rfl, by kernel_rfl⟩
theorem has54 (W : World) : (eaS W).has 54 f54 := ⟨Tryd.f54, Tryd.func54, by kernel_rfl, by kernel_rfl⟩
theorem has56 (W : World) : (eaS W).has 56 f56 := ⟨Tryd.f56, Tryd.func56, by kernel_rfl, by kernel_rfl⟩
theorem has74 (W : World) : (eaS W).has 74 f74 := ⟨Tryd.f74, Tryd.func74, by kernel_rfl, by kernel_rfl⟩
theorem has75 (W : World) : (eaS W).has 75 f75 := ⟨Tryd.f75, Tryd.func75, by kernel_rfl, by kernel_rfl⟩
theorem q55' (W : World) : PrOk (eaS W) 55 (pureP g55) := p55 (mk W [] (by simp)) (has55 W)
theorem q54 (W : World) : PrOk (eaS W) 54 (pureP g54) := p54 (mk W [(55, g55)] (by simp [q55' W])) rfl (has54 W)
theorem q74 (W : World) : PrOk (eaS W) 74 (pureP g74) := p74 (mk W [(54, g54)] (by simp [q54 W])) rfl (has74 W)
theorem q53 (W : World) : PrOk (eaS W) 53 (pureP g53) := p53 (mk W [(74, g74)] (by simp [q74 W])) rfl (has53 W)
theorem q33 (W : World) : PrOk (eaS W) 33 (pureP g33) := p33 (mk W [(53, g53)] (by simp [q53 W])) rfl (has56 W) (has75 W) (has33 W)
theorem q34 {W : World} (hU : Lib.Utf8Tabs 0 1 W) : PrOk (eaS W) 34 (pureP g34) := p34 (mk W [(57, g57), (58, g58)] (by simp [(lv2 hU).q57, (lv2 hU).q58])) rfl rfl (has34 W)
theorem laidOut : laidOutB Tryd.prog = true := by kernel_rfl
end Go.Proofs.YtngcpifknomecaaDoor
