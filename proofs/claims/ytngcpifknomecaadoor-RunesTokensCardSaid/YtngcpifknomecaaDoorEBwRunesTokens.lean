/- What the law's function reaches, in this seat's program: each has the text that was read, and each means what was shown of it. Conditions: none. (Printed by a program of this project's own.) -/
import Derived.Test.YtngcpifknomecaaDoorEBss1
import Derived.Test.YtngcpifknomecaaDoorELw12
import Derived.Test.YtngcpifknomecaaDoorELw9
import Derived.Test.YtngcpifknomecaaDoorERu
set_option linter.unusedVariables false
set_option maxRecDepth 100000
namespace Go.Proofs.YtngcpifknomecaaDoor
open Go.EA Go.EA.F
theorem has45 (W : World) : (eaS W).has 45 f45 := ⟨Tryd.f45, Tryd.func45, by kernel_rfl, by kernel_rfl⟩
theorem has68 (W : World) : (eaS W).has 68 f68 := ⟨Tryd.f68, Tryd.func68, by kernel_rfl, by kernel_rfl⟩
theorem has17 (W : World) : (eaS W).has 17 f17 := ⟨Tryd.f17, Tryd.func17, by kernel_rfl, by kernel_rfl⟩
theorem has55 (W : World) : (eaS W).has 55 f55 := ⟨Tryd.f55, Tryd.func55, by kernel_rfl, by kernel_rfl⟩
theorem has59 (W : World) : (eaS W).has 59 f59 := ⟨Tryd.f59, Tryd.func59, by kernel_rfl, by kernel_rfl⟩
theorem has35 (W : World) : (eaS W).has 35 f35 := ⟨Tryd.f35, Tryd.func35, by kernel_rfl, by kernel_rfl⟩
theorem has16 (W : World) : (eaS W).has 16 f16 := ⟨Tryd.f16, Tryd.func16, by kernel_rfl, by kernel_rfl⟩
theorem has20 (W : World) : (eaS W).has 20 f20 := ⟨Tryd.f20, Tryd.func20, by kernel_rfl, by kernel_rfl⟩
theorem has54 (W : World) : (eaS W).has 54 f54 := ⟨Tryd.f54, Tryd.func54, by kernel_rfl, by kernel_rfl⟩
theorem has74 (W : World) : (eaS W).has 74 f74 := ⟨Tryd.f74, Tryd.func74, by kernel_rfl, by kernel_rfl⟩
theorem has53 (W : World) : (eaS W).has 53 f53 := ⟨Tryd.f53, Tryd.func53, by kernel_rfl, by kernel_rfl⟩
theorem has56 (W : World) : (eaS W).has 56 f56 := ⟨Tryd.f56, Tryd.func56, by kernel_rfl, by kernel_rfl⟩
theorem has75 (W : World) : (eaS W).has 75 f75 := ⟨Tryd.f75, Tryd.func75, by kernel_rfl, by kernel_rfl⟩
theorem has33 (W : World) : (eaS W).has 33 f33 := ⟨Tryd.f33, Tryd.func33, by kernel_rfl, by kernel_rfl⟩
theorem has22 (W : World) : (eaS W).has 22 f22 := ⟨Tryd.f22, Tryd.func22, by kernel_rfl, by kernel_rfl⟩
theorem has12 (W : World) : (eaS W).has 12 f12 := ⟨Tryd.f12, Tryd.func12, by kernel_rfl, by kernel_rfl⟩
theorem q17 {W : World} (hU : Lib.Utf8Tabs 0 1 W) : PrOk (eaS W) 17 (pureP G17) := pr17 (sb W) (q69 hU) (has45 W) (has68 W) (has17 W)
theorem q55 {W : World} (hU : Lib.Utf8Tabs 0 1 W) : PrOk (eaS W) 55 (pureP G55) := pr55 (sb W) (has55 W)
theorem q59 {W : World} (hU : Lib.Utf8Tabs 0 1 W) : PrOk (eaS W) 59 (pureP G59) := pr59 (sb W) (has59 W)
theorem q35 {W : World} (hU : Lib.Utf8Tabs 0 1 W) : PrOk (eaS W) 35 (pureP G35) := pr35 (sb W) (q55 hU) (q59 hU) (has35 W)
theorem q16 {W : World} (hU : Lib.Utf8Tabs 0 1 W) : PrOk (eaS W) 16 (pureP G16) := pr16 (sb W) (q17 hU) (q35 hU) (has16 W)
theorem q20 {W : World} (hU : Lib.Utf8Tabs 0 1 W) : PrOk (eaS W) 20 (pureP G20) := pr20 (sb W) (q17 hU) (has20 W)
theorem q54 {W : World} (hU : Lib.Utf8Tabs 0 1 W) : PrOk (eaS W) 54 (pureP G54) := pr54 (sb W) (q55 hU) (has54 W)
theorem q74 {W : World} (hU : Lib.Utf8Tabs 0 1 W) : PrOk (eaS W) 74 (pureP G74) := pr74 (sb W) (q54 hU) (has74 W)
theorem q53 {W : World} (hU : Lib.Utf8Tabs 0 1 W) : PrOk (eaS W) 53 (pureP G53) := pr53 (sb W) (q74 hU) (has53 W)
theorem q33 {W : World} (hU : Lib.Utf8Tabs 0 1 W) : PrOk (eaS W) 33 (pureP G33) := pr33 (sb W) (q53 hU) (has56 W) (has75 W) (has33 W)
theorem q22 {W : World} (hU : Lib.Utf8Tabs 0 1 W) : PrOk (eaS W) 22 (pureP G22) := pr22 (sb W) (q69 hU) (q35 hU) (has45 W) (has68 W) (has22 W)
end Go.Proofs.YtngcpifknomecaaDoor
