/- What the law's function reaches, in this seat's program: each has the text that was read, and each means what was shown of it. Conditions: none. (Printed by a program of this project's own.) -/
import Derived.Test.YtngcpifknomecaaDoorEBss1
import Derived.Test.YtngcpifknomecaaDoorELw2
import Derived.Test.YtngcpifknomecaaDoorERu
import Derived.Test.YtngcpifknomecaaDoorESp1
import Derived.Test.YtngcpifknomecaaDoorESp2
set_option linter.unusedVariables false
set_option maxRecDepth 100000
namespace Go.Proofs.YtngcpifknomecaaDoor
open Go.EA Go.EA.F
theorem has55 (W : World) : (eaS W).has 55 f55 := ⟨Tryd.f55, Tryd.func55, by kernel_rfl, by kernel_rfl⟩
theorem has59 (W : World) : (eaS W).has 59 f59 := ⟨Tryd.f59, Tryd.func59, by kernel_rfl, by kernel_rfl⟩
theorem has35 (W : World) : (eaS W).has 35 f35 := ⟨Tryd.f35, Tryd.func35, by kernel_rfl, by kernel_rfl⟩
theorem has72 (W : World) : (eaS W).has 72 f72 := ⟨Tryd.f72, Tryd.func72, by kernel_rfl, by kernel_rfl⟩
theorem has50 (W : World) : (eaS W).has 50 f50 := ⟨Tryd.f50, Tryd.func50, by kernel_rfl, by kernel_rfl⟩
theorem has27 (W : World) : (eaS W).has 27 f27 := ⟨Tryd.f27, Tryd.func27, by kernel_rfl, by kernel_rfl⟩
theorem has26 (W : World) : (eaS W).has 26 f26 := ⟨Tryd.f26, Tryd.func26, by kernel_rfl, by kernel_rfl⟩
theorem has52 (W : World) : (eaS W).has 52 f52 := ⟨Tryd.f52, Tryd.func52, by kernel_rfl, by kernel_rfl⟩
theorem has73 (W : World) : (eaS W).has 73 f73 := ⟨Tryd.f73, Tryd.func73, by kernel_rfl, by kernel_rfl⟩
theorem has29 (W : World) : (eaS W).has 29 f29 := ⟨Tryd.f29, Tryd.func29, by kernel_rfl, by kernel_rfl⟩
theorem has32 (W : World) : (eaS W).has 32 f32 := ⟨Tryd.f32, Tryd.func32, by kernel_rfl, by kernel_rfl⟩
theorem has45 (W : World) : (eaS W).has 45 f45 := ⟨Tryd.f45, Tryd.func45, by kernel_rfl, by kernel_rfl⟩
theorem has68 (W : World) : (eaS W).has 68 f68 := ⟨Tryd.f68, Tryd.func68, by kernel_rfl, by kernel_rfl⟩
theorem has22 (W : World) : (eaS W).has 22 f22 := ⟨Tryd.f22, Tryd.func22, by kernel_rfl, by kernel_rfl⟩
theorem has17 (W : World) : (eaS W).has 17 f17 := ⟨Tryd.f17, Tryd.func17, by kernel_rfl, by kernel_rfl⟩
theorem has13 (W : World) : (eaS W).has 13 f13 := ⟨Tryd.f13, Tryd.func13, by kernel_rfl, by kernel_rfl⟩
theorem q55 {W : World} (hU : Lib.Utf8Tabs 0 1 W) : PrOk (eaS W) 55 (pureP G55) := pr55 (sb W) (has55 W)
theorem q59 {W : World} (hU : Lib.Utf8Tabs 0 1 W) : PrOk (eaS W) 59 (pureP G59) := pr59 (sb W) (has59 W)
theorem q35 {W : World} (hU : Lib.Utf8Tabs 0 1 W) : PrOk (eaS W) 35 (pureP G35) := pr35 (sb W) (q55 hU) (q59 hU) (has35 W)
theorem q72 {W : World} (hU : Lib.Utf8Tabs 0 1 W) : PrOk (eaS W) 72 (pureP G72) := pr72 (sb W) (has72 W)
theorem q50 {W : World} (hU : Lib.Utf8Tabs 0 1 W) : PrOk (eaS W) 50 (pureP G50) := pr50 (sb W) (q35 hU) (q72 hU) (has50 W)
theorem q27 {W : World} (hU : Lib.Utf8Tabs 0 1 W) : PrOk (eaS W) 27 (pureP G27) := pr27 (sb W) (q38 hU) (q50 hU) (has27 W)
theorem q26 {W : World} (hU : Lib.Utf8Tabs 0 1 W) : PrOk (eaS W) 26 (pureP G26) := pr26 (sb W) (q27 hU) (has26 W)
theorem q29 {W : World} (hU : Lib.Utf8Tabs 0 1 W) : PrOk (eaS W) 29 (pureP G29) := pr29 (sb W) (q27 hU) (has52 W) (has73 W) (has29 W)
theorem q32 {W : World} (hU : Lib.Utf8Tabs 0 1 W) : PrOk (eaS W) 32 (pureP G32) := pr32 (sb W) (has32 W)
theorem q22 {W : World} (hU : Lib.Utf8Tabs 0 1 W) : PrOk (eaS W) 22 (pureP G22) := pr22 (sb W) (q69 hU) (q35 hU) (has45 W) (has68 W) (has22 W)
theorem q17 {W : World} (hU : Lib.Utf8Tabs 0 1 W) : PrOk (eaS W) 17 (pureP G17) := pr17 (sb W) (q69 hU) (has45 W) (has68 W) (has17 W)
end Go.Proofs.YtngcpifknomecaaDoor
