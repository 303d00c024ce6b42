/- What the law's function reaches, in this seat's program: each has the text that was read, and each means what was shown of it. Conditions: none. (Printed by a program of this project's own.) -/
import Derived.Test.YtngcpifknomecaaDoorEBss1
import Derived.Test.YtngcpifknomecaaDoorELw2
import Derived.Test.YtngcpifknomecaaDoorERf
import Derived.Test.YtngcpifknomecaaDoorERu
import Derived.Test.YtngcpifknomecaaDoorESp1
import Derived.Test.YtngcpifknomecaaDoorESp2
set_option linter.unusedVariables false
set_option maxRecDepth 100000
namespace Go.Proofs.YtngcpifknomecaaDoor
open Go.EA Go.EA.F
theorem has55 (W : World) : (eaS W).has 55 f55 := ⟨Tryd.f55, Tryd.func55, by kernel_rfl, by kernel_rfl⟩
theorem has59 (W : World) : (eaS W).has 59 f59 := ⟨Tryd.f59, Tryd.func59, by kernel_rfl, by kernel_rfl⟩
theorem has35 (W : World) : (eaS W).has 35 f35 := ⟨Tryd.f35, Tryd.func35, by kernel_rfl, by kernel_rfl⟩
theorem has72 (W : World) : (eaS W).has 72 f72 := ⟨Tryd.f72, Tryd.func72, by kernel_rfl, by kernel_rfl⟩
theorem has50 (W : World) : (eaS W).has 50 f50 := ⟨Tryd.f50, Tryd.func50, by kernel_rfl, by kernel_rfl⟩
theorem has27 (W : World) : (eaS W).has 27 f27 := ⟨Tryd.f27, Tryd.func27, by kernel_rfl, by kernel_rfl⟩
theorem has26 (W : World) : (eaS W).has 26 f26 := ⟨Tryd.f26, Tryd.func26, by kernel_rfl, by kernel_rfl⟩
theorem has57 (W : World) : (eaS W).has 57 f57 := ⟨Tryd.f57, Tryd.func57, by kernel_rfl, by kernel_rfl⟩
theorem has58 (W : World) : (eaS W).has 58 f58 := ⟨Tryd.f58, Tryd.func58, by kernel_rfl, by kernel_rfl⟩
theorem has46 (W : World) : (eaS W).has 46 f46 := ⟨Tryd.f46, Tryd.func46, by kernel_rfl, by kernel_rfl⟩
theorem has19 (W : World) : (eaS W).has 19 f19 := ⟨Tryd.f19, Tryd.func19, by kernel_rfl, by kernel_rfl⟩
theorem has34 (W : World) : (eaS W).has 34 f34 := ⟨Tryd.f34, Tryd.func34, by kernel_rfl, by kernel_rfl⟩
theorem has51 (W : World) : (eaS W).has 51 f51 := ⟨Tryd.f51, Tryd.func51, by kernel_rfl, by kernel_rfl⟩
theorem has36 (W : World) : (eaS W).has 36 f36 := ⟨Tryd.f36, Tryd.func36, by kernel_rfl, by kernel_rfl⟩
theorem has28 (W : World) : (eaS W).has 28 f28 := ⟨Tryd.f28, Tryd.func28, by kernel_rfl, by kernel_rfl⟩
theorem has52 (W : World) : (eaS W).has 52 f52 := ⟨Tryd.f52, Tryd.func52, by kernel_rfl, by kernel_rfl⟩
theorem has73 (W : World) : (eaS W).has 73 f73 := ⟨Tryd.f73, Tryd.func73, by kernel_rfl, by kernel_rfl⟩
theorem has29 (W : World) : (eaS W).has 29 f29 := ⟨Tryd.f29, Tryd.func29, by kernel_rfl, by kernel_rfl⟩
theorem has30 (W : World) : (eaS W).has 30 f30 := ⟨Tryd.f30, Tryd.func30, by kernel_rfl, by kernel_rfl⟩
theorem has31 (W : World) : (eaS W).has 31 f31 := ⟨Tryd.f31, Tryd.func31, by kernel_rfl, by kernel_rfl⟩
theorem has32 (W : World) : (eaS W).has 32 f32 := ⟨Tryd.f32, Tryd.func32, by kernel_rfl, by kernel_rfl⟩
theorem has6 (W : World) : (eaS W).has 6 f6 := ⟨Tryd.f6, Tryd.func6, by kernel_rfl, by kernel_rfl⟩
theorem q55 {W : World} (hU : Lib.Utf8Tabs 0 1 W) : PrOk (eaS W) 55 (pureP G55) := pr55 (sb W) (has55 W)
theorem q59 {W : World} (hU : Lib.Utf8Tabs 0 1 W) : PrOk (eaS W) 59 (pureP G59) := pr59 (sb W) (has59 W)
theorem q35 {W : World} (hU : Lib.Utf8Tabs 0 1 W) : PrOk (eaS W) 35 (pureP G35) := pr35 (sb W) (q55 hU) (q59 hU) (has35 W)
theorem q72 {W : World} (hU : Lib.Utf8Tabs 0 1 W) : PrOk (eaS W) 72 (pureP G72) := pr72 (sb W) (has72 W)
theorem q50 {W : World} (hU : Lib.Utf8Tabs 0 1 W) : PrOk (eaS W) 50 (pureP G50) := pr50 (sb W) (q35 hU) (q72 hU) (has50 W)
theorem q27 {W : World} (hU : Lib.Utf8Tabs 0 1 W) : PrOk (eaS W) 27 (pureP G27) := pr27 (sb W) (q38 hU) (q50 hU) (has27 W)
theorem q26 {W : World} (hU : Lib.Utf8Tabs 0 1 W) : PrOk (eaS W) 26 (pureP G26) := pr26 (sb W) (q27 hU) (has26 W)
theorem q57 {W : World} (hU : Lib.Utf8Tabs 0 1 W) : PrOk (eaS W) 57 (pureP G57) := pr57 (sb W) (has57 W)
theorem q58 {W : World} (hU : Lib.Utf8Tabs 0 1 W) : PrOk (eaS W) 58 (pureP G58) := pr58 (sb W) (has58 W)
theorem q46 {W : World} (hU : Lib.Utf8Tabs 0 1 W) : PrOk (eaS W) 46 (pureP G46) := pr46 (sb W) (q57 hU) (q58 hU) (has46 W)
theorem q19 {W : World} (hU : Lib.Utf8Tabs 0 1 W) : PrOk (eaS W) 19 (pureP G19) := pr19 (sb W) (q46 hU) (has19 W)
theorem q34 {W : World} (hU : Lib.Utf8Tabs 0 1 W) : PrOk (eaS W) 34 (pureP G34) := pr34 (sb W) (q57 hU) (q58 hU) (has34 W)
theorem q51 {W : World} (hU : Lib.Utf8Tabs 0 1 W) : PrOk (eaS W) 51 (pureP G51) := pr51 (sb W) (q34 hU) (has51 W)
theorem q36 {W : World} (hU : Lib.Utf8Tabs 0 1 W) : PrOk (eaS W) 36 (pureP G36) := pr36 (sb W) (q57 hU) (has36 W)
theorem q28 {W : World} (hU : Lib.Utf8Tabs 0 1 W) : PrOk (eaS W) 28 (pureP G28) := pr28 (sb W) (q19 hU) (q51 hU) (q36 hU) (has28 W)
theorem q29 {W : World} (hU : Lib.Utf8Tabs 0 1 W) : PrOk (eaS W) 29 (pureP G29) := pr29 (sb W) (q27 hU) (has52 W) (has73 W) (has29 W)
theorem q30 {W : World} (hU : Lib.Utf8Tabs 0 1 W) : PrOk (eaS W) 30 (pureP G30) := pr30 (sb W) (q28 hU) (has30 W)
theorem q31 {W : World} (hU : Lib.Utf8Tabs 0 1 W) : PrOk (eaS W) 31 (pureP G31) := pr31 (sb W) (has31 W)
theorem q32 {W : World} (hU : Lib.Utf8Tabs 0 1 W) : PrOk (eaS W) 32 (pureP G32) := pr32 (sb W) (has32 W)
end Go.Proofs.YtngcpifknomecaaDoor
