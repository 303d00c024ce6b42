/- What the law's function reaches, in this seat's program: each has the text that was read, and each means what was shown of it. Conditions: none. (Printed by a program of this project's own.) -/
import Derived.Test.YtmfjbaepgfdfpaaDoorEBss2
import Derived.Test.YtmfjbaepgfdfpaaDoorEDi
import Derived.Test.YtmfjbaepgfdfpaaDoorEGr
import Derived.Test.YtmfjbaepgfdfpaaDoorELw33
import Derived.Test.YtmfjbaepgfdfpaaDoorELw8
import Derived.Test.YtmfjbaepgfdfpaaDoorERf
import Derived.Test.YtmfjbaepgfdfpaaDoorERu
import Derived.Test.YtmfjbaepgfdfpaaDoorESp4
import Derived.Test.YtmfjbaepgfdfpaaDoorETb
import Derived.Test.YtmfjbaepgfdfpaaDoorETc
set_option linter.unusedVariables false
set_option maxRecDepth 100000
namespace Go.Proofs.YtmfjbaepgfdfpaaDoor
open Go.EA Go.EA.F
theorem has45 (W : World) : (eaS W).has 45 f45 := ⟨Tryd.f48, Tryd.func48, by kernel_rfl, by kernel_rfl⟩
theorem has68 (W : World) : (eaS W).has 68 f68 := ⟨Tryd.f72, Tryd.func72, by kernel_rfl, by kernel_rfl⟩
theorem has17 (W : World) : (eaS W).has 17 f17 := ⟨Tryd.f23, Tryd.func23, by kernel_rfl, by kernel_rfl⟩
theorem has20 (W : World) : (eaS W).has 20 f20 := ⟨Tryd.f22, Tryd.func22, by kernel_rfl, by kernel_rfl⟩
theorem has256 (W : World) : (eaS W).has 256 f256 := ⟨Tryd.f68, Tryd.func68, by kernel_rfl, by kernel_rfl⟩
theorem has262 (W : World) : (eaS W).has 262 f262 := ⟨Tryd.f82, Tryd.func82, by kernel_rfl, by kernel_rfl⟩
theorem has255 (W : World) : (eaS W).has 255 f255 := ⟨Tryd.f67, Tryd.func67, by kernel_rfl, by kernel_rfl⟩
theorem has237 (W : World) : (eaS W).has 237 f237 := ⟨Tryd.f42, Tryd.func42, by kernel_rfl, by kernel_rfl⟩
theorem has239 (W : World) : (eaS W).has 239 f239 := ⟨Tryd.f44, Tryd.func44, by kernel_rfl, by kernel_rfl⟩
theorem has258 (W : World) : (eaS W).has 258 f258 := ⟨Tryd.f70, Tryd.func70, by kernel_rfl, by kernel_rfl⟩
theorem has238 (W : World) : (eaS W).has 238 f238 := ⟨Tryd.f43, Tryd.func43, by kernel_rfl, by kernel_rfl⟩
theorem has257 (W : World) : (eaS W).has 257 f257 := ⟨Tryd.f69, Tryd.func69, by kernel_rfl, by kernel_rfl⟩
theorem has240 (W : World) : (eaS W).has 240 f240 := ⟨Tryd.f45, Tryd.func45, by kernel_rfl, by kernel_rfl⟩
theorem has214 (W : World) : (eaS W).has 214 f214 := ⟨Tryd.f17, Tryd.func17, by kernel_rfl, by kernel_rfl⟩
theorem has216 (W : World) : (eaS W).has 216 f216 := ⟨Tryd.f19, Tryd.func19, by kernel_rfl, by kernel_rfl⟩
theorem has213 (W : World) : (eaS W).has 213 f213 := ⟨Tryd.f16, Tryd.func16, by kernel_rfl, by kernel_rfl⟩
theorem has57 (W : World) : (eaS W).has 57 f57 := ⟨Tryd.f57, Tryd.func57, by kernel_rfl, by kernel_rfl⟩
theorem has58 (W : World) : (eaS W).has 58 f58 := ⟨Tryd.f84, Tryd.func84, by kernel_rfl, by kernel_rfl⟩
theorem has46 (W : World) : (eaS W).has 46 f46 := ⟨Tryd.f81, Tryd.func81, by kernel_rfl, by kernel_rfl⟩
theorem has19 (W : World) : (eaS W).has 19 f19 := ⟨Tryd.f66, Tryd.func66, by kernel_rfl, by kernel_rfl⟩
theorem has21 (W : World) : (eaS W).has 21 f21 := ⟨Tryd.f71, Tryd.func71, by kernel_rfl, by kernel_rfl⟩
theorem has242 (W : World) : (eaS W).has 242 f242 := ⟨Tryd.f47, Tryd.func47, by kernel_rfl, by kernel_rfl⟩
theorem has241 (W : World) : (eaS W).has 241 f241 := ⟨Tryd.f46, Tryd.func46, by kernel_rfl, by kernel_rfl⟩
theorem has215 (W : World) : (eaS W).has 215 f215 := ⟨Tryd.f18, Tryd.func18, by kernel_rfl, by kernel_rfl⟩
theorem has217 (W : World) : (eaS W).has 217 f217 := ⟨Tryd.f20, Tryd.func20, by kernel_rfl, by kernel_rfl⟩
theorem has218 (W : World) : (eaS W).has 218 f218 := ⟨Tryd.f21, Tryd.func21, by kernel_rfl, by kernel_rfl⟩
theorem has200 (W : World) : (eaS W).has 200 f200 := ⟨Tryd.f3, Tryd.func3, by kernel_rfl, by kernel_rfl⟩
theorem q17 {W : World} (hU : Lib.Utf8Tabs 0 1 W) : PrOk (eaS W) 17 (pureP G17) := pr17 (sb W) (q69 hU) (has45 W) (has68 W) (has17 W)
theorem q20 {W : World} (hU : Lib.Utf8Tabs 0 1 W) : PrOk (eaS W) 20 (pureP G20) := pr20 (sb W) (q17 hU) (has20 W)
theorem q256 {W : World} (hU : Lib.Utf8Tabs 0 1 W) : PrOk (eaS W) 256 (pureP G256) := pr256 (sb W) (has256 W)
theorem q255 {W : World} (hU : Lib.Utf8Tabs 0 1 W) : PrOk (eaS W) 255 (pureP G255) := pr255 (sb W) (q256 hU) (has262 W) (has255 W)
theorem q214 {W : World} (hU : Lib.Utf8Tabs 0 1 W) : PrOk (eaS W) 214 (pureP G214) := pr214 (sb W) (q20 hU) (q255 hU) (q256 hU) (has237 W) (has239 W) (has258 W) (has238 W) (has257 W) (has240 W) (has214 W)
theorem q216 {W : World} (hU : Lib.Utf8Tabs 0 1 W) : PrOk (eaS W) 216 (pureP G216) := pr216 (sb W) (q20 hU) (q255 hU) (q256 hU) (has237 W) (has216 W)
theorem q213 {W : World} (hU : Lib.Utf8Tabs 0 1 W) : PrOk (eaS W) 213 (pureP G213) := pr213 (sb W) (q214 hU) (q216 hU) (has213 W)
theorem q57 {W : World} (hU : Lib.Utf8Tabs 0 1 W) : PrOk (eaS W) 57 (pureP G57) := pr57 (sb W) (has57 W)
theorem q58 {W : World} (hU : Lib.Utf8Tabs 0 1 W) : PrOk (eaS W) 58 (pureP G58) := pr58 (sb W) (has58 W)
theorem q46 {W : World} (hU : Lib.Utf8Tabs 0 1 W) : PrOk (eaS W) 46 (pureP G46) := pr46 (sb W) (q57 hU) (q58 hU) (has46 W)
theorem q19 {W : World} (hU : Lib.Utf8Tabs 0 1 W) : PrOk (eaS W) 19 (pureP G19) := pr19 (sb W) (q46 hU) (has19 W)
theorem q21 {W : World} (hU : Lib.Utf8Tabs 0 1 W) : PrOk (eaS W) 21 (pureP G21) := pr21 (sb W) (q19 hU) (has21 W)
theorem q242 {W : World} (hU : Lib.Utf8Tabs 0 1 W) : PrOk (eaS W) 242 (pureP G242) := pr242 (sb W) (has242 W)
theorem q215 {W : World} (hU : Lib.Utf8Tabs 0 1 W) : PrOk (eaS W) 215 (pureP G215) := pr215 (sb W) (q21 hU) (q242 hU) (has241 W) (has215 W)
theorem q217 {W : World} (hU : Lib.Utf8Tabs 0 1 W) : PrOk (eaS W) 217 (pureP G217) := pr217 (sb W) (q21 hU) (q242 hU) (has241 W) (has217 W)
theorem q218 {W : World} (hU : Lib.Utf8Tabs 0 1 W) : PrOk (eaS W) 218 (pureP G218) := pr218 (sb W) (has218 W)
end Go.Proofs.YtmfjbaepgfdfpaaDoor

