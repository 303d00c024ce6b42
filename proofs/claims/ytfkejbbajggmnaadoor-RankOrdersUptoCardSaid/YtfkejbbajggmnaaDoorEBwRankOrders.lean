/- What the law's function reaches, in this seat's program: each has the text that was read, and each means what was shown of it. Conditions: none. (Printed by a program of this project's own.) -/
import Derived.Test.YtfkejbbajggmnaaDoorEBss4
import Derived.Test.YtfkejbbajggmnaaDoorECs
import Derived.Test.YtfkejbbajggmnaaDoorELw4
import Derived.Test.YtfkejbbajggmnaaDoorELx3
import Derived.Test.YtfkejbbajggmnaaDoorERc1
import Derived.Test.YtfkejbbajggmnaaDoorERc2
import Derived.Test.YtfkejbbajggmnaaDoorERc3
import Derived.Test.YtfkejbbajggmnaaDoorERu
import Derived.Test.YtfkejbbajggmnaaDoorESo4
set_option linter.unusedVariables false
set_option linter.unusedSimpArgs false
set_option maxRecDepth 100000
namespace Go.Proofs.YtfkejbbajggmnaaDoor
open Go.EA Go.EA.F
theorem has45 (W:World):(eaS W).has 45 f45:=⟨Tryd.f44,Tryd.func44,by kernel_rfl,by kernel_rfl⟩
theorem has68 (W:World):(eaS W).has 68 f68:=⟨Tryd.f49,Tryd.func49,by kernel_rfl,by kernel_rfl⟩
theorem has17 (W:World):(eaS W).has 17 f17:=⟨Tryd.f37,Tryd.func37,by kernel_rfl,by kernel_rfl⟩
theorem has20 (W:World):(eaS W).has 20 f20:=⟨Tryd.f28,Tryd.func28,by kernel_rfl,by kernel_rfl⟩
theorem has387 (W:World):(eaS W).has 387 f387:=⟨Tryd.f20,Tryd.func20,by kernel_rfl,by kernel_rfl⟩
theorem has390 (W:World):(eaS W).has 390 f390:=⟨Tryd.f23,Tryd.func23,by kernel_rfl,by kernel_rfl⟩
theorem has391 (W:World):(eaS W).has 391 f391:=⟨Tryd.f24,Tryd.func24,by kernel_rfl,by kernel_rfl⟩
theorem has395 (W:World):(eaS W).has 395 f395:=⟨Tryd.f30,Tryd.func30,by kernel_rfl,by kernel_rfl⟩
theorem has396 (W:World):(eaS W).has 396 f396:=⟨Tryd.f31,Tryd.func31,by kernel_rfl,by kernel_rfl⟩
theorem has397 (W:World):(eaS W).has 397 f397:=⟨Tryd.f32,Tryd.func32,by kernel_rfl,by kernel_rfl⟩
theorem has399 (W:World):(eaS W).has 399 f399:=⟨Tryd.f39,Tryd.func39,by kernel_rfl,by kernel_rfl⟩
theorem has401 (W:World):(eaS W).has 401 f401:=⟨Tryd.f41,Tryd.func41,by kernel_rfl,by kernel_rfl⟩
theorem has402 (W:World):(eaS W).has 402 f402:=⟨Tryd.f46,Tryd.func46,by kernel_rfl,by kernel_rfl⟩
theorem has379 (W:World):(eaS W).has 379 f379:=⟨Tryd.f12,Tryd.func12,by kernel_rfl,by kernel_rfl⟩
theorem has377 (W:World):(eaS W).has 377 f377:=⟨Tryd.f10,Tryd.func10,by kernel_rfl,by kernel_rfl⟩
theorem has378 (W:World):(eaS W).has 378 f378:=⟨Tryd.f11,Tryd.func11,by kernel_rfl,by kernel_rfl⟩
theorem has380 (W:World):(eaS W).has 380 f380:=⟨Tryd.f13,Tryd.func13,by kernel_rfl,by kernel_rfl⟩
theorem has345 (W:World):(eaS W).has 345 f345:=⟨Tryd.f42,Tryd.func42,by kernel_rfl,by kernel_rfl⟩
theorem has328 (W:World):(eaS W).has 328 f328:=⟨Tryd.f34,Tryd.func34,by kernel_rfl,by kernel_rfl⟩
theorem has261 (W:World):(eaS W).has 261 f261:=⟨Tryd.f43,Tryd.func43,by kernel_rfl,by kernel_rfl⟩
theorem has252 (W:World):(eaS W).has 252 f252:=⟨Tryd.f35,Tryd.func35,by kernel_rfl,by kernel_rfl⟩
theorem has251 (W:World):(eaS W).has 251 f251:=⟨Tryd.f33,Tryd.func33,by kernel_rfl,by kernel_rfl⟩
theorem has392 (W:World):(eaS W).has 392 f392:=⟨Tryd.f25,Tryd.func25,by kernel_rfl,by kernel_rfl⟩
theorem has381 (W:World):(eaS W).has 381 f381:=⟨Tryd.f14,Tryd.func14,by kernel_rfl,by kernel_rfl⟩
theorem has370 (W:World):(eaS W).has 370 f370:=⟨Tryd.f3,Tryd.func3,by kernel_rfl,by kernel_rfl⟩
theorem q17 {W:World} (hU:Lib.Utf8Tabs 0 1 W):PrOk (eaS W) 17 (pureP G17):=pr17 (sb W) (q69 hU) (has45 W) (has68 W) (has17 W)
theorem q20 {W:World} (hU:Lib.Utf8Tabs 0 1 W):PrOk (eaS W) 20 (pureP G20):=pr20 (sb W) (q17 hU) (has20 W)
theorem q387 {W:World} (hU:Lib.Utf8Tabs 0 1 W):PrOk (eaS W) 387 (pureP G387):=pr387 (sb W) (q20 hU) (has387 W)
theorem q390 {W:World} (hU:Lib.Utf8Tabs 0 1 W):PrOk (eaS W) 390 (pureP G390):=pr390 (sb W) (q387 hU) (has390 W)
theorem q379 {W:World} (hU:Lib.Utf8Tabs 0 1 W):PrOk (eaS W) 379 (pureP G379):=pr379 (sb W) (u400 hU) (q390 hU) (has391 W) (has395 W) (has396 W) (has397 W) (has399 W) (has401 W) (has402 W) (has379 W)
theorem q377 {W:World} (hU:Lib.Utf8Tabs 0 1 W):PrOk (eaS W) 377 (pureP G377):=pr377 (sb W) (q379 hU) (q387 hU) (has377 W)
theorem q378 {W:World} (hU:Lib.Utf8Tabs 0 1 W):PrOk (eaS W) 378 (pureP G378):=pr378 (sb W) (has378 W)
theorem q380 {W:World} (hU:Lib.Utf8Tabs 0 1 W):PrOk (eaS W) 380 (pureP G380):=pr380 (sb W) (has380 W)
theorem q345 {W:World} (hU:Lib.Utf8Tabs 0 1 W):PrOk (eaS W) 345 (pureP G345):=pr345 (sb W) (has345 W)
theorem q328 {W:World} (hU:Lib.Utf8Tabs 0 1 W):PrOk (eaS W) 328 (pureP G328):=pr328 (sb W) (q345 hU) (has328 W)
theorem q252 {W:World} (hU:Lib.Utf8Tabs 0 1 W):PrOk (eaS W) 252 (pureP G252):=pr252 (sb W) (has261 W) (has252 W)
theorem q251 {W:World} (hU:Lib.Utf8Tabs 0 1 W):PrOk (eaS W) 251 (pureP G251):=pr251 (sb W) (has251 W)
theorem q392 {W:World} (hU:Lib.Utf8Tabs 0 1 W):PrOk (eaS W) 392 (pureP G392):=pr392 (sb W) (q328 hU) (q252 hU) (q251 hU) (has392 W)
theorem q381 {W:World} (hU:Lib.Utf8Tabs 0 1 W):PrOk (eaS W) 381 (pureP G381):=pr381 (sb W) (q392 hU) (has381 W)
end Go.Proofs.YtfkejbbajggmnaaDoor
