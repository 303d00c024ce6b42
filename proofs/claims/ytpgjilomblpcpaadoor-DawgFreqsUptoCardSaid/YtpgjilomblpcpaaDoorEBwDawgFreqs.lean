/- What the law's function reaches, in this seat's program: each has the text that was read, and each means what was shown of it. Conditions: none. -/
import Derived.Test.YtpgjilomblpcpaaDoorEBss3
import Derived.Test.YtpgjilomblpcpaaDoorEDb
import Derived.Test.YtpgjilomblpcpaaDoorEDf
import Derived.Test.YtpgjilomblpcpaaDoorEDfq
import Derived.Test.YtpgjilomblpcpaaDoorEDj
import Derived.Test.YtpgjilomblpcpaaDoorEK26
import Derived.Test.YtpgjilomblpcpaaDoorEDwd
import Derived.Test.YtpgjilomblpcpaaDoorEK25
import Derived.Test.YtpgjilomblpcpaaDoorELx1
import Derived.Test.YtpgjilomblpcpaaDoorELx5
import Derived.Test.YtpgjilomblpcpaaDoorERf
import Derived.Test.YtpgjilomblpcpaaDoorERu
set_option linter.unusedVariables false
set_option linter.unusedSimpArgs false
set_option maxRecDepth 100000
namespace Go.Proofs.YtpgjilomblpcpaaDoor
open Go.EA Go.EA.F
theorem has45 (W:World):(eaS W).has 45 f45:=⟨Tryd.f61,Tryd.func61,by kernel_rfl,by kernel_rfl⟩
theorem has68 (W:World):(eaS W).has 68 f68:=⟨Tryd.f86,Tryd.func86,by kernel_rfl,by kernel_rfl⟩
theorem has17 (W:World):(eaS W).has 17 f17:=⟨Tryd.f32,Tryd.func32,by kernel_rfl,by kernel_rfl⟩
theorem has330 (W:World):(eaS W).has 330 f330:=⟨Tryd.f79,Tryd.func79,by kernel_rfl,by kernel_rfl⟩
theorem has75 (W:World):(eaS W).has 75 f75:=⟨Tryd.f95,Tryd.func95,by kernel_rfl,by kernel_rfl⟩
theorem has56 (W:World):(eaS W).has 56 f56:=⟨Tryd.f70,Tryd.func70,by kernel_rfl,by kernel_rfl⟩
theorem has346 (W:World):(eaS W).has 346 f346:=⟨Tryd.f100,Tryd.func100,by kernel_rfl,by kernel_rfl⟩
theorem has329 (W:World):(eaS W).has 329 f329:=⟨Tryd.f78,Tryd.func78,by kernel_rfl,by kernel_rfl⟩
theorem has311 (W:World):(eaS W).has 311 f311:=⟨Tryd.f53,Tryd.func53,by kernel_rfl,by kernel_rfl⟩
theorem has312 (W:World):(eaS W).has 312 f312:=⟨Tryd.f54,Tryd.func54,by kernel_rfl,by kernel_rfl⟩
theorem has20 (W:World):(eaS W).has 20 f20:=⟨Tryd.f66,Tryd.func66,by kernel_rfl,by kernel_rfl⟩
theorem has298 (W:World):(eaS W).has 298 f298:=⟨Tryd.f39,Tryd.func39,by kernel_rfl,by kernel_rfl⟩
theorem has337 (W:World):(eaS W).has 337 f337:=⟨Tryd.f89,Tryd.func89,by kernel_rfl,by kernel_rfl⟩
theorem has336 (W:World):(eaS W).has 336 f336:=⟨Tryd.f88,Tryd.func88,by kernel_rfl,by kernel_rfl⟩
theorem has318 (W:World):(eaS W).has 318 f318:=⟨Tryd.f62,Tryd.func62,by kernel_rfl,by kernel_rfl⟩
theorem has296 (W:World):(eaS W).has 296 f296:=⟨Tryd.f37,Tryd.func37,by kernel_rfl,by kernel_rfl⟩
theorem has278 (W:World):(eaS W).has 278 f278:=⟨Tryd.f18,Tryd.func18,by kernel_rfl,by kernel_rfl⟩
theorem has281 (W:World):(eaS W).has 281 f281:=⟨Tryd.f21,Tryd.func21,by kernel_rfl,by kernel_rfl⟩
theorem has282 (W:World):(eaS W).has 282 f282:=⟨Tryd.f22,Tryd.func22,by kernel_rfl,by kernel_rfl⟩
theorem has284 (W:World):(eaS W).has 284 f284:=⟨Tryd.f24,Tryd.func24,by kernel_rfl,by kernel_rfl⟩
theorem has289 (W:World):(eaS W).has 289 f289:=⟨Tryd.f29,Tryd.func29,by kernel_rfl,by kernel_rfl⟩
theorem has314 (W:World):(eaS W).has 314 f314:=⟨Tryd.f57,Tryd.func57,by kernel_rfl,by kernel_rfl⟩
theorem has276 (W:World):(eaS W).has 276 f276:=⟨Tryd.f16,Tryd.func16,by kernel_rfl,by kernel_rfl⟩
theorem has277 (W:World):(eaS W).has 277 f277:=⟨Tryd.f17,Tryd.func17,by kernel_rfl,by kernel_rfl⟩
theorem has315 (W:World):(eaS W).has 315 f315:=⟨Tryd.f58,Tryd.func58,by kernel_rfl,by kernel_rfl⟩
theorem has285 (W:World):(eaS W).has 285 f285:=⟨Tryd.f25,Tryd.func25,by kernel_rfl,by kernel_rfl⟩
theorem has57 (W:World):(eaS W).has 57 f57:=⟨Tryd.f101,Tryd.func101,by kernel_rfl,by kernel_rfl⟩
theorem has58 (W:World):(eaS W).has 58 f58:=⟨Tryd.f102,Tryd.func102,by kernel_rfl,by kernel_rfl⟩
theorem has46 (W:World):(eaS W).has 46 f46:=⟨Tryd.f80,Tryd.func80,by kernel_rfl,by kernel_rfl⟩
theorem has19 (W:World):(eaS W).has 19 f19:=⟨Tryd.f55,Tryd.func55,by kernel_rfl,by kernel_rfl⟩
theorem has21 (W:World):(eaS W).has 21 f21:=⟨Tryd.f67,Tryd.func67,by kernel_rfl,by kernel_rfl⟩
theorem has299 (W:World):(eaS W).has 299 f299:=⟨Tryd.f40,Tryd.func40,by kernel_rfl,by kernel_rfl⟩
theorem has317 (W:World):(eaS W).has 317 f317:=⟨Tryd.f60,Tryd.func60,by kernel_rfl,by kernel_rfl⟩
theorem has291 (W:World):(eaS W).has 291 f291:=⟨Tryd.f31,Tryd.func31,by kernel_rfl,by kernel_rfl⟩
theorem has288 (W:World):(eaS W).has 288 f288:=⟨Tryd.f28,Tryd.func28,by kernel_rfl,by kernel_rfl⟩
theorem has287 (W:World):(eaS W).has 287 f287:=⟨Tryd.f27,Tryd.func27,by kernel_rfl,by kernel_rfl⟩
theorem has302 (W:World):(eaS W).has 302 f302:=⟨Tryd.f43,Tryd.func43,by kernel_rfl,by kernel_rfl⟩
theorem has269 (W:World):(eaS W).has 269 f269:=⟨Tryd.f9,Tryd.func9,by kernel_rfl,by kernel_rfl⟩
theorem q17 {W:World} (hU:Lib.Utf8Tabs 0 1 W):PrOk (eaS W) 17 (pureP G17):=pr17 (sb W) (q69 hU) (has45 W) (has68 W) (has17 W)
theorem q330 {W:World} (hU:Lib.Utf8Tabs 0 1 W):PrOk (eaS W) 330 (pureP G330):=pr330 (sb W) (has330 W)
theorem u56 {W:World} (hU:Lib.Utf8Tabs 0 1 W):MutOk (eaS W) 56 C56:=mu56 (sb W) (has75 W) (has56 W)
theorem q346 {W:World} (hU:Lib.Utf8Tabs 0 1 W):PrOk (eaS W) 346 (pureP G346):=pr346 (sb W) (u56 hU) (has346 W)
theorem u311 {W:World} (hU:Lib.Utf8Tabs 0 1 W):MutOk (eaS W) 311 C311:=mu311 (sb W) (q17 hU) (q330 hU) (q346 hU) (has329 W) (has311 W)
theorem u312 {W:World} (hU:Lib.Utf8Tabs 0 1 W):MutOk (eaS W) 312 (mapCon (.int .i64) (.int .i64) C312u):=mu312 (sb W) (has312 W)
theorem q20 {W:World} (hU:Lib.Utf8Tabs 0 1 W):PrOk (eaS W) 20 (pureP G20):=pr20 (sb W) (q17 hU) (has20 W)
theorem q298 {W:World} (hU:Lib.Utf8Tabs 0 1 W):PrOk (eaS W) 298 (pureP G298):=pr298 (sb W) (q20 hU) (has298 W)
theorem q337 {W:World} (hU:Lib.Utf8Tabs 0 1 W):PrOk (eaS W) 337 (pureP G337):=pr337 (sb W) (q298 hU) (has337 W)
theorem q336 {W:World} (hU:Lib.Utf8Tabs 0 1 W):PrOk (eaS W) 336 (pureP G336):=pr336 (sb W) (q337 hU) (has336 W)
theorem q318 {W:World} (hU:Lib.Utf8Tabs 0 1 W):PrOk (eaS W) 318 (pureP G318):=pr318 (sb W) (q336 hU) (q298 hU) (has318 W)
theorem q296 {W:World} (hU:Lib.Utf8Tabs 0 1 W):PrOk (eaS W) 296 (pureP G296):=pr296 (sb W) (q318 hU) (has296 W)
theorem q278 {W:World} (hU:Lib.Utf8Tabs 0 1 W):PrOk (eaS W) 278 (pureP G278):=pr278 (sb W) (u311 hU) (u312 hU) (q296 hU) (has278 W)
theorem q281 {W:World} (hU:Lib.Utf8Tabs 0 1 W):PrOk (eaS W) 281 (pureP G281):=pr281 (sb W) (has281 W)
theorem q282 {W:World} (hU:Lib.Utf8Tabs 0 1 W):PrOk (eaS W) 282 (pureP G282):=pr282 (sb W) (has282 W)
theorem q284 {W:World} (hU:Lib.Utf8Tabs 0 1 W):PrOk (eaS W) 284 (pureP G284):=pr284 (sb W) (has284 W)
theorem q276 {W:World} (hU:Lib.Utf8Tabs 0 1 W):PrOk (eaS W) 276 (pureP G276):=pr276 (sb W) (q278 hU) (q281 hU) (q282 hU) (q284 hU) (has289 W) (has314 W) (has276 W)
theorem q277 {W:World} (hU:Lib.Utf8Tabs 0 1 W):PrOk (eaS W) 277 (pureP G277):=pr277 (sb W) (has277 W)
theorem q285 {W:World} (hU:Lib.Utf8Tabs 0 1 W):PrOk (eaS W) 285 (pureP G285):=pr285 (sb W) (has314 W) (has315 W) (has285 W)
theorem q57 {W:World} (hU:Lib.Utf8Tabs 0 1 W):PrOk (eaS W) 57 (pureP G57):=pr57 (sb W) (has57 W)
theorem q58 {W:World} (hU:Lib.Utf8Tabs 0 1 W):PrOk (eaS W) 58 (pureP G58):=pr58 (sb W) (has58 W)
theorem q46 {W:World} (hU:Lib.Utf8Tabs 0 1 W):PrOk (eaS W) 46 (pureP G46):=pr46 (sb W) (q57 hU) (q58 hU) (has46 W)
theorem q19 {W:World} (hU:Lib.Utf8Tabs 0 1 W):PrOk (eaS W) 19 (pureP G19):=pr19 (sb W) (q46 hU) (has19 W)
theorem q21 {W:World} (hU:Lib.Utf8Tabs 0 1 W):PrOk (eaS W) 21 (pureP G21):=pr21 (sb W) (q19 hU) (has21 W)
theorem q299 {W:World} (hU:Lib.Utf8Tabs 0 1 W):PrOk (eaS W) 299 (pureP G299):=pr299 (sb W) (q21 hU) (has299 W)
theorem q317 {W:World} (hU:Lib.Utf8Tabs 0 1 W):PrOk (eaS W) 317 (pureP G317):=pr317 (sb W) (q299 hU) (has317 W)
theorem q291 {W:World} (hU:Lib.Utf8Tabs 0 1 W):PrOk (eaS W) 291 (pureP G291):=pr291 (sb W) (q317 hU) (has291 W)
theorem q288 {W:World} (hU:Lib.Utf8Tabs 0 1 W):PrOk (eaS W) 288 (pureP G288):=pr288 (sb W) (has288 W)
theorem q287 {W:World} (hU:Lib.Utf8Tabs 0 1 W):PrOk (eaS W) 287 (pureP G287):=pr287 (sb W) (has287 W)
theorem q302 {W:World} (hU:Lib.Utf8Tabs 0 1 W):PrOk (eaS W) 302 (pureP G302):=pr302 (sb W) (u56 hU) (has302 W)
end Go.Proofs.YtpgjilomblpcpaaDoor
