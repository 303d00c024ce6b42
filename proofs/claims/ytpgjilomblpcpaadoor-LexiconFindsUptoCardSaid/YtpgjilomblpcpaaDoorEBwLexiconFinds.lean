/- What the law's function reaches, in this seat's program: each has the text that was read, and each means what was shown of it. Conditions: none. (Printed by a program of this project's own.) -/
import Derived.Test.YtpgjilomblpcpaaDoorEBss3
import Derived.Test.YtpgjilomblpcpaaDoorECs
import Derived.Test.YtpgjilomblpcpaaDoorELw95
import Derived.Test.YtpgjilomblpcpaaDoorELx1
import Derived.Test.YtpgjilomblpcpaaDoorELx2
import Derived.Test.YtpgjilomblpcpaaDoorELx4
import Derived.Test.YtpgjilomblpcpaaDoorELx5
import Derived.Test.YtpgjilomblpcpaaDoorELx6
import Derived.Test.YtpgjilomblpcpaaDoorERf
import Derived.Test.YtpgjilomblpcpaaDoorERu
import Derived.Test.YtpgjilomblpcpaaDoorESt1
import Derived.Test.YtpgjilomblpcpaaDoorESt2
import Derived.Test.YtpgjilomblpcpaaDoorESt3
import Derived.Test.YtpgjilomblpcpaaDoorESo3
set_option linter.unusedVariables false
set_option linter.unusedSimpArgs false
set_option maxRecDepth 100000
namespace Go.Proofs.YtpgjilomblpcpaaDoor
open Go.EA Go.EA.F
theorem has261 (W:World):(eaS W).has 261 f261:=⟨Tryd.f107,Tryd.func107,by kernel_rfl,by kernel_rfl⟩
theorem has252 (W:World):(eaS W).has 252 f252:=⟨Tryd.f93,Tryd.func93,by kernel_rfl,by kernel_rfl⟩
theorem has321 (W:World):(eaS W).has 321 f321:=⟨Tryd.f65,Tryd.func65,by kernel_rfl,by kernel_rfl⟩
theorem has351 (W:World):(eaS W).has 351 f351:=⟨Tryd.f111,Tryd.func111,by kernel_rfl,by kernel_rfl⟩
theorem has368 (W:World):(eaS W).has 368 f368:=⟨Tryd.f128,Tryd.func128,by kernel_rfl,by kernel_rfl⟩
theorem has362 (W:World):(eaS W).has 362 f362:=⟨Tryd.f122,Tryd.func122,by kernel_rfl,by kernel_rfl⟩
theorem has352 (W:World):(eaS W).has 352 f352:=⟨Tryd.f112,Tryd.func112,by kernel_rfl,by kernel_rfl⟩
theorem has348 (W:World):(eaS W).has 348 f348:=⟨Tryd.f106,Tryd.func106,by kernel_rfl,by kernel_rfl⟩
theorem has45 (W:World):(eaS W).has 45 f45:=⟨Tryd.f61,Tryd.func61,by kernel_rfl,by kernel_rfl⟩
theorem has68 (W:World):(eaS W).has 68 f68:=⟨Tryd.f86,Tryd.func86,by kernel_rfl,by kernel_rfl⟩
theorem has17 (W:World):(eaS W).has 17 f17:=⟨Tryd.f32,Tryd.func32,by kernel_rfl,by kernel_rfl⟩
theorem has20 (W:World):(eaS W).has 20 f20:=⟨Tryd.f66,Tryd.func66,by kernel_rfl,by kernel_rfl⟩
theorem has298 (W:World):(eaS W).has 298 f298:=⟨Tryd.f39,Tryd.func39,by kernel_rfl,by kernel_rfl⟩
theorem has337 (W:World):(eaS W).has 337 f337:=⟨Tryd.f89,Tryd.func89,by kernel_rfl,by kernel_rfl⟩
theorem has336 (W:World):(eaS W).has 336 f336:=⟨Tryd.f88,Tryd.func88,by kernel_rfl,by kernel_rfl⟩
theorem has318 (W:World):(eaS W).has 318 f318:=⟨Tryd.f62,Tryd.func62,by kernel_rfl,by kernel_rfl⟩
theorem has319 (W:World):(eaS W).has 319 f319:=⟨Tryd.f63,Tryd.func63,by kernel_rfl,by kernel_rfl⟩
theorem has338 (W:World):(eaS W).has 338 f338:=⟨Tryd.f90,Tryd.func90,by kernel_rfl,by kernel_rfl⟩
theorem has339 (W:World):(eaS W).has 339 f339:=⟨Tryd.f91,Tryd.func91,by kernel_rfl,by kernel_rfl⟩
theorem has347 (W:World):(eaS W).has 347 f347:=⟨Tryd.f105,Tryd.func105,by kernel_rfl,by kernel_rfl⟩
theorem has320 (W:World):(eaS W).has 320 f320:=⟨Tryd.f64,Tryd.func64,by kernel_rfl,by kernel_rfl⟩
theorem has340 (W:World):(eaS W).has 340 f340:=⟨Tryd.f92,Tryd.func92,by kernel_rfl,by kernel_rfl⟩
theorem has295 (W:World):(eaS W).has 295 f295:=⟨Tryd.f36,Tryd.func36,by kernel_rfl,by kernel_rfl⟩
theorem has293 (W:World):(eaS W).has 293 f293:=⟨Tryd.f34,Tryd.func34,by kernel_rfl,by kernel_rfl⟩
theorem has294 (W:World):(eaS W).has 294 f294:=⟨Tryd.f35,Tryd.func35,by kernel_rfl,by kernel_rfl⟩
theorem has57 (W:World):(eaS W).has 57 f57:=⟨Tryd.f101,Tryd.func101,by kernel_rfl,by kernel_rfl⟩
theorem has58 (W:World):(eaS W).has 58 f58:=⟨Tryd.f102,Tryd.func102,by kernel_rfl,by kernel_rfl⟩
theorem has46 (W:World):(eaS W).has 46 f46:=⟨Tryd.f80,Tryd.func80,by kernel_rfl,by kernel_rfl⟩
theorem has19 (W:World):(eaS W).has 19 f19:=⟨Tryd.f55,Tryd.func55,by kernel_rfl,by kernel_rfl⟩
theorem has21 (W:World):(eaS W).has 21 f21:=⟨Tryd.f67,Tryd.func67,by kernel_rfl,by kernel_rfl⟩
theorem has299 (W:World):(eaS W).has 299 f299:=⟨Tryd.f40,Tryd.func40,by kernel_rfl,by kernel_rfl⟩
theorem has317 (W:World):(eaS W).has 317 f317:=⟨Tryd.f60,Tryd.func60,by kernel_rfl,by kernel_rfl⟩
theorem has291 (W:World):(eaS W).has 291 f291:=⟨Tryd.f31,Tryd.func31,by kernel_rfl,by kernel_rfl⟩
theorem has296 (W:World):(eaS W).has 296 f296:=⟨Tryd.f37,Tryd.func37,by kernel_rfl,by kernel_rfl⟩
theorem has342 (W:World):(eaS W).has 342 f342:=⟨Tryd.f96,Tryd.func96,by kernel_rfl,by kernel_rfl⟩
theorem has324 (W:World):(eaS W).has 324 f324:=⟨Tryd.f71,Tryd.func71,by kernel_rfl,by kernel_rfl⟩
theorem has303 (W:World):(eaS W).has 303 f303:=⟨Tryd.f44,Tryd.func44,by kernel_rfl,by kernel_rfl⟩
theorem has297 (W:World):(eaS W).has 297 f297:=⟨Tryd.f38,Tryd.func38,by kernel_rfl,by kernel_rfl⟩
theorem has308 (W:World):(eaS W).has 308 f308:=⟨Tryd.f50,Tryd.func50,by kernel_rfl,by kernel_rfl⟩
theorem has79 (W:World):(eaS W).has 79 f79:=⟨Tryd.f73,Tryd.func73,by kernel_rfl,by kernel_rfl⟩
theorem has65 (W:World):(eaS W).has 65 f65:=⟨Tryd.f47,Tryd.func47,by kernel_rfl,by kernel_rfl⟩
theorem has325 (W:World):(eaS W).has 325 f325:=⟨Tryd.f72,Tryd.func72,by kernel_rfl,by kernel_rfl⟩
theorem has343 (W:World):(eaS W).has 343 f343:=⟨Tryd.f97,Tryd.func97,by kernel_rfl,by kernel_rfl⟩
theorem has305 (W:World):(eaS W).has 305 f305:=⟨Tryd.f46,Tryd.func46,by kernel_rfl,by kernel_rfl⟩
theorem has309 (W:World):(eaS W).has 309 f309:=⟨Tryd.f51,Tryd.func51,by kernel_rfl,by kernel_rfl⟩
theorem has326 (W:World):(eaS W).has 326 f326:=⟨Tryd.f74,Tryd.func74,by kernel_rfl,by kernel_rfl⟩
theorem has307 (W:World):(eaS W).has 307 f307:=⟨Tryd.f49,Tryd.func49,by kernel_rfl,by kernel_rfl⟩
theorem has310 (W:World):(eaS W).has 310 f310:=⟨Tryd.f52,Tryd.func52,by kernel_rfl,by kernel_rfl⟩
theorem has300 (W:World):(eaS W).has 300 f300:=⟨Tryd.f41,Tryd.func41,by kernel_rfl,by kernel_rfl⟩
theorem has275 (W:World):(eaS W).has 275 f275:=⟨Tryd.f15,Tryd.func15,by kernel_rfl,by kernel_rfl⟩
theorem q252 {W:World} (hU:Lib.Utf8Tabs 0 1 W):PrOk (eaS W) 252 (pureP G252):=pr252 (sb W) (has261 W) (has252 W)
theorem q321 {W:World} (hU:Lib.Utf8Tabs 0 1 W):PrOk (eaS W) 321 (pureP G321):=pr321 (sb W) (q252 hU) (has321 W)
theorem u351 {W:World} (hU:Lib.Utf8Tabs 0 1 W):MutOk (eaS W) 351 C351:=mu351 (sb W) (q321 hU) (has351 W)
theorem u368 {W:World} (hU:Lib.Utf8Tabs 0 1 W):MutOk (eaS W) 368 C368:=mu368 (sb W) (has368 W)
theorem u362 {W:World} (hU:Lib.Utf8Tabs 0 1 W):MutOk (eaS W) 362 C362:=mu362 (sb W) (u368 hU) (has362 W)
theorem u352 {W:World} (hU:Lib.Utf8Tabs 0 1 W):MutOk (eaS W) 352 C352u:=mu352 (sb W) (u362 hU) (q321 hU) (has352 W)
theorem u348 {W:World} (hU:Lib.Utf8Tabs 0 1 W):MutOk (eaS W) 348 C348:=mu348 (sb W) (u351 hU) (u352 hU) (has348 W)
theorem q17 {W:World} (hU:Lib.Utf8Tabs 0 1 W):PrOk (eaS W) 17 (pureP G17):=pr17 (sb W) (q69 hU) (has45 W) (has68 W) (has17 W)
theorem q20 {W:World} (hU:Lib.Utf8Tabs 0 1 W):PrOk (eaS W) 20 (pureP G20):=pr20 (sb W) (q17 hU) (has20 W)
theorem q298 {W:World} (hU:Lib.Utf8Tabs 0 1 W):PrOk (eaS W) 298 (pureP G298):=pr298 (sb W) (q20 hU) (has298 W)
theorem q337 {W:World} (hU:Lib.Utf8Tabs 0 1 W):PrOk (eaS W) 337 (pureP G337):=pr337 (sb W) (q298 hU) (has337 W)
theorem q336 {W:World} (hU:Lib.Utf8Tabs 0 1 W):PrOk (eaS W) 336 (pureP G336):=pr336 (sb W) (q337 hU) (has336 W)
theorem q318 {W:World} (hU:Lib.Utf8Tabs 0 1 W):PrOk (eaS W) 318 (pureP G318):=pr318 (sb W) (q336 hU) (q298 hU) (has318 W)
theorem q295 {W:World} (hU:Lib.Utf8Tabs 0 1 W):PrOk (eaS W) 295 (pureP G295):=pr295 (sb W) (u348 hU) (q318 hU) (has319 W) (has338 W) (has339 W) (has347 W) (has320 W) (has340 W) (has295 W)
theorem q293 {W:World} (hU:Lib.Utf8Tabs 0 1 W):PrOk (eaS W) 293 (pureP G293):=pr293 (sb W) (q295 hU) (q298 hU) (has293 W)
theorem q294 {W:World} (hU:Lib.Utf8Tabs 0 1 W):PrOk (eaS W) 294 (pureP G294):=pr294 (sb W) (has294 W)
theorem q57 {W:World} (hU:Lib.Utf8Tabs 0 1 W):PrOk (eaS W) 57 (pureP G57):=pr57 (sb W) (has57 W)
theorem q58 {W:World} (hU:Lib.Utf8Tabs 0 1 W):PrOk (eaS W) 58 (pureP G58):=pr58 (sb W) (has58 W)
theorem q46 {W:World} (hU:Lib.Utf8Tabs 0 1 W):PrOk (eaS W) 46 (pureP G46):=pr46 (sb W) (q57 hU) (q58 hU) (has46 W)
theorem q19 {W:World} (hU:Lib.Utf8Tabs 0 1 W):PrOk (eaS W) 19 (pureP G19):=pr19 (sb W) (q46 hU) (has19 W)
theorem q21 {W:World} (hU:Lib.Utf8Tabs 0 1 W):PrOk (eaS W) 21 (pureP G21):=pr21 (sb W) (q19 hU) (has21 W)
theorem q299 {W:World} (hU:Lib.Utf8Tabs 0 1 W):PrOk (eaS W) 299 (pureP G299):=pr299 (sb W) (q21 hU) (has299 W)
theorem q317 {W:World} (hU:Lib.Utf8Tabs 0 1 W):PrOk (eaS W) 317 (pureP G317):=pr317 (sb W) (q299 hU) (has317 W)
theorem q291 {W:World} (hU:Lib.Utf8Tabs 0 1 W):PrOk (eaS W) 291 (pureP G291):=pr291 (sb W) (q317 hU) (has291 W)
theorem q296 {W:World} (hU:Lib.Utf8Tabs 0 1 W):PrOk (eaS W) 296 (pureP G296):=pr296 (sb W) (q318 hU) (has296 W)
theorem q342 {W:World} (hU:Lib.Utf8Tabs 0 1 W):PrOk (eaS W) 342 (pureP G342):=pr342 (sb W) (q321 hU) (has342 W)
theorem q324 {W:World} (hU:Lib.Utf8Tabs 0 1 W):PrOk (eaS W) 324 (pureP G324):=pr324 (sb W) (q342 hU) (has324 W)
theorem q303 {W:World} (hU:Lib.Utf8Tabs 0 1 W):PrOk (eaS W) 303 (pureP G303):=pr303 (sb W) (q296 hU) (q324 hU) (has303 W)
theorem q297 {W:World} (hU:Lib.Utf8Tabs 0 1 W):PrOk (eaS W) 297 (pureP G297):=pr297 (sb W) (q317 hU) (has297 W)
theorem q308 {W:World} (hU:Lib.Utf8Tabs 0 1 W):PrOk (eaS W) 308 (pureP G308):=pr308 (sb W) (q297 hU) (has308 W)
theorem q79 {W:World} (hU:Lib.Utf8Tabs 0 1 W):PrOk (eaS W) 79 (pureP G79):=pr79 (sb W) (has79 W)
theorem q65 {W:World} (hU:Lib.Utf8Tabs 0 1 W):PrOk (eaS W) 65 (pureP G65):=pr65 (sb W) (q79 hU) (has65 W)
theorem q305 {W:World} (hU:Lib.Utf8Tabs 0 1 W):PrOk (eaS W) 305 (pureP G305):=pr305 (sb W) (q296 hU) (q324 hU) (q65 hU) (has325 W) (has343 W) (has305 W)
theorem q309 {W:World} (hU:Lib.Utf8Tabs 0 1 W):PrOk (eaS W) 309 (pureP G309):=pr309 (sb W) (q297 hU) (has309 W)
theorem q307 {W:World} (hU:Lib.Utf8Tabs 0 1 W):PrOk (eaS W) 307 (pureP G307):=pr307 (sb W) (u344 hU) (q296 hU) (has326 W) (has338 W) (has347 W) (has320 W) (has340 W) (has307 W)
theorem q310 {W:World} (hU:Lib.Utf8Tabs 0 1 W):PrOk (eaS W) 310 (pureP G310):=pr310 (sb W) (q297 hU) (has310 W)
theorem q300 {W:World} (hU:Lib.Utf8Tabs 0 1 W):PrOk (eaS W) 300 (pureP G300):=pr300 (sb W) (has300 W)
end Go.Proofs.YtpgjilomblpcpaaDoor
