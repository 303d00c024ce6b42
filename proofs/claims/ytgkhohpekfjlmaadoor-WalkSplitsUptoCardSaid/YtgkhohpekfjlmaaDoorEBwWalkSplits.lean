/- What the law's function reaches, in this seat's program: each has the text that was read, and each means what was shown of it. Conditions: none. -/
import Derived.Test.YtgkhohpekfjlmaaDoorEBss8
import Derived.Test.YtgkhohpekfjlmaaDoorEBj8
import Derived.Test.YtgkhohpekfjlmaaDoorECs
import Derived.Test.YtgkhohpekfjlmaaDoorEDb
import Derived.Test.YtgkhohpekfjlmaaDoorEDf
import Derived.Test.YtgkhohpekfjlmaaDoorEK26
import Derived.Test.YtgkhohpekfjlmaaDoorEK25
import Derived.Test.YtgkhohpekfjlmaaDoorELx1
import Derived.Test.YtgkhohpekfjlmaaDoorELx2
import Derived.Test.YtgkhohpekfjlmaaDoorELx5
import Derived.Test.YtgkhohpekfjlmaaDoorERf
import Derived.Test.YtgkhohpekfjlmaaDoorERu
import Derived.Test.YtgkhohpekfjlmaaDoorEK24
import Derived.Test.YtgkhohpekfjlmaaDoorEK31
import Derived.Test.YtgkhohpekfjlmaaDoorEWl6
set_option linter.unusedVariables false
set_option linter.unusedSimpArgs false
set_option maxRecDepth 100000
namespace Go.Proofs.YtgkhohpekfjlmaaDoor
open Go.EA Go.EA.F
theorem Ya (W:World):(eaS W).has 45 f45:=⟨Tryd.f74,Tryd.func74,by kernel_rfl,by kernel_rfl⟩
theorem YE (W:World):(eaS W).has 68 f68:=⟨Tryd.f94,Tryd.func94,by kernel_rfl,by kernel_rfl⟩
theorem Zw (W:World):(eaS W).has 17 f17:=⟨Tryd.f52,Tryd.func52,by kernel_rfl,by kernel_rfl⟩
theorem Zu (W:World):(eaS W).has 20 f20:=⟨Tryd.f101,Tryd.func101,by kernel_rfl,by kernel_rfl⟩
theorem Wh (W:World):(eaS W).has 298 f298:=⟨Tryd.f88,Tryd.func88,by kernel_rfl,by kernel_rfl⟩
theorem UM (W:World):(eaS W).has 337 f337:=⟨Tryd.f87,Tryd.func87,by kernel_rfl,by kernel_rfl⟩
theorem Ws (W:World):(eaS W).has 336 f336:=⟨Tryd.f86,Tryd.func86,by kernel_rfl,by kernel_rfl⟩
theorem UR (W:World):(eaS W).has 318 f318:=⟨Tryd.f65,Tryd.func65,by kernel_rfl,by kernel_rfl⟩
theorem UH (W:World):(eaS W).has 296 f296:=⟨Tryd.f42,Tryd.func42,by kernel_rfl,by kernel_rfl⟩
theorem Ve (W:World):(eaS W).has 261 f261:=⟨Tryd.f102,Tryd.func102,by kernel_rfl,by kernel_rfl⟩
theorem Xi (W:World):(eaS W).has 252 f252:=⟨Tryd.f89,Tryd.func89,by kernel_rfl,by kernel_rfl⟩
theorem Xp (W:World):(eaS W).has 321 f321:=⟨Tryd.f67,Tryd.func67,by kernel_rfl,by kernel_rfl⟩
theorem WI (W:World):(eaS W).has 342 f342:=⟨Tryd.f66,Tryd.func66,by kernel_rfl,by kernel_rfl⟩
theorem UZ (W:World):(eaS W).has 324 f324:=⟨Tryd.f43,Tryd.func43,by kernel_rfl,by kernel_rfl⟩
theorem VV (W:World):(eaS W).has 303 f303:=⟨Tryd.f23,Tryd.func23,by kernel_rfl,by kernel_rfl⟩
theorem WL (W:World):(eaS W).has 330 f330:=⟨Tryd.f72,Tryd.func72,by kernel_rfl,by kernel_rfl⟩
theorem Ug (W:World):(eaS W).has 75 f75:=⟨Tryd.f100,Tryd.func100,by kernel_rfl,by kernel_rfl⟩
theorem TZ (W:World):(eaS W).has 56 f56:=⟨Tryd.f85,Tryd.func85,by kernel_rfl,by kernel_rfl⟩
theorem VT (W:World):(eaS W).has 346 f346:=⟨Tryd.f92,Tryd.func92,by kernel_rfl,by kernel_rfl⟩
theorem Vk (W:World):(eaS W).has 329 f329:=⟨Tryd.f71,Tryd.func71,by kernel_rfl,by kernel_rfl⟩
theorem UB (W:World):(eaS W).has 311 f311:=⟨Tryd.f49,Tryd.func49,by kernel_rfl,by kernel_rfl⟩
theorem UC (W:World):(eaS W).has 312 f312:=⟨Tryd.f50,Tryd.func50,by kernel_rfl,by kernel_rfl⟩
theorem WF (W:World):(eaS W).has 278 f278:=⟨Tryd.f27,Tryd.func27,by kernel_rfl,by kernel_rfl⟩
theorem NU (W:World):(eaS W).has 500 f500:=⟨Tryd.f29,Tryd.func29,by kernel_rfl,by kernel_rfl⟩
theorem KL (W:World):(eaS W).has 314 f314:=⟨Tryd.f75,Tryd.func75,by kernel_rfl,by kernel_rfl⟩
theorem VD (W:World):(eaS W).has 286 f286:=⟨Tryd.f61,Tryd.func61,by kernel_rfl,by kernel_rfl⟩
theorem Wp (W:World):(eaS W).has 334 f334:=⟨Tryd.f96,Tryd.func96,by kernel_rfl,by kernel_rfl⟩
theorem VQ (W:World):(eaS W).has 335 f335:=⟨Tryd.f97,Tryd.func97,by kernel_rfl,by kernel_rfl⟩
theorem WU (W:World):(eaS W).has 316 f316:=⟨Tryd.f76,Tryd.func76,by kernel_rfl,by kernel_rfl⟩
theorem XF (W:World):(eaS W).has 289 f289:=⟨Tryd.f54,Tryd.func54,by kernel_rfl,by kernel_rfl⟩
theorem WH (W:World):(eaS W).has 501 f501:=⟨Tryd.f30,Tryd.func30,by kernel_rfl,by kernel_rfl⟩
theorem Vj (W:World):(eaS W).has 510 f510:=⟨Tryd.f53,Tryd.func53,by kernel_rfl,by kernel_rfl⟩
theorem Xw (W:World):(eaS W).has 505 f505:=⟨Tryd.f37,Tryd.func37,by kernel_rfl,by kernel_rfl⟩
theorem Zl (W:World):(eaS W).has 55 f55:=⟨Tryd.f84,Tryd.func84,by kernel_rfl,by kernel_rfl⟩
theorem Zx (W:World):(eaS W).has 54 f54:=⟨Tryd.f83,Tryd.func83,by kernel_rfl,by kernel_rfl⟩
theorem Yw (W:World):(eaS W).has 74 f74:=⟨Tryd.f99,Tryd.func99,by kernel_rfl,by kernel_rfl⟩
theorem Zh (W:World):(eaS W).has 53 f53:=⟨Tryd.f82,Tryd.func82,by kernel_rfl,by kernel_rfl⟩
theorem Zv (W:World):(eaS W).has 33 f33:=⟨Tryd.f62,Tryd.func62,by kernel_rfl,by kernel_rfl⟩
theorem WK (W:World):(eaS W).has 506 f506:=⟨Tryd.f38,Tryd.func38,by kernel_rfl,by kernel_rfl⟩
theorem WV (W:World):(eaS W).has 493 f493:=⟨Tryd.f15,Tryd.func15,by kernel_rfl,by kernel_rfl⟩
theorem WQ (W:World):(eaS W).has 508 f508:=⟨Tryd.f40,Tryd.func40,by kernel_rfl,by kernel_rfl⟩
theorem Vq (W:World):(eaS W).has 514 f514:=⟨Tryd.f64,Tryd.func64,by kernel_rfl,by kernel_rfl⟩
theorem Vu (W:World):(eaS W).has 497 f497:=⟨Tryd.f19,Tryd.func19,by kernel_rfl,by kernel_rfl⟩
theorem Xb (W:World):(eaS W).has 491 f491:=⟨Tryd.f13,Tryd.func13,by kernel_rfl,by kernel_rfl⟩
theorem XO (W:World):(eaS W).has 487 f487:=⟨Tryd.f9,Tryd.func9,by kernel_rfl,by kernel_rfl⟩
theorem XZ (W:World):(eaS W).has 57 f57:=⟨Tryd.f80,Tryd.func80,by kernel_rfl,by kernel_rfl⟩
theorem ZG (W:World):(eaS W).has 58 f58:=⟨Tryd.f81,Tryd.func81,by kernel_rfl,by kernel_rfl⟩
theorem Yc (W:World):(eaS W).has 46 f46:=⟨Tryd.f56,Tryd.func56,by kernel_rfl,by kernel_rfl⟩
theorem Yl (W:World):(eaS W).has 19 f19:=⟨Tryd.f33,Tryd.func33,by kernel_rfl,by kernel_rfl⟩
theorem YF (W:World):(eaS W).has 21 f21:=⟨Tryd.f93,Tryd.func93,by kernel_rfl,by kernel_rfl⟩
theorem Vn (W:World):(eaS W).has 299 f299:=⟨Tryd.f73,Tryd.func73,by kernel_rfl,by kernel_rfl⟩
theorem Vv (W:World):(eaS W).has 317 f317:=⟨Tryd.f51,Tryd.func51,by kernel_rfl,by kernel_rfl⟩
theorem VL (W:World):(eaS W).has 291 f291:=⟨Tryd.f28,Tryd.func28,by kernel_rfl,by kernel_rfl⟩
theorem Wo (W:World):(eaS W).has 488 f488:=⟨Tryd.f10,Tryd.func10,by kernel_rfl,by kernel_rfl⟩
theorem VJ (W:World):(eaS W).has 486 f486:=⟨Tryd.f8,Tryd.func8,by kernel_rfl,by kernel_rfl⟩
theorem q17 {W:World}(hU:Lib.Utf8Tabs 1 2 W):aN (eaS W) 17 (az G17):=aap (sb W) (q69 hU) (Ya W) (YE W) (Zw W)
theorem q20 {W:World}(hU:Lib.Utf8Tabs 1 2 W):aN (eaS W) 20 (az G20):=aac (sb W) (q17 hU) (Zu W)
theorem Iw {W:World}(hU:Lib.Utf8Tabs 1 2 W):aN (eaS W) 298 (az DN):=Zi (sb W) (q20 hU) (Wh W)
theorem WJ {W:World}(hU:Lib.Utf8Tabs 1 2 W):aN (eaS W) 337 (az Lh):=XR (sb W) (Iw hU) (UM W)
theorem Vy {W:World}(hU:Lib.Utf8Tabs 1 2 W):aN (eaS W) 336 (az NC):=Yf (sb W) (WJ hU) (Ws W)
theorem Xd {W:World}(hU:Lib.Utf8Tabs 1 2 W):aN (eaS W) 318 (az Mc):=XU (sb W) (Vy hU) (Iw hU) (UR W)
theorem IP {W:World}(hU:Lib.Utf8Tabs 1 2 W):aN (eaS W) 296 (az DW):=Yj (sb W) (Xd hU) (UH W)
theorem Xr {W:World}(hU:Lib.Utf8Tabs 1 2 W):aN (eaS W) 252 (az MQ):=Zo (sb W) (Ve W) (Xi W)
theorem We {W:World}(hU:Lib.Utf8Tabs 1 2 W):aN (eaS W) 321 (az JP):=Yn (sb W) (Xr hU) (Xp W)
theorem VZ {W:World}(hU:Lib.Utf8Tabs 1 2 W):aN (eaS W) 342 (az Ma):=Yz (sb W) (We hU) (WI W)
theorem VE {W:World}(hU:Lib.Utf8Tabs 1 2 W):aN (eaS W) 324 (az Od):=Yv (sb W) (VZ hU) (UZ W)
theorem Vf {W:World}(hU:Lib.Utf8Tabs 1 2 W):aN (eaS W) 303 (az LG):=Yb (sb W) (IP hU) (VE hU) (VV W)
theorem Wy {W:World}(hU:Lib.Utf8Tabs 1 2 W):aN (eaS W) 330 (az OU):=YB (sb W) (WL W)
theorem u56 {W:World}(hU:Lib.Utf8Tabs 1 2 W):fC (eaS W) 56 C56:=aah (sb W) (Ug W) (TZ W)
theorem XI {W:World}(hU:Lib.Utf8Tabs 1 2 W):aN (eaS W) 346 (az NG):=Yu (sb W) (u56 hU) (VT W)
theorem WA {W:World}(hU:Lib.Utf8Tabs 1 2 W):fC (eaS W) 311 Jb:=ZI (sb W) (q17 hU) (Wy hU) (XI hU) (Vk W) (UB W)
theorem OE {W:World}(hU:Lib.Utf8Tabs 1 2 W):fC (eaS W) 312 (qo (.int .i64) (.int .i64) wU):=Zc (sb W) (UC W)
theorem Js {W:World}(hU:Lib.Utf8Tabs 1 2 W):aN (eaS W) 278 (az EG):=YA (sb W) (WA hU) (OE hU) (IP hU) (WF W)
theorem HV {W:World}(hU:Lib.Utf8Tabs 1 2 W):aN (eaS W) 500 (az DR):=Zm (sb W) (q17 hU) (NU W)
theorem WT {W:World}(hU:Lib.Utf8Tabs 1 2 W):aN (eaS W) 286 (az Na):=ZJ (sb W) (KL W) (VD W)
theorem XJ {W:World}(hU:Lib.Utf8Tabs 1 2 W):aN (eaS W) 316 (az MN):=Zq (sb W) (Wp W) (VQ W) (WU W)
theorem UV {W:World}(hU:Lib.Utf8Tabs 1 2 W):aN (eaS W) 289 (az NR):=YV (sb W) (XJ hU) (KL W) (XF W)
theorem Ho {W:World}(hU:Lib.Utf8Tabs 1 2 W):aN (eaS W) 505 (az EI):=YD (sb W) (WT hU) (UV hU) (WH W) (Vj W) (Xw W)
theorem q55 {W:World}(hU:Lib.Utf8Tabs 1 2 W):aN (eaS W) 55 (az G55):=aaj (sb W) (Zl W)
theorem q54 {W:World}(hU:Lib.Utf8Tabs 1 2 W):aN (eaS W) 54 (az G54):=aam (sb W) (q55 hU) (Zx W)
theorem q74 {W:World}(hU:Lib.Utf8Tabs 1 2 W):aN (eaS W) 74 (az G74):=aal (sb W) (q54 hU) (Yw W)
theorem q53 {W:World}(hU:Lib.Utf8Tabs 1 2 W):aN (eaS W) 53 (az G53):=aab (sb W) (q74 hU) (Zh W)
theorem q33 {W:World}(hU:Lib.Utf8Tabs 1 2 W):aN (eaS W) 33 (az G33):=ZT (sb W) (q53 hU) (TZ W) (Ug W) (Zv W)
theorem IE {W:World}(hU:Lib.Utf8Tabs 1 2 W):aN (eaS W) 506 (az EW):=Yr (sb W) (q33 hU) (WK W)
theorem Xl {W:World}(hU:Lib.Utf8Tabs 1 2 W):aN (eaS W) 493 (az NY):=Yh (sb W) (HV hU) (Ho hU) (IE hU) (WV W)
theorem Iy {W:World}(hU:Lib.Utf8Tabs 1 2 W):aN (eaS W) 497 (az EY):=Yx (sb W) (HV hU) (Ho hU) (IE hU) (WQ W) (Vq W) (Vu W)
theorem UK {W:World}(hU:Lib.Utf8Tabs 1 2 W):aN (eaS W) 487 (az KG):=YP (sb W) (Js hU) (Xl hU) (Iy hU) (Xb W) (NU W) (XO W)
theorem q57 {W:World}(hU:Lib.Utf8Tabs 1 2 W):aN (eaS W) 57 (az G57):=ZW (sb W) (XZ W)
theorem q58 {W:World}(hU:Lib.Utf8Tabs 1 2 W):aN (eaS W) 58 (az G58):=aai (sb W) (ZG W)
theorem q46 {W:World}(hU:Lib.Utf8Tabs 1 2 W):aN (eaS W) 46 (az G46):=ZU (sb W) (q57 hU) (q58 hU) (Yc W)
theorem q19 {W:World}(hU:Lib.Utf8Tabs 1 2 W):aN (eaS W) 19 (az G19):=ZQ (sb W) (q46 hU) (Yl W)
theorem q21 {W:World}(hU:Lib.Utf8Tabs 1 2 W):aN (eaS W) 21 (az G21):=ZV (sb W) (q19 hU) (YF W)
theorem Vx {W:World}(hU:Lib.Utf8Tabs 1 2 W):aN (eaS W) 299 (az KJ):=ZK (sb W) (q21 hU) (Vn W)
theorem Vz {W:World}(hU:Lib.Utf8Tabs 1 2 W):aN (eaS W) 317 (az NQ):=YH (sb W) (Vx hU) (Vv W)
theorem Xz {W:World}(hU:Lib.Utf8Tabs 1 2 W):aN (eaS W) 291 (az OV):=XY (sb W) (Vz hU) (VL W)
theorem XG {W:World}(hU:Lib.Utf8Tabs 1 2 W):aN (eaS W) 488 (az KE):=YW (sb W) (Js hU) (Xz hU) (Wo W)
end Go.Proofs.YtgkhohpekfjlmaaDoor
