/- What the law's function reaches, in this seat's program: each has the text that was read, and each means what was shown of it. Conditions: none. -/
import Derived.Test.YtgkhohpekfjlmaaDoorEBss8
import Derived.Test.YtgkhohpekfjlmaaDoorECs
import Derived.Test.YtgkhohpekfjlmaaDoorEDb
import Derived.Test.YtgkhohpekfjlmaaDoorEDf
import Derived.Test.YtgkhohpekfjlmaaDoorEK26
import Derived.Test.YtgkhohpekfjlmaaDoorEK25
import Derived.Test.YtgkhohpekfjlmaaDoorELx1
import Derived.Test.YtgkhohpekfjlmaaDoorELx2
import Derived.Test.YtgkhohpekfjlmaaDoorELx5
import Derived.Test.YtgkhohpekfjlmaaDoorERf
import Derived.Test.YtgkhohpekfjlmaaDoorERu
import Derived.Test.YtgkhohpekfjlmaaDoorEK24
import Derived.Test.YtgkhohpekfjlmaaDoorEK31
import Derived.Test.YtgkhohpekfjlmaaDoorEWl3
set_option linter.unusedVariables false
set_option linter.unusedSimpArgs false
set_option maxRecDepth 100000
namespace Go.Proofs.YtgkhohpekfjlmaaDoor
open Go.EA Go.EA.F
theorem Xh (W:World):(eaS W).has 79 f79:=⟨Tryd.f44,Tryd.func44,by kernel_rfl,by kernel_rfl⟩
theorem Xu (W:World):(eaS W).has 65 f65:=⟨Tryd.f24,Tryd.func24,by kernel_rfl,by kernel_rfl⟩
theorem YD (W:World):(eaS W).has 45 f45:=⟨Tryd.f74,Tryd.func74,by kernel_rfl,by kernel_rfl⟩
theorem YP (W:World):(eaS W).has 68 f68:=⟨Tryd.f94,Tryd.func94,by kernel_rfl,by kernel_rfl⟩
theorem Ye (W:World):(eaS W).has 17 f17:=⟨Tryd.f52,Tryd.func52,by kernel_rfl,by kernel_rfl⟩
theorem XO (W:World):(eaS W).has 20 f20:=⟨Tryd.f101,Tryd.func101,by kernel_rfl,by kernel_rfl⟩
theorem Vk (W:World):(eaS W).has 298 f298:=⟨Tryd.f88,Tryd.func88,by kernel_rfl,by kernel_rfl⟩
theorem VM (W:World):(eaS W).has 337 f337:=⟨Tryd.f87,Tryd.func87,by kernel_rfl,by kernel_rfl⟩
theorem Um (W:World):(eaS W).has 336 f336:=⟨Tryd.f86,Tryd.func86,by kernel_rfl,by kernel_rfl⟩
theorem Uy (W:World):(eaS W).has 318 f318:=⟨Tryd.f65,Tryd.func65,by kernel_rfl,by kernel_rfl⟩
theorem Vy (W:World):(eaS W).has 296 f296:=⟨Tryd.f42,Tryd.func42,by kernel_rfl,by kernel_rfl⟩
theorem VT (W:World):(eaS W).has 261 f261:=⟨Tryd.f102,Tryd.func102,by kernel_rfl,by kernel_rfl⟩
theorem WX (W:World):(eaS W).has 252 f252:=⟨Tryd.f89,Tryd.func89,by kernel_rfl,by kernel_rfl⟩
theorem Va (W:World):(eaS W).has 321 f321:=⟨Tryd.f67,Tryd.func67,by kernel_rfl,by kernel_rfl⟩
theorem UI (W:World):(eaS W).has 342 f342:=⟨Tryd.f66,Tryd.func66,by kernel_rfl,by kernel_rfl⟩
theorem UT (W:World):(eaS W).has 324 f324:=⟨Tryd.f43,Tryd.func43,by kernel_rfl,by kernel_rfl⟩
theorem Wn (W:World):(eaS W).has 303 f303:=⟨Tryd.f23,Tryd.func23,by kernel_rfl,by kernel_rfl⟩
theorem VE (W:World):(eaS W).has 330 f330:=⟨Tryd.f72,Tryd.func72,by kernel_rfl,by kernel_rfl⟩
theorem Tt (W:World):(eaS W).has 75 f75:=⟨Tryd.f100,Tryd.func100,by kernel_rfl,by kernel_rfl⟩
theorem Tv (W:World):(eaS W).has 56 f56:=⟨Tryd.f85,Tryd.func85,by kernel_rfl,by kernel_rfl⟩
theorem VP (W:World):(eaS W).has 346 f346:=⟨Tryd.f92,Tryd.func92,by kernel_rfl,by kernel_rfl⟩
theorem UH (W:World):(eaS W).has 329 f329:=⟨Tryd.f71,Tryd.func71,by kernel_rfl,by kernel_rfl⟩
theorem Uu (W:World):(eaS W).has 311 f311:=⟨Tryd.f49,Tryd.func49,by kernel_rfl,by kernel_rfl⟩
theorem Ug (W:World):(eaS W).has 312 f312:=⟨Tryd.f50,Tryd.func50,by kernel_rfl,by kernel_rfl⟩
theorem UU (W:World):(eaS W).has 278 f278:=⟨Tryd.f27,Tryd.func27,by kernel_rfl,by kernel_rfl⟩
theorem Ox (W:World):(eaS W).has 500 f500:=⟨Tryd.f29,Tryd.func29,by kernel_rfl,by kernel_rfl⟩
theorem Mo (W:World):(eaS W).has 314 f314:=⟨Tryd.f75,Tryd.func75,by kernel_rfl,by kernel_rfl⟩
theorem VW (W:World):(eaS W).has 286 f286:=⟨Tryd.f61,Tryd.func61,by kernel_rfl,by kernel_rfl⟩
theorem WJ (W:World):(eaS W).has 334 f334:=⟨Tryd.f96,Tryd.func96,by kernel_rfl,by kernel_rfl⟩
theorem VI (W:World):(eaS W).has 335 f335:=⟨Tryd.f97,Tryd.func97,by kernel_rfl,by kernel_rfl⟩
theorem Un (W:World):(eaS W).has 316 f316:=⟨Tryd.f76,Tryd.func76,by kernel_rfl,by kernel_rfl⟩
theorem UV (W:World):(eaS W).has 289 f289:=⟨Tryd.f54,Tryd.func54,by kernel_rfl,by kernel_rfl⟩
theorem VJ (W:World):(eaS W).has 501 f501:=⟨Tryd.f30,Tryd.func30,by kernel_rfl,by kernel_rfl⟩
theorem Uo (W:World):(eaS W).has 510 f510:=⟨Tryd.f53,Tryd.func53,by kernel_rfl,by kernel_rfl⟩
theorem Wi (W:World):(eaS W).has 505 f505:=⟨Tryd.f37,Tryd.func37,by kernel_rfl,by kernel_rfl⟩
theorem Xr (W:World):(eaS W).has 55 f55:=⟨Tryd.f84,Tryd.func84,by kernel_rfl,by kernel_rfl⟩
theorem Xo (W:World):(eaS W).has 54 f54:=⟨Tryd.f83,Tryd.func83,by kernel_rfl,by kernel_rfl⟩
theorem Yl (W:World):(eaS W).has 74 f74:=⟨Tryd.f99,Tryd.func99,by kernel_rfl,by kernel_rfl⟩
theorem Yg (W:World):(eaS W).has 53 f53:=⟨Tryd.f82,Tryd.func82,by kernel_rfl,by kernel_rfl⟩
theorem YX (W:World):(eaS W).has 33 f33:=⟨Tryd.f62,Tryd.func62,by kernel_rfl,by kernel_rfl⟩
theorem UR (W:World):(eaS W).has 506 f506:=⟨Tryd.f38,Tryd.func38,by kernel_rfl,by kernel_rfl⟩
theorem WF (W:World):(eaS W).has 493 f493:=⟨Tryd.f15,Tryd.func15,by kernel_rfl,by kernel_rfl⟩
theorem Vr (W:World):(eaS W).has 508 f508:=⟨Tryd.f40,Tryd.func40,by kernel_rfl,by kernel_rfl⟩
theorem VK (W:World):(eaS W).has 514 f514:=⟨Tryd.f64,Tryd.func64,by kernel_rfl,by kernel_rfl⟩
theorem Wz (W:World):(eaS W).has 497 f497:=⟨Tryd.f19,Tryd.func19,by kernel_rfl,by kernel_rfl⟩
theorem Ur (W:World):(eaS W).has 491 f491:=⟨Tryd.f13,Tryd.func13,by kernel_rfl,by kernel_rfl⟩
theorem VL (W:World):(eaS W).has 487 f487:=⟨Tryd.f9,Tryd.func9,by kernel_rfl,by kernel_rfl⟩
theorem Yw (W:World):(eaS W).has 57 f57:=⟨Tryd.f80,Tryd.func80,by kernel_rfl,by kernel_rfl⟩
theorem XF (W:World):(eaS W).has 58 f58:=⟨Tryd.f81,Tryd.func81,by kernel_rfl,by kernel_rfl⟩
theorem Yp (W:World):(eaS W).has 46 f46:=⟨Tryd.f56,Tryd.func56,by kernel_rfl,by kernel_rfl⟩
theorem XB (W:World):(eaS W).has 19 f19:=⟨Tryd.f33,Tryd.func33,by kernel_rfl,by kernel_rfl⟩
theorem YS (W:World):(eaS W).has 21 f21:=⟨Tryd.f93,Tryd.func93,by kernel_rfl,by kernel_rfl⟩
theorem Ui (W:World):(eaS W).has 299 f299:=⟨Tryd.f73,Tryd.func73,by kernel_rfl,by kernel_rfl⟩
theorem WC (W:World):(eaS W).has 317 f317:=⟨Tryd.f51,Tryd.func51,by kernel_rfl,by kernel_rfl⟩
theorem Uq (W:World):(eaS W).has 291 f291:=⟨Tryd.f28,Tryd.func28,by kernel_rfl,by kernel_rfl⟩
theorem Vj (W:World):(eaS W).has 488 f488:=⟨Tryd.f10,Tryd.func10,by kernel_rfl,by kernel_rfl⟩
theorem WQ (W:World):(eaS W).has 484 f484:=⟨Tryd.f6,Tryd.func6,by kernel_rfl,by kernel_rfl⟩
theorem q79 {W:World}(hU:Lib.Utf8Tabs 1 2 W):aM (eaS W) 79 (aA G79):=Zw (sb W) (Xh W)
theorem q65 {W:World}(hU:Lib.Utf8Tabs 1 2 W):aM (eaS W) 65 (aA G65):=Zg (sb W) (q79 hU) (Xu W)
theorem q17 {W:World}(hU:Lib.Utf8Tabs 1 2 W):aM (eaS W) 17 (aA G17):=Zn (sb W) (q69 hU) (YD W) (YP W) (Ye W)
theorem q20 {W:World}(hU:Lib.Utf8Tabs 1 2 W):aM (eaS W) 20 (aA G20):=Zz (sb W) (q17 hU) (XO W)
theorem IK {W:World}(hU:Lib.Utf8Tabs 1 2 W):aM (eaS W) 298 (aA Ey):=XZ (sb W) (q20 hU) (Vk W)
theorem UE {W:World}(hU:Lib.Utf8Tabs 1 2 W):aM (eaS W) 337 (aA Jw):=YE (sb W) (IK hU) (VM W)
theorem Vq {W:World}(hU:Lib.Utf8Tabs 1 2 W):aM (eaS W) 336 (aA Kg):=XE (sb W) (UE hU) (Um W)
theorem Wl {W:World}(hU:Lib.Utf8Tabs 1 2 W):aM (eaS W) 318 (aA ND):=XC (sb W) (Vq hU) (IK hU) (Uy W)
theorem Ih {W:World}(hU:Lib.Utf8Tabs 1 2 W):aM (eaS W) 296 (aA Du):=XG (sb W) (Wl hU) (Vy W)
theorem WM {W:World}(hU:Lib.Utf8Tabs 1 2 W):aM (eaS W) 252 (aA NJ):=Xw (sb W) (VT W) (WX W)
theorem UG {W:World}(hU:Lib.Utf8Tabs 1 2 W):aM (eaS W) 321 (aA KA):=Yu (sb W) (WM hU) (Va W)
theorem VU {W:World}(hU:Lib.Utf8Tabs 1 2 W):aM (eaS W) 342 (aA MW):=Yb (sb W) (UG hU) (UI W)
theorem UN {W:World}(hU:Lib.Utf8Tabs 1 2 W):aM (eaS W) 324 (aA ML):=YF (sb W) (VU hU) (UT W)
theorem Xg {W:World}(hU:Lib.Utf8Tabs 1 2 W):aM (eaS W) 303 (aA Nn):=YH (sb W) (Ih hU) (UN hU) (Wn W)
theorem UA {W:World}(hU:Lib.Utf8Tabs 1 2 W):aM (eaS W) 330 (aA Ls):=Yk (sb W) (VE W)
theorem u56 {W:World}(hU:Lib.Utf8Tabs 1 2 W):fE (eaS W) 56 C56:=Zy (sb W) (Tt W) (Tv W)
theorem Wu {W:World}(hU:Lib.Utf8Tabs 1 2 W):aM (eaS W) 346 (aA Lv):=YQ (sb W) (u56 hU) (VP W)
theorem UQ {W:World}(hU:Lib.Utf8Tabs 1 2 W):fE (eaS W) 311 II:=Yt (sb W) (q17 hU) (UA hU) (Wu hU) (UH W) (Uu W)
theorem MJ {W:World}(hU:Lib.Utf8Tabs 1 2 W):fE (eaS W) 312 (pF (.int .i64) (.int .i64) vz):=XY (sb W) (Ug W)
theorem Ht {W:World}(hU:Lib.Utf8Tabs 1 2 W):aM (eaS W) 278 (aA DX):=YY (sb W) (UQ hU) (MJ hU) (Ih hU) (UU W)
theorem GL {W:World}(hU:Lib.Utf8Tabs 1 2 W):aM (eaS W) 500 (aA DT):=XD (sb W) (q17 hU) (Ox W)
theorem Vz {W:World}(hU:Lib.Utf8Tabs 1 2 W):aM (eaS W) 286 (aA LZ):=Ya (sb W) (Mo W) (VW W)
theorem UB {W:World}(hU:Lib.Utf8Tabs 1 2 W):aM (eaS W) 316 (aA Ol):=Yy (sb W) (WJ W) (VI W) (Un W)
theorem UM {W:World}(hU:Lib.Utf8Tabs 1 2 W):aM (eaS W) 289 (aA NC):=XU (sb W) (UB hU) (Mo W) (UV W)
theorem Jg {W:World}(hU:Lib.Utf8Tabs 1 2 W):aM (eaS W) 505 (aA Et):=XV (sb W) (Vz hU) (UM hU) (VJ W) (Uo W) (Wi W)
theorem q55 {W:World}(hU:Lib.Utf8Tabs 1 2 W):aM (eaS W) 55 (aA G55):=ZG (sb W) (Xr W)
theorem q54 {W:World}(hU:Lib.Utf8Tabs 1 2 W):aM (eaS W) 54 (aA G54):=Zo (sb W) (q55 hU) (Xo W)
theorem q74 {W:World}(hU:Lib.Utf8Tabs 1 2 W):aM (eaS W) 74 (aA G74):=ZE (sb W) (q54 hU) (Yl W)
theorem q53 {W:World}(hU:Lib.Utf8Tabs 1 2 W):aM (eaS W) 53 (aA G53):=ZB (sb W) (q74 hU) (Yg W)
theorem q33 {W:World}(hU:Lib.Utf8Tabs 1 2 W):aM (eaS W) 33 (aA G33):=Zk (sb W) (q53 hU) (Tv W) (Tt W) (YX W)
theorem GR {W:World}(hU:Lib.Utf8Tabs 1 2 W):aM (eaS W) 506 (aA Ea):=Yd (sb W) (q33 hU) (UR W)
theorem Ic {W:World}(hU:Lib.Utf8Tabs 1 2 W):aM (eaS W) 493 (aA Dz):=Xx (sb W) (GL hU) (Jg hU) (GR hU) (WF W)
theorem Vf {W:World}(hU:Lib.Utf8Tabs 1 2 W):aM (eaS W) 497 (aA KZ):=YL (sb W) (GL hU) (Jg hU) (GR hU) (Vr W) (VK W) (Wz W)
theorem WE {W:World}(hU:Lib.Utf8Tabs 1 2 W):aM (eaS W) 487 (aA JX):=Yf (sb W) (Ht hU) (Ic hU) (Vf hU) (Ur W) (Ox W) (VL W)
theorem q57 {W:World}(hU:Lib.Utf8Tabs 1 2 W):aM (eaS W) 57 (aA G57):=Zp (sb W) (Yw W)
theorem q58 {W:World}(hU:Lib.Utf8Tabs 1 2 W):aM (eaS W) 58 (aA G58):=Zu (sb W) (XF W)
theorem q46 {W:World}(hU:Lib.Utf8Tabs 1 2 W):aM (eaS W) 46 (aA G46):=ZJ (sb W) (q57 hU) (q58 hU) (Yp W)
theorem q19 {W:World}(hU:Lib.Utf8Tabs 1 2 W):aM (eaS W) 19 (aA G19):=Zv (sb W) (q46 hU) (XB W)
theorem q21 {W:World}(hU:Lib.Utf8Tabs 1 2 W):aM (eaS W) 21 (aA G21):=Zr (sb W) (q19 hU) (YS W)
theorem Vi {W:World}(hU:Lib.Utf8Tabs 1 2 W):aM (eaS W) 299 (aA Mv):=XA (sb W) (q21 hU) (Ui W)
theorem Vo {W:World}(hU:Lib.Utf8Tabs 1 2 W):aM (eaS W) 317 (aA LH):=Zc (sb W) (Vi hU) (WC W)
theorem UJ {W:World}(hU:Lib.Utf8Tabs 1 2 W):aM (eaS W) 291 (aA Oc):=YA (sb W) (Vo hU) (Uq W)
theorem WB {W:World}(hU:Lib.Utf8Tabs 1 2 W):aM (eaS W) 488 (aA LU):=Xj (sb W) (Ht hU) (UJ hU) (Vj W)
end Go.Proofs.YtgkhohpekfjlmaaDoor
