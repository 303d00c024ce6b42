/- What the law's function reaches, in this seat's program: each has the text that was read, and each means what was shown of it. Conditions: none. -/
import Derived.Test.YtgkhohpekfjlmaaDoorEBss8
import Derived.Test.YtgkhohpekfjlmaaDoorEDb
import Derived.Test.YtgkhohpekfjlmaaDoorEDf
import Derived.Test.YtgkhohpekfjlmaaDoorEK26
import Derived.Test.YtgkhohpekfjlmaaDoorEK33
import Derived.Test.YtgkhohpekfjlmaaDoorEK25
import Derived.Test.YtgkhohpekfjlmaaDoorELx1
import Derived.Test.YtgkhohpekfjlmaaDoorELx2
import Derived.Test.YtgkhohpekfjlmaaDoorELx5
import Derived.Test.YtgkhohpekfjlmaaDoorERf
import Derived.Test.YtgkhohpekfjlmaaDoorERu
import Derived.Test.YtgkhohpekfjlmaaDoorEK31
import Derived.Test.YtgkhohpekfjlmaaDoorEWl4
set_option linter.unusedVariables false
set_option linter.unusedSimpArgs false
set_option maxRecDepth 100000
namespace Go.Proofs.YtgkhohpekfjlmaaDoor
open Go.EA Go.EA.F
theorem VE (W:World):(eaS W).has 300 f300:=⟨Tryd.f21,Tryd.func21,by kernel_rfl,by kernel_rfl⟩
theorem Xt (W:World):(eaS W).has 45 f45:=⟨Tryd.f74,Tryd.func74,by kernel_rfl,by kernel_rfl⟩
theorem Xv (W:World):(eaS W).has 68 f68:=⟨Tryd.f94,Tryd.func94,by kernel_rfl,by kernel_rfl⟩
theorem XR (W:World):(eaS W).has 17 f17:=⟨Tryd.f52,Tryd.func52,by kernel_rfl,by kernel_rfl⟩
theorem VS (W:World):(eaS W).has 330 f330:=⟨Tryd.f72,Tryd.func72,by kernel_rfl,by kernel_rfl⟩
theorem SN (W:World):(eaS W).has 75 f75:=⟨Tryd.f100,Tryd.func100,by kernel_rfl,by kernel_rfl⟩
theorem Tu (W:World):(eaS W).has 56 f56:=⟨Tryd.f85,Tryd.func85,by kernel_rfl,by kernel_rfl⟩
theorem Vl (W:World):(eaS W).has 346 f346:=⟨Tryd.f92,Tryd.func92,by kernel_rfl,by kernel_rfl⟩
theorem WA (W:World):(eaS W).has 329 f329:=⟨Tryd.f71,Tryd.func71,by kernel_rfl,by kernel_rfl⟩
theorem WM (W:World):(eaS W).has 311 f311:=⟨Tryd.f49,Tryd.func49,by kernel_rfl,by kernel_rfl⟩
theorem UA (W:World):(eaS W).has 312 f312:=⟨Tryd.f50,Tryd.func50,by kernel_rfl,by kernel_rfl⟩
theorem YJ (W:World):(eaS W).has 20 f20:=⟨Tryd.f101,Tryd.func101,by kernel_rfl,by kernel_rfl⟩
theorem Vz (W:World):(eaS W).has 298 f298:=⟨Tryd.f88,Tryd.func88,by kernel_rfl,by kernel_rfl⟩
theorem VF (W:World):(eaS W).has 337 f337:=⟨Tryd.f87,Tryd.func87,by kernel_rfl,by kernel_rfl⟩
theorem UL (W:World):(eaS W).has 336 f336:=⟨Tryd.f86,Tryd.func86,by kernel_rfl,by kernel_rfl⟩
theorem WJ (W:World):(eaS W).has 318 f318:=⟨Tryd.f65,Tryd.func65,by kernel_rfl,by kernel_rfl⟩
theorem WT (W:World):(eaS W).has 296 f296:=⟨Tryd.f42,Tryd.func42,by kernel_rfl,by kernel_rfl⟩
theorem Ur (W:World):(eaS W).has 278 f278:=⟨Tryd.f27,Tryd.func27,by kernel_rfl,by kernel_rfl⟩
theorem Lg (W:World):(eaS W).has 500 f500:=⟨Tryd.f29,Tryd.func29,by kernel_rfl,by kernel_rfl⟩
theorem Ky (W:World):(eaS W).has 314 f314:=⟨Tryd.f75,Tryd.func75,by kernel_rfl,by kernel_rfl⟩
theorem UV (W:World):(eaS W).has 286 f286:=⟨Tryd.f61,Tryd.func61,by kernel_rfl,by kernel_rfl⟩
theorem Vx (W:World):(eaS W).has 334 f334:=⟨Tryd.f96,Tryd.func96,by kernel_rfl,by kernel_rfl⟩
theorem UD (W:World):(eaS W).has 335 f335:=⟨Tryd.f97,Tryd.func97,by kernel_rfl,by kernel_rfl⟩
theorem UK (W:World):(eaS W).has 316 f316:=⟨Tryd.f76,Tryd.func76,by kernel_rfl,by kernel_rfl⟩
theorem Ug (W:World):(eaS W).has 289 f289:=⟨Tryd.f54,Tryd.func54,by kernel_rfl,by kernel_rfl⟩
theorem We (W:World):(eaS W).has 501 f501:=⟨Tryd.f30,Tryd.func30,by kernel_rfl,by kernel_rfl⟩
theorem Wj (W:World):(eaS W).has 510 f510:=⟨Tryd.f53,Tryd.func53,by kernel_rfl,by kernel_rfl⟩
theorem VB (W:World):(eaS W).has 505 f505:=⟨Tryd.f37,Tryd.func37,by kernel_rfl,by kernel_rfl⟩
theorem XF (W:World):(eaS W).has 55 f55:=⟨Tryd.f84,Tryd.func84,by kernel_rfl,by kernel_rfl⟩
theorem Yu (W:World):(eaS W).has 54 f54:=⟨Tryd.f83,Tryd.func83,by kernel_rfl,by kernel_rfl⟩
theorem YB (W:World):(eaS W).has 74 f74:=⟨Tryd.f99,Tryd.func99,by kernel_rfl,by kernel_rfl⟩
theorem XV (W:World):(eaS W).has 53 f53:=⟨Tryd.f82,Tryd.func82,by kernel_rfl,by kernel_rfl⟩
theorem YD (W:World):(eaS W).has 33 f33:=⟨Tryd.f62,Tryd.func62,by kernel_rfl,by kernel_rfl⟩
theorem Wy (W:World):(eaS W).has 506 f506:=⟨Tryd.f38,Tryd.func38,by kernel_rfl,by kernel_rfl⟩
theorem Ub (W:World):(eaS W).has 493 f493:=⟨Tryd.f15,Tryd.func15,by kernel_rfl,by kernel_rfl⟩
theorem WR (W:World):(eaS W).has 508 f508:=⟨Tryd.f40,Tryd.func40,by kernel_rfl,by kernel_rfl⟩
theorem WN (W:World):(eaS W).has 514 f514:=⟨Tryd.f64,Tryd.func64,by kernel_rfl,by kernel_rfl⟩
theorem Vd (W:World):(eaS W).has 497 f497:=⟨Tryd.f19,Tryd.func19,by kernel_rfl,by kernel_rfl⟩
theorem LW (W:World):(eaS W).has 491 f491:=⟨Tryd.f13,Tryd.func13,by kernel_rfl,by kernel_rfl⟩
theorem WE (W:World):(eaS W).has 487 f487:=⟨Tryd.f9,Tryd.func9,by kernel_rfl,by kernel_rfl⟩
theorem Xn (W:World):(eaS W).has 57 f57:=⟨Tryd.f80,Tryd.func80,by kernel_rfl,by kernel_rfl⟩
theorem XA (W:World):(eaS W).has 58 f58:=⟨Tryd.f81,Tryd.func81,by kernel_rfl,by kernel_rfl⟩
theorem XM (W:World):(eaS W).has 46 f46:=⟨Tryd.f56,Tryd.func56,by kernel_rfl,by kernel_rfl⟩
theorem YM (W:World):(eaS W).has 19 f19:=⟨Tryd.f33,Tryd.func33,by kernel_rfl,by kernel_rfl⟩
theorem YG (W:World):(eaS W).has 21 f21:=⟨Tryd.f93,Tryd.func93,by kernel_rfl,by kernel_rfl⟩
theorem WQ (W:World):(eaS W).has 299 f299:=⟨Tryd.f73,Tryd.func73,by kernel_rfl,by kernel_rfl⟩
theorem Uj (W:World):(eaS W).has 317 f317:=⟨Tryd.f51,Tryd.func51,by kernel_rfl,by kernel_rfl⟩
theorem TD (W:World):(eaS W).has 291 f291:=⟨Tryd.f28,Tryd.func28,by kernel_rfl,by kernel_rfl⟩
theorem Uo (W:World):(eaS W).has 488 f488:=⟨Tryd.f10,Tryd.func10,by kernel_rfl,by kernel_rfl⟩
theorem TT (W:World):(eaS W).has 284 f284:=⟨Tryd.f58,Tryd.func58,by kernel_rfl,by kernel_rfl⟩
theorem Ut (W:World):(eaS W).has 302 f302:=⟨Tryd.f63,Tryd.func63,by kernel_rfl,by kernel_rfl⟩
theorem UW (W:World):(eaS W).has 507 f507:=⟨Tryd.f39,Tryd.func39,by kernel_rfl,by kernel_rfl⟩
theorem Xr (W:World):(eaS W).has 79 f79:=⟨Tryd.f44,Tryd.func44,by kernel_rfl,by kernel_rfl⟩
theorem Yc (W:World):(eaS W).has 65 f65:=⟨Tryd.f24,Tryd.func24,by kernel_rfl,by kernel_rfl⟩
theorem Vt (W:World):(eaS W).has 511 f511:=⟨Tryd.f57,Tryd.func57,by kernel_rfl,by kernel_rfl⟩
theorem Vs (W:World):(eaS W).has 512 f512:=⟨Tryd.f59,Tryd.func59,by kernel_rfl,by kernel_rfl⟩
theorem Ww (W:World):(eaS W).has 513 f513:=⟨Tryd.f60,Tryd.func60,by kernel_rfl,by kernel_rfl⟩
theorem Wu (W:World):(eaS W).has 503 f503:=⟨Tryd.f35,Tryd.func35,by kernel_rfl,by kernel_rfl⟩
theorem Uk (W:World):(eaS W).has 495 f495:=⟨Tryd.f17,Tryd.func17,by kernel_rfl,by kernel_rfl⟩
theorem VO (W:World):(eaS W).has 483 f483:=⟨Tryd.f5,Tryd.func5,by kernel_rfl,by kernel_rfl⟩
theorem Vk {W:World}(hU:Lib.Utf8Tabs 1 2 W):aI (eaS W) 300 (az Mt):=YR (sb W) (VE W)
theorem q17 {W:World}(hU:Lib.Utf8Tabs 1 2 W):aI (eaS W) 17 (az G17):=Zd (sb W) (q69 hU) (Xt W) (Xv W) (XR W)
theorem Un {W:World}(hU:Lib.Utf8Tabs 1 2 W):aI (eaS W) 330 (az Jn):=Yb (sb W) (VS W)
theorem u56 {W:World}(hU:Lib.Utf8Tabs 1 2 W):fe (eaS W) 56 C56:=Za (sb W) (SN W) (Tu W)
theorem Ul {W:World}(hU:Lib.Utf8Tabs 1 2 W):aI (eaS W) 346 (az MU):=XC (sb W) (u56 hU) (Vl W)
theorem UQ {W:World}(hU:Lib.Utf8Tabs 1 2 W):fe (eaS W) 311 IM:=Xg (sb W) (q17 hU) (Un hU) (Ul hU) (WA W) (WM W)
theorem LY {W:World}(hU:Lib.Utf8Tabs 1 2 W):fe (eaS W) 312 (pQ (.int .i64) (.int .i64) vD):=Xi (sb W) (UA W)
theorem q20 {W:World}(hU:Lib.Utf8Tabs 1 2 W):aI (eaS W) 20 (az G20):=Ze (sb W) (q17 hU) (YJ W)
theorem Ho {W:World}(hU:Lib.Utf8Tabs 1 2 W):aI (eaS W) 298 (az DX):=Xk (sb W) (q20 hU) (Vz W)
theorem UU {W:World}(hU:Lib.Utf8Tabs 1 2 W):aI (eaS W) 337 (az Kz):=Ya (sb W) (Ho hU) (VF W)
theorem Wm {W:World}(hU:Lib.Utf8Tabs 1 2 W):aI (eaS W) 336 (az KA):=WZ (sb W) (UU hU) (UL W)
theorem Uu {W:World}(hU:Lib.Utf8Tabs 1 2 W):aI (eaS W) 318 (az IV):=YN (sb W) (Wm hU) (Ho hU) (WJ W)
theorem TJ {W:World}(hU:Lib.Utf8Tabs 1 2 W):aI (eaS W) 296 (az NZ):=Yl (sb W) (Uu hU) (WT W)
theorem GR {W:World}(hU:Lib.Utf8Tabs 1 2 W):aI (eaS W) 278 (az Dk):=WY (sb W) (UQ hU) (LY hU) (TJ hU) (Ur W)
theorem qR {W:World}(hU:Lib.Utf8Tabs 1 2 W):aI (eaS W) 500 (az sI):=Yo (sb W) (q17 hU) (Lg W)
theorem Vm {W:World}(hU:Lib.Utf8Tabs 1 2 W):aI (eaS W) 286 (az LP):=YQ (sb W) (Ky W) (UV W)
theorem Uq {W:World}(hU:Lib.Utf8Tabs 1 2 W):aI (eaS W) 316 (az Jk):=Xh (sb W) (Vx W) (UD W) (UK W)
theorem WP {W:World}(hU:Lib.Utf8Tabs 1 2 W):aI (eaS W) 289 (az LK):=Xq (sb W) (Uq hU) (Ky W) (Ug W)
theorem IE {W:World}(hU:Lib.Utf8Tabs 1 2 W):aI (eaS W) 505 (az Dh):=Yq (sb W) (Vm hU) (WP hU) (We W) (Wj W) (VB W)
theorem q55 {W:World}(hU:Lib.Utf8Tabs 1 2 W):aI (eaS W) 55 (az G55):=Zn (sb W) (XF W)
theorem q54 {W:World}(hU:Lib.Utf8Tabs 1 2 W):aI (eaS W) 54 (az G54):=Zu (sb W) (q55 hU) (Yu W)
theorem q74 {W:World}(hU:Lib.Utf8Tabs 1 2 W):aI (eaS W) 74 (az G74):=Zq (sb W) (q54 hU) (YB W)
theorem q53 {W:World}(hU:Lib.Utf8Tabs 1 2 W):aI (eaS W) 53 (az G53):=Zg (sb W) (q74 hU) (XV W)
theorem q33 {W:World}(hU:Lib.Utf8Tabs 1 2 W):aI (eaS W) 33 (az G33):=ZC (sb W) (q53 hU) (Tu W) (SN W) (YD W)
theorem He {W:World}(hU:Lib.Utf8Tabs 1 2 W):aI (eaS W) 506 (az DV):=Xf (sb W) (q33 hU) (Wy W)
theorem WU {W:World}(hU:Lib.Utf8Tabs 1 2 W):aI (eaS W) 493 (az Lb):=WX (sb W) (qR hU) (IE hU) (He hU) (Ub W)
theorem Ws {W:World}(hU:Lib.Utf8Tabs 1 2 W):aI (eaS W) 497 (az KH):=Yr (sb W) (qR hU) (IE hU) (He hU) (WR W) (WN W) (Vd W)
theorem Vj {W:World}(hU:Lib.Utf8Tabs 1 2 W):aI (eaS W) 487 (az LG):=XB (sb W) (GR hU) (WU hU) (Ws hU) (LW W) (Lg W) (WE W)
theorem q57 {W:World}(hU:Lib.Utf8Tabs 1 2 W):aI (eaS W) 57 (az G57):=Zj (sb W) (Xn W)
theorem q58 {W:World}(hU:Lib.Utf8Tabs 1 2 W):aI (eaS W) 58 (az G58):=Zk (sb W) (XA W)
theorem q46 {W:World}(hU:Lib.Utf8Tabs 1 2 W):aI (eaS W) 46 (az G46):=Zi (sb W) (q57 hU) (q58 hU) (XM W)
theorem q19 {W:World}(hU:Lib.Utf8Tabs 1 2 W):aI (eaS W) 19 (az G19):=Zp (sb W) (q46 hU) (YM W)
theorem q21 {W:World}(hU:Lib.Utf8Tabs 1 2 W):aI (eaS W) 21 (az G21):=Zw (sb W) (q19 hU) (YG W)
theorem Wq {W:World}(hU:Lib.Utf8Tabs 1 2 W):aI (eaS W) 299 (az NE):=XE (sb W) (q21 hU) (WQ W)
theorem TQ {W:World}(hU:Lib.Utf8Tabs 1 2 W):aI (eaS W) 317 (az Jb):=XD (sb W) (Wq hU) (Uj W)
theorem Uh {W:World}(hU:Lib.Utf8Tabs 1 2 W):aI (eaS W) 291 (az IW):=Xw (sb W) (TQ hU) (TD W)
theorem Uw {W:World}(hU:Lib.Utf8Tabs 1 2 W):aI (eaS W) 488 (az NQ):=XO (sb W) (GR hU) (Uh hU) (Uo W)
theorem Vp {W:World}(hU:Lib.Utf8Tabs 1 2 W):aI (eaS W) 284 (az Jh):=Yj (sb W) (TT W)
theorem VU {W:World}(hU:Lib.Utf8Tabs 1 2 W):aI (eaS W) 302 (az JJ):=YP (sb W) (u56 hU) (Ut W)
theorem Ib {W:World}(hU:Lib.Utf8Tabs 1 2 W):aI (eaS W) 507 (az Dj):=XX (sb W) (VU hU) (UW W)
theorem q79 {W:World}(hU:Lib.Utf8Tabs 1 2 W):aI (eaS W) 79 (az G79):=Zr (sb W) (Xr W)
theorem q65 {W:World}(hU:Lib.Utf8Tabs 1 2 W):aI (eaS W) 65 (az G65):=Zx (sb W) (q79 hU) (Yc W)
theorem GV {W:World}(hU:Lib.Utf8Tabs 1 2 W):aI (eaS W) 503 (az Dm):=Yp (sb W) (Vp hU) (Ib hU) (q65 hU) (Vt W) (Vs W) (Ww W) (Wu W)
theorem TU {W:World}(hU:Lib.Utf8Tabs 1 2 W):aI (eaS W) 491 (az Nc):=YF (sb W) (qR hU) (GV hU) (LW W)
theorem TK {W:World}(hU:Lib.Utf8Tabs 1 2 W):aI (eaS W) 495 (az JY):=WW (sb W) (qR hU) (GV hU) (Ib hU) (Uk W)
end Go.Proofs.YtgkhohpekfjlmaaDoor
