/- What the law's function reaches, in this seat's program: each has the text that was read, and each means what was shown of it. Conditions: none. -/
import Derived.Test.YtgkhohpekfjlmaaDoorEBss8
import Derived.Test.YtgkhohpekfjlmaaDoorECs
import Derived.Test.YtgkhohpekfjlmaaDoorEDb
import Derived.Test.YtgkhohpekfjlmaaDoorEDf
import Derived.Test.YtgkhohpekfjlmaaDoorEK26
import Derived.Test.YtgkhohpekfjlmaaDoorEK33
import Derived.Test.YtgkhohpekfjlmaaDoorEK25
import Derived.Test.YtgkhohpekfjlmaaDoorELx1
import Derived.Test.YtgkhohpekfjlmaaDoorELx2
import Derived.Test.YtgkhohpekfjlmaaDoorELx5
import Derived.Test.YtgkhohpekfjlmaaDoorERf
import Derived.Test.YtgkhohpekfjlmaaDoorERu
import Derived.Test.YtgkhohpekfjlmaaDoorEK24
import Derived.Test.YtgkhohpekfjlmaaDoorEK31
import Derived.Test.YtgkhohpekfjlmaaDoorEWl2
set_option linter.unusedVariables false
set_option linter.unusedSimpArgs false
set_option maxRecDepth 100000
namespace Go.Proofs.YtgkhohpekfjlmaaDoor
open Go.EA Go.EA.F
theorem Xo (W:World):(eaS W).has 300 f300:=⟨Tryd.f21,Tryd.func21,by kernel_rfl,by kernel_rfl⟩
theorem YT (W:World):(eaS W).has 45 f45:=⟨Tryd.f74,Tryd.func74,by kernel_rfl,by kernel_rfl⟩
theorem ZE (W:World):(eaS W).has 68 f68:=⟨Tryd.f94,Tryd.func94,by kernel_rfl,by kernel_rfl⟩
theorem ZW (W:World):(eaS W).has 17 f17:=⟨Tryd.f52,Tryd.func52,by kernel_rfl,by kernel_rfl⟩
theorem YH (W:World):(eaS W).has 20 f20:=⟨Tryd.f101,Tryd.func101,by kernel_rfl,by kernel_rfl⟩
theorem UZ (W:World):(eaS W).has 298 f298:=⟨Tryd.f88,Tryd.func88,by kernel_rfl,by kernel_rfl⟩
theorem VJ (W:World):(eaS W).has 337 f337:=⟨Tryd.f87,Tryd.func87,by kernel_rfl,by kernel_rfl⟩
theorem Ym (W:World):(eaS W).has 336 f336:=⟨Tryd.f86,Tryd.func86,by kernel_rfl,by kernel_rfl⟩
theorem Wz (W:World):(eaS W).has 318 f318:=⟨Tryd.f65,Tryd.func65,by kernel_rfl,by kernel_rfl⟩
theorem Wu (W:World):(eaS W).has 296 f296:=⟨Tryd.f42,Tryd.func42,by kernel_rfl,by kernel_rfl⟩
theorem Xh (W:World):(eaS W).has 261 f261:=⟨Tryd.f102,Tryd.func102,by kernel_rfl,by kernel_rfl⟩
theorem VN (W:World):(eaS W).has 252 f252:=⟨Tryd.f89,Tryd.func89,by kernel_rfl,by kernel_rfl⟩
theorem Vp (W:World):(eaS W).has 321 f321:=⟨Tryd.f67,Tryd.func67,by kernel_rfl,by kernel_rfl⟩
theorem Xz (W:World):(eaS W).has 342 f342:=⟨Tryd.f66,Tryd.func66,by kernel_rfl,by kernel_rfl⟩
theorem Wt (W:World):(eaS W).has 324 f324:=⟨Tryd.f43,Tryd.func43,by kernel_rfl,by kernel_rfl⟩
theorem YE (W:World):(eaS W).has 79 f79:=⟨Tryd.f44,Tryd.func44,by kernel_rfl,by kernel_rfl⟩
theorem aaq (W:World):(eaS W).has 65 f65:=⟨Tryd.f24,Tryd.func24,by kernel_rfl,by kernel_rfl⟩
theorem Vt (W:World):(eaS W).has 325 f325:=⟨Tryd.f45,Tryd.func45,by kernel_rfl,by kernel_rfl⟩
theorem WI (W:World):(eaS W).has 343 f343:=⟨Tryd.f68,Tryd.func68,by kernel_rfl,by kernel_rfl⟩
theorem Vz (W:World):(eaS W).has 305 f305:=⟨Tryd.f25,Tryd.func25,by kernel_rfl,by kernel_rfl⟩
theorem XW (W:World):(eaS W).has 330 f330:=⟨Tryd.f72,Tryd.func72,by kernel_rfl,by kernel_rfl⟩
theorem UE (W:World):(eaS W).has 75 f75:=⟨Tryd.f100,Tryd.func100,by kernel_rfl,by kernel_rfl⟩
theorem Uv (W:World):(eaS W).has 56 f56:=⟨Tryd.f85,Tryd.func85,by kernel_rfl,by kernel_rfl⟩
theorem WW (W:World):(eaS W).has 346 f346:=⟨Tryd.f92,Tryd.func92,by kernel_rfl,by kernel_rfl⟩
theorem Wi (W:World):(eaS W).has 329 f329:=⟨Tryd.f71,Tryd.func71,by kernel_rfl,by kernel_rfl⟩
theorem We (W:World):(eaS W).has 311 f311:=⟨Tryd.f49,Tryd.func49,by kernel_rfl,by kernel_rfl⟩
theorem Xu (W:World):(eaS W).has 312 f312:=⟨Tryd.f50,Tryd.func50,by kernel_rfl,by kernel_rfl⟩
theorem VW (W:World):(eaS W).has 278 f278:=⟨Tryd.f27,Tryd.func27,by kernel_rfl,by kernel_rfl⟩
theorem Mc (W:World):(eaS W).has 500 f500:=⟨Tryd.f29,Tryd.func29,by kernel_rfl,by kernel_rfl⟩
theorem Pf (W:World):(eaS W).has 314 f314:=⟨Tryd.f75,Tryd.func75,by kernel_rfl,by kernel_rfl⟩
theorem Xc (W:World):(eaS W).has 286 f286:=⟨Tryd.f61,Tryd.func61,by kernel_rfl,by kernel_rfl⟩
theorem Vw (W:World):(eaS W).has 334 f334:=⟨Tryd.f96,Tryd.func96,by kernel_rfl,by kernel_rfl⟩
theorem Yv (W:World):(eaS W).has 335 f335:=⟨Tryd.f97,Tryd.func97,by kernel_rfl,by kernel_rfl⟩
theorem Yh (W:World):(eaS W).has 316 f316:=⟨Tryd.f76,Tryd.func76,by kernel_rfl,by kernel_rfl⟩
theorem Vo (W:World):(eaS W).has 289 f289:=⟨Tryd.f54,Tryd.func54,by kernel_rfl,by kernel_rfl⟩
theorem MZ (W:World):(eaS W).has 501 f501:=⟨Tryd.f30,Tryd.func30,by kernel_rfl,by kernel_rfl⟩
theorem Ov (W:World):(eaS W).has 510 f510:=⟨Tryd.f53,Tryd.func53,by kernel_rfl,by kernel_rfl⟩
theorem XU (W:World):(eaS W).has 505 f505:=⟨Tryd.f37,Tryd.func37,by kernel_rfl,by kernel_rfl⟩
theorem Zb (W:World):(eaS W).has 55 f55:=⟨Tryd.f84,Tryd.func84,by kernel_rfl,by kernel_rfl⟩
theorem aax (W:World):(eaS W).has 54 f54:=⟨Tryd.f83,Tryd.func83,by kernel_rfl,by kernel_rfl⟩
theorem aac (W:World):(eaS W).has 74 f74:=⟨Tryd.f99,Tryd.func99,by kernel_rfl,by kernel_rfl⟩
theorem YG (W:World):(eaS W).has 53 f53:=⟨Tryd.f82,Tryd.func82,by kernel_rfl,by kernel_rfl⟩
theorem ZV (W:World):(eaS W).has 33 f33:=⟨Tryd.f62,Tryd.func62,by kernel_rfl,by kernel_rfl⟩
theorem Wx (W:World):(eaS W).has 506 f506:=⟨Tryd.f38,Tryd.func38,by kernel_rfl,by kernel_rfl⟩
theorem Xf (W:World):(eaS W).has 493 f493:=⟨Tryd.f15,Tryd.func15,by kernel_rfl,by kernel_rfl⟩
theorem WN (W:World):(eaS W).has 508 f508:=⟨Tryd.f40,Tryd.func40,by kernel_rfl,by kernel_rfl⟩
theorem Yf (W:World):(eaS W).has 514 f514:=⟨Tryd.f64,Tryd.func64,by kernel_rfl,by kernel_rfl⟩
theorem VM (W:World):(eaS W).has 497 f497:=⟨Tryd.f19,Tryd.func19,by kernel_rfl,by kernel_rfl⟩
theorem JX (W:World):(eaS W).has 491 f491:=⟨Tryd.f13,Tryd.func13,by kernel_rfl,by kernel_rfl⟩
theorem Wl (W:World):(eaS W).has 487 f487:=⟨Tryd.f9,Tryd.func9,by kernel_rfl,by kernel_rfl⟩
theorem ZA (W:World):(eaS W).has 57 f57:=⟨Tryd.f80,Tryd.func80,by kernel_rfl,by kernel_rfl⟩
theorem ZN (W:World):(eaS W).has 58 f58:=⟨Tryd.f81,Tryd.func81,by kernel_rfl,by kernel_rfl⟩
theorem aar (W:World):(eaS W).has 46 f46:=⟨Tryd.f56,Tryd.func56,by kernel_rfl,by kernel_rfl⟩
theorem Zl (W:World):(eaS W).has 19 f19:=⟨Tryd.f33,Tryd.func33,by kernel_rfl,by kernel_rfl⟩
theorem ZT (W:World):(eaS W).has 21 f21:=⟨Tryd.f93,Tryd.func93,by kernel_rfl,by kernel_rfl⟩
theorem VA (W:World):(eaS W).has 299 f299:=⟨Tryd.f73,Tryd.func73,by kernel_rfl,by kernel_rfl⟩
theorem VH (W:World):(eaS W).has 317 f317:=⟨Tryd.f51,Tryd.func51,by kernel_rfl,by kernel_rfl⟩
theorem UT (W:World):(eaS W).has 291 f291:=⟨Tryd.f28,Tryd.func28,by kernel_rfl,by kernel_rfl⟩
theorem Xn (W:World):(eaS W).has 488 f488:=⟨Tryd.f10,Tryd.func10,by kernel_rfl,by kernel_rfl⟩
theorem Yj (W:World):(eaS W).has 489 f489:=⟨Tryd.f11,Tryd.func11,by kernel_rfl,by kernel_rfl⟩
theorem Ye (W:World):(eaS W).has 284 f284:=⟨Tryd.f58,Tryd.func58,by kernel_rfl,by kernel_rfl⟩
theorem WQ (W:World):(eaS W).has 302 f302:=⟨Tryd.f63,Tryd.func63,by kernel_rfl,by kernel_rfl⟩
theorem Vb (W:World):(eaS W).has 507 f507:=⟨Tryd.f39,Tryd.func39,by kernel_rfl,by kernel_rfl⟩
theorem WK (W:World):(eaS W).has 511 f511:=⟨Tryd.f57,Tryd.func57,by kernel_rfl,by kernel_rfl⟩
theorem XE (W:World):(eaS W).has 512 f512:=⟨Tryd.f59,Tryd.func59,by kernel_rfl,by kernel_rfl⟩
theorem Vi (W:World):(eaS W).has 513 f513:=⟨Tryd.f60,Tryd.func60,by kernel_rfl,by kernel_rfl⟩
theorem Ya (W:World):(eaS W).has 503 f503:=⟨Tryd.f35,Tryd.func35,by kernel_rfl,by kernel_rfl⟩
theorem Vq (W:World):(eaS W).has 495 f495:=⟨Tryd.f17,Tryd.func17,by kernel_rfl,by kernel_rfl⟩
theorem VV (W:World):(eaS W).has 485 f485:=⟨Tryd.f7,Tryd.func7,by kernel_rfl,by kernel_rfl⟩
theorem Yq {W:World}(hU:Lib.Utf8Tabs 1 2 W):aF (eaS W) 300 (az JE):=YB (sb W) (Xo W)
theorem q17 {W:World}(hU:Lib.Utf8Tabs 1 2 W):aF (eaS W) 17 (az G17):=aaN (sb W) (q69 hU) (YT W) (ZE W) (ZW W)
theorem q20 {W:World}(hU:Lib.Utf8Tabs 1 2 W):aF (eaS W) 20 (az G20):=aaZ (sb W) (q17 hU) (YH W)
theorem Ji {W:World}(hU:Lib.Utf8Tabs 1 2 W):aF (eaS W) 298 (az DI):=aaz (sb W) (q20 hU) (UZ W)
theorem Wm {W:World}(hU:Lib.Utf8Tabs 1 2 W):aF (eaS W) 337 (az OA):=Zu (sb W) (Ji hU) (VJ W)
theorem Vd {W:World}(hU:Lib.Utf8Tabs 1 2 W):aF (eaS W) 336 (az Nw):=Zo (sb W) (Wm hU) (Ym W)
theorem Xk {W:World}(hU:Lib.Utf8Tabs 1 2 W):aF (eaS W) 318 (az JR):=aam (sb W) (Vd hU) (Ji hU) (Wz W)
theorem Ie {W:World}(hU:Lib.Utf8Tabs 1 2 W):aF (eaS W) 296 (az DC):=ZZ (sb W) (Xk hU) (Wu W)
theorem XJ {W:World}(hU:Lib.Utf8Tabs 1 2 W):aF (eaS W) 252 (az Pw):=aaa (sb W) (Xh W) (VN W)
theorem Ww {W:World}(hU:Lib.Utf8Tabs 1 2 W):aF (eaS W) 321 (az Mk):=YY (sb W) (XJ hU) (Vp W)
theorem Xg {W:World}(hU:Lib.Utf8Tabs 1 2 W):aF (eaS W) 342 (az Mw):=Zp (sb W) (Ww hU) (Xz W)
theorem Xi {W:World}(hU:Lib.Utf8Tabs 1 2 W):aF (eaS W) 324 (az NV):=Zx (sb W) (Xg hU) (Wt W)
theorem q79 {W:World}(hU:Lib.Utf8Tabs 1 2 W):aF (eaS W) 79 (az G79):=aaX (sb W) (YE W)
theorem q65 {W:World}(hU:Lib.Utf8Tabs 1 2 W):aF (eaS W) 65 (az G65):=aa2 (sb W) (q79 hU) (aaq W)
theorem WO {W:World}(hU:Lib.Utf8Tabs 1 2 W):aF (eaS W) 305 (az MQ):=ZO (sb W) (Ie hU) (Xi hU) (q65 hU) (Vt W) (WI W) (Vz W)
theorem Xp {W:World}(hU:Lib.Utf8Tabs 1 2 W):aF (eaS W) 330 (az NR):=Ze (sb W) (XW W)
theorem u56 {W:World}(hU:Lib.Utf8Tabs 1 2 W):fu (eaS W) 56 C56:=aaM (sb W) (UE W) (Uv W)
theorem VU {W:World}(hU:Lib.Utf8Tabs 1 2 W):aF (eaS W) 346 (az NT):=aaK (sb W) (u56 hU) (WW W)
theorem XI {W:World}(hU:Lib.Utf8Tabs 1 2 W):fu (eaS W) 311 Jo:=YQ (sb W) (q17 hU) (Xp hU) (VU hU) (Wi W) (We W)
theorem JB {W:World}(hU:Lib.Utf8Tabs 1 2 W):fu (eaS W) 312 (qJ (.int .i64) (.int .i64) wI):=aaJ (sb W) (Xu W)
theorem Js {W:World}(hU:Lib.Utf8Tabs 1 2 W):aF (eaS W) 278 (az DU):=YK (sb W) (XI hU) (JB hU) (Ie hU) (VW W)
theorem nD {W:World}(hU:Lib.Utf8Tabs 1 2 W):aF (eaS W) 500 (az qy):=ZP (sb W) (q17 hU) (Mc W)
theorem Vs {W:World}(hU:Lib.Utf8Tabs 1 2 W):aF (eaS W) 286 (az Ow):=Zc (sb W) (Pf W) (Xc W)
theorem Wv {W:World}(hU:Lib.Utf8Tabs 1 2 W):aF (eaS W) 316 (az Kl):=YV (sb W) (Vw W) (Yv W) (Yh W)
theorem Il {W:World}(hU:Lib.Utf8Tabs 1 2 W):aF (eaS W) 289 (az Ei):=aaI (sb W) (Wv hU) (Pf W) (Vo W)
theorem Jd {W:World}(hU:Lib.Utf8Tabs 1 2 W):aF (eaS W) 505 (az De):=aaw (sb W) (Vs hU) (Il hU) (MZ W) (Ov W) (XU W)
theorem q55 {W:World}(hU:Lib.Utf8Tabs 1 2 W):aF (eaS W) 55 (az G55):=aaQ (sb W) (Zb W)
theorem q54 {W:World}(hU:Lib.Utf8Tabs 1 2 W):aF (eaS W) 54 (az G54):=aa7 (sb W) (q55 hU) (aax W)
theorem q74 {W:World}(hU:Lib.Utf8Tabs 1 2 W):aF (eaS W) 74 (az G74):=aa8 (sb W) (q54 hU) (aac W)
theorem q53 {W:World}(hU:Lib.Utf8Tabs 1 2 W):aF (eaS W) 53 (az G53):=aa1 (sb W) (q74 hU) (YG W)
theorem q33 {W:World}(hU:Lib.Utf8Tabs 1 2 W):aF (eaS W) 33 (az G33):=aaO (sb W) (q53 hU) (Uv W) (UE W) (ZV W)
theorem IM {W:World}(hU:Lib.Utf8Tabs 1 2 W):aF (eaS W) 506 (az Dt):=YR (sb W) (q33 hU) (Wx W)
theorem WL {W:World}(hU:Lib.Utf8Tabs 1 2 W):aF (eaS W) 493 (az OE):=Zv (sb W) (nD hU) (Jd hU) (IM hU) (Xf W)
theorem Yn {W:World}(hU:Lib.Utf8Tabs 1 2 W):aF (eaS W) 497 (az JH):=YO (sb W) (nD hU) (Jd hU) (IM hU) (WN W) (Yf W) (VM W)
theorem Yk {W:World}(hU:Lib.Utf8Tabs 1 2 W):aF (eaS W) 487 (az Og):=ZF (sb W) (Js hU) (WL hU) (Yn hU) (JX W) (Mc W) (Wl W)
theorem q57 {W:World}(hU:Lib.Utf8Tabs 1 2 W):aF (eaS W) 57 (az G57):=aa0 (sb W) (ZA W)
theorem q58 {W:World}(hU:Lib.Utf8Tabs 1 2 W):aF (eaS W) 58 (az G58):=aba (sb W) (ZN W)
theorem q46 {W:World}(hU:Lib.Utf8Tabs 1 2 W):aF (eaS W) 46 (az G46):=abb (sb W) (q57 hU) (q58 hU) (aar W)
theorem q19 {W:World}(hU:Lib.Utf8Tabs 1 2 W):aF (eaS W) 19 (az G19):=aaP (sb W) (q46 hU) (Zl W)
theorem q21 {W:World}(hU:Lib.Utf8Tabs 1 2 W):aF (eaS W) 21 (az G21):=aaY (sb W) (q19 hU) (ZT W)
theorem XX {W:World}(hU:Lib.Utf8Tabs 1 2 W):aF (eaS W) 299 (az Li):=aan (sb W) (q21 hU) (VA W)
theorem Xe {W:World}(hU:Lib.Utf8Tabs 1 2 W):aF (eaS W) 317 (az KL):=aae (sb W) (XX hU) (VH W)
theorem WP {W:World}(hU:Lib.Utf8Tabs 1 2 W):aF (eaS W) 291 (az Ph):=aau (sb W) (Xe hU) (UT W)
theorem XC {W:World}(hU:Lib.Utf8Tabs 1 2 W):aF (eaS W) 488 (az NL):=Zj (sb W) (Js hU) (WP hU) (Xn W)
theorem WU {W:World}(hU:Lib.Utf8Tabs 1 2 W):aF (eaS W) 489 (az Ng):=Zy (sb W) (Il hU) (nD hU) (MZ W) (Ov W) (Yj W)
theorem XD {W:World}(hU:Lib.Utf8Tabs 1 2 W):aF (eaS W) 284 (az NI):=aab (sb W) (Ye W)
theorem UW {W:World}(hU:Lib.Utf8Tabs 1 2 W):aF (eaS W) 302 (az OZ):=ZL (sb W) (u56 hU) (WQ W)
theorem IW {W:World}(hU:Lib.Utf8Tabs 1 2 W):aF (eaS W) 507 (az EK):=Zw (sb W) (UW hU) (Vb W)
theorem Hl {W:World}(hU:Lib.Utf8Tabs 1 2 W):aF (eaS W) 503 (az Eg):=aaF (sb W) (XD hU) (IW hU) (q65 hU) (WK W) (XE W) (Vi W) (Ya W)
theorem VY {W:World}(hU:Lib.Utf8Tabs 1 2 W):aF (eaS W) 491 (az NU):=aaG (sb W) (nD hU) (Hl hU) (JX W)
theorem VR {W:World}(hU:Lib.Utf8Tabs 1 2 W):aF (eaS W) 495 (az NK):=YI (sb W) (nD hU) (Hl hU) (IW hU) (Vq W)
end Go.Proofs.YtgkhohpekfjlmaaDoor
