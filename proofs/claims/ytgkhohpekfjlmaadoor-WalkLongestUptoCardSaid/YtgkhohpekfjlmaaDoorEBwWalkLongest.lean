/- What the law's function reaches, in this seat's program: each has the text that was read, and each means what was shown of it. Conditions: none. -/
import Derived.Test.YtgkhohpekfjlmaaDoorEBss8
import Derived.Test.YtgkhohpekfjlmaaDoorECs
import Derived.Test.YtgkhohpekfjlmaaDoorEDb
import Derived.Test.YtgkhohpekfjlmaaDoorEDf
import Derived.Test.YtgkhohpekfjlmaaDoorEK26
import Derived.Test.YtgkhohpekfjlmaaDoorEK25
import Derived.Test.YtgkhohpekfjlmaaDoorELx1
import Derived.Test.YtgkhohpekfjlmaaDoorELx2
import Derived.Test.YtgkhohpekfjlmaaDoorELx5
import Derived.Test.YtgkhohpekfjlmaaDoorERf
import Derived.Test.YtgkhohpekfjlmaaDoorERu
import Derived.Test.YtgkhohpekfjlmaaDoorEK24
import Derived.Test.YtgkhohpekfjlmaaDoorEK31
import Derived.Test.YtgkhohpekfjlmaaDoorEWl3
set_option linter.unusedVariables false
set_option linter.unusedSimpArgs false
set_option maxRecDepth 100000
namespace Go.Proofs.YtgkhohpekfjlmaaDoor
open Go.EA Go.EA.F
theorem YT (W:World):(eaS W).has 79 f79:=⟨Tryd.f44,Tryd.func44,by kernel_rfl,by kernel_rfl⟩
theorem Ye (W:World):(eaS W).has 65 f65:=⟨Tryd.f24,Tryd.func24,by kernel_rfl,by kernel_rfl⟩
theorem YQ (W:World):(eaS W).has 45 f45:=⟨Tryd.f74,Tryd.func74,by kernel_rfl,by kernel_rfl⟩
theorem Ya (W:World):(eaS W).has 68 f68:=⟨Tryd.f94,Tryd.func94,by kernel_rfl,by kernel_rfl⟩
theorem Xw (W:World):(eaS W).has 17 f17:=⟨Tryd.f52,Tryd.func52,by kernel_rfl,by kernel_rfl⟩
theorem YP (W:World):(eaS W).has 20 f20:=⟨Tryd.f101,Tryd.func101,by kernel_rfl,by kernel_rfl⟩
theorem VO (W:World):(eaS W).has 298 f298:=⟨Tryd.f88,Tryd.func88,by kernel_rfl,by kernel_rfl⟩
theorem Vw (W:World):(eaS W).has 337 f337:=⟨Tryd.f87,Tryd.func87,by kernel_rfl,by kernel_rfl⟩
theorem VG (W:World):(eaS W).has 336 f336:=⟨Tryd.f86,Tryd.func86,by kernel_rfl,by kernel_rfl⟩
theorem WT (W:World):(eaS W).has 318 f318:=⟨Tryd.f65,Tryd.func65,by kernel_rfl,by kernel_rfl⟩
theorem Wm (W:World):(eaS W).has 296 f296:=⟨Tryd.f42,Tryd.func42,by kernel_rfl,by kernel_rfl⟩
theorem WG (W:World):(eaS W).has 261 f261:=⟨Tryd.f102,Tryd.func102,by kernel_rfl,by kernel_rfl⟩
theorem WY (W:World):(eaS W).has 252 f252:=⟨Tryd.f89,Tryd.func89,by kernel_rfl,by kernel_rfl⟩
theorem UL (W:World):(eaS W).has 321 f321:=⟨Tryd.f67,Tryd.func67,by kernel_rfl,by kernel_rfl⟩
theorem Ws (W:World):(eaS W).has 342 f342:=⟨Tryd.f66,Tryd.func66,by kernel_rfl,by kernel_rfl⟩
theorem Wl (W:World):(eaS W).has 324 f324:=⟨Tryd.f43,Tryd.func43,by kernel_rfl,by kernel_rfl⟩
theorem VU (W:World):(eaS W).has 303 f303:=⟨Tryd.f23,Tryd.func23,by kernel_rfl,by kernel_rfl⟩
theorem VL (W:World):(eaS W).has 330 f330:=⟨Tryd.f72,Tryd.func72,by kernel_rfl,by kernel_rfl⟩
theorem TE (W:World):(eaS W).has 75 f75:=⟨Tryd.f100,Tryd.func100,by kernel_rfl,by kernel_rfl⟩
theorem TG (W:World):(eaS W).has 56 f56:=⟨Tryd.f85,Tryd.func85,by kernel_rfl,by kernel_rfl⟩
theorem Ux (W:World):(eaS W).has 346 f346:=⟨Tryd.f92,Tryd.func92,by kernel_rfl,by kernel_rfl⟩
theorem Vg (W:World):(eaS W).has 329 f329:=⟨Tryd.f71,Tryd.func71,by kernel_rfl,by kernel_rfl⟩
theorem Us (W:World):(eaS W).has 311 f311:=⟨Tryd.f49,Tryd.func49,by kernel_rfl,by kernel_rfl⟩
theorem VQ (W:World):(eaS W).has 312 f312:=⟨Tryd.f50,Tryd.func50,by kernel_rfl,by kernel_rfl⟩
theorem WH (W:World):(eaS W).has 278 f278:=⟨Tryd.f27,Tryd.func27,by kernel_rfl,by kernel_rfl⟩
theorem MU (W:World):(eaS W).has 500 f500:=⟨Tryd.f29,Tryd.func29,by kernel_rfl,by kernel_rfl⟩
theorem Ny (W:World):(eaS W).has 314 f314:=⟨Tryd.f75,Tryd.func75,by kernel_rfl,by kernel_rfl⟩
theorem VB (W:World):(eaS W).has 286 f286:=⟨Tryd.f61,Tryd.func61,by kernel_rfl,by kernel_rfl⟩
theorem Vq (W:World):(eaS W).has 334 f334:=⟨Tryd.f96,Tryd.func96,by kernel_rfl,by kernel_rfl⟩
theorem Uz (W:World):(eaS W).has 335 f335:=⟨Tryd.f97,Tryd.func97,by kernel_rfl,by kernel_rfl⟩
theorem Wq (W:World):(eaS W).has 316 f316:=⟨Tryd.f76,Tryd.func76,by kernel_rfl,by kernel_rfl⟩
theorem Wt (W:World):(eaS W).has 289 f289:=⟨Tryd.f54,Tryd.func54,by kernel_rfl,by kernel_rfl⟩
theorem UK (W:World):(eaS W).has 501 f501:=⟨Tryd.f30,Tryd.func30,by kernel_rfl,by kernel_rfl⟩
theorem Vv (W:World):(eaS W).has 510 f510:=⟨Tryd.f53,Tryd.func53,by kernel_rfl,by kernel_rfl⟩
theorem VA (W:World):(eaS W).has 505 f505:=⟨Tryd.f37,Tryd.func37,by kernel_rfl,by kernel_rfl⟩
theorem Xq (W:World):(eaS W).has 55 f55:=⟨Tryd.f84,Tryd.func84,by kernel_rfl,by kernel_rfl⟩
theorem Yd (W:World):(eaS W).has 54 f54:=⟨Tryd.f83,Tryd.func83,by kernel_rfl,by kernel_rfl⟩
theorem XY (W:World):(eaS W).has 74 f74:=⟨Tryd.f99,Tryd.func99,by kernel_rfl,by kernel_rfl⟩
theorem YA (W:World):(eaS W).has 53 f53:=⟨Tryd.f82,Tryd.func82,by kernel_rfl,by kernel_rfl⟩
theorem YN (W:World):(eaS W).has 33 f33:=⟨Tryd.f62,Tryd.func62,by kernel_rfl,by kernel_rfl⟩
theorem UH (W:World):(eaS W).has 506 f506:=⟨Tryd.f38,Tryd.func38,by kernel_rfl,by kernel_rfl⟩
theorem Uq (W:World):(eaS W).has 493 f493:=⟨Tryd.f15,Tryd.func15,by kernel_rfl,by kernel_rfl⟩
theorem VR (W:World):(eaS W).has 508 f508:=⟨Tryd.f40,Tryd.func40,by kernel_rfl,by kernel_rfl⟩
theorem Wu (W:World):(eaS W).has 514 f514:=⟨Tryd.f64,Tryd.func64,by kernel_rfl,by kernel_rfl⟩
theorem TV (W:World):(eaS W).has 497 f497:=⟨Tryd.f19,Tryd.func19,by kernel_rfl,by kernel_rfl⟩
theorem Ui (W:World):(eaS W).has 491 f491:=⟨Tryd.f13,Tryd.func13,by kernel_rfl,by kernel_rfl⟩
theorem WA (W:World):(eaS W).has 487 f487:=⟨Tryd.f9,Tryd.func9,by kernel_rfl,by kernel_rfl⟩
theorem Xy (W:World):(eaS W).has 57 f57:=⟨Tryd.f80,Tryd.func80,by kernel_rfl,by kernel_rfl⟩
theorem XL (W:World):(eaS W).has 58 f58:=⟨Tryd.f81,Tryd.func81,by kernel_rfl,by kernel_rfl⟩
theorem XQ (W:World):(eaS W).has 46 f46:=⟨Tryd.f56,Tryd.func56,by kernel_rfl,by kernel_rfl⟩
theorem Yj (W:World):(eaS W).has 19 f19:=⟨Tryd.f33,Tryd.func33,by kernel_rfl,by kernel_rfl⟩
theorem YX (W:World):(eaS W).has 21 f21:=⟨Tryd.f93,Tryd.func93,by kernel_rfl,by kernel_rfl⟩
theorem UB (W:World):(eaS W).has 299 f299:=⟨Tryd.f73,Tryd.func73,by kernel_rfl,by kernel_rfl⟩
theorem Uo (W:World):(eaS W).has 317 f317:=⟨Tryd.f51,Tryd.func51,by kernel_rfl,by kernel_rfl⟩
theorem WJ (W:World):(eaS W).has 291 f291:=⟨Tryd.f28,Tryd.func28,by kernel_rfl,by kernel_rfl⟩
theorem Uw (W:World):(eaS W).has 488 f488:=⟨Tryd.f10,Tryd.func10,by kernel_rfl,by kernel_rfl⟩
theorem WM (W:World):(eaS W).has 484 f484:=⟨Tryd.f6,Tryd.func6,by kernel_rfl,by kernel_rfl⟩
theorem q79 {W:World}(hU:Lib.Utf8Tabs 1 2 W):aM (eaS W) 79 (aA G79):=Zy (sb W) (YT W)
theorem q65 {W:World}(hU:Lib.Utf8Tabs 1 2 W):aM (eaS W) 65 (aA G65):=Zx (sb W) (q79 hU) (Ye W)
theorem q17 {W:World}(hU:Lib.Utf8Tabs 1 2 W):aM (eaS W) 17 (aA G17):=Zf (sb W) (q69 hU) (YQ W) (Ya W) (Xw W)
theorem q20 {W:World}(hU:Lib.Utf8Tabs 1 2 W):aM (eaS W) 20 (aA G20):=Zo (sb W) (q17 hU) (YP W)
theorem Ht {W:World}(hU:Lib.Utf8Tabs 1 2 W):aM (eaS W) 298 (aA Ep):=Yz (sb W) (q20 hU) (VO W)
theorem Wi {W:World}(hU:Lib.Utf8Tabs 1 2 W):aM (eaS W) 337 (aA Mr):=Xt (sb W) (Ht hU) (Vw W)
theorem VE {W:World}(hU:Lib.Utf8Tabs 1 2 W):aM (eaS W) 336 (aA JX):=Yx (sb W) (Wi hU) (VG W)
theorem WQ {W:World}(hU:Lib.Utf8Tabs 1 2 W):aM (eaS W) 318 (aA JA):=YS (sb W) (VE hU) (Ht hU) (WT W)
theorem GV {W:World}(hU:Lib.Utf8Tabs 1 2 W):aM (eaS W) 296 (aA DV):=Xp (sb W) (WQ hU) (Wm W)
theorem WX {W:World}(hU:Lib.Utf8Tabs 1 2 W):aM (eaS W) 252 (aA NK):=XB (sb W) (WG W) (WY W)
theorem WR {W:World}(hU:Lib.Utf8Tabs 1 2 W):aM (eaS W) 321 (aA Jw):=XX (sb W) (WX hU) (UL W)
theorem UC {W:World}(hU:Lib.Utf8Tabs 1 2 W):aM (eaS W) 342 (aA Lx):=Ym (sb W) (WR hU) (Ws W)
theorem WV {W:World}(hU:Lib.Utf8Tabs 1 2 W):aM (eaS W) 324 (aA Nq):=YW (sb W) (UC hU) (Wl W)
theorem Vr {W:World}(hU:Lib.Utf8Tabs 1 2 W):aM (eaS W) 303 (aA KF):=XC (sb W) (GV hU) (WV hU) (VU W)
theorem Un {W:World}(hU:Lib.Utf8Tabs 1 2 W):aM (eaS W) 330 (aA Kw):=Zb (sb W) (VL W)
theorem u56 {W:World}(hU:Lib.Utf8Tabs 1 2 W):fC (eaS W) 56 C56:=Zq (sb W) (TE W) (TG W)
theorem UV {W:World}(hU:Lib.Utf8Tabs 1 2 W):aM (eaS W) 346 (aA KU):=YZ (sb W) (u56 hU) (Ux W)
theorem TZ {W:World}(hU:Lib.Utf8Tabs 1 2 W):fC (eaS W) 311 Hy:=XH (sb W) (q17 hU) (Un hU) (UV hU) (Vg W) (Us W)
theorem LF {W:World}(hU:Lib.Utf8Tabs 1 2 W):fC (eaS W) 312 (qy (.int .i64) (.int .i64) vG):=XF (sb W) (VQ W)
theorem Hl {W:World}(hU:Lib.Utf8Tabs 1 2 W):aM (eaS W) 278 (aA Dr):=YG (sb W) (TZ hU) (LF hU) (GV hU) (WH W)
theorem IB {W:World}(hU:Lib.Utf8Tabs 1 2 W):aM (eaS W) 500 (aA CU):=YE (sb W) (q17 hU) (MU W)
theorem UO {W:World}(hU:Lib.Utf8Tabs 1 2 W):aM (eaS W) 286 (aA Mt):=XW (sb W) (Ny W) (VB W)
theorem Ua {W:World}(hU:Lib.Utf8Tabs 1 2 W):aM (eaS W) 316 (aA JY):=Yi (sb W) (Vq W) (Uz W) (Wq W)
theorem Vb {W:World}(hU:Lib.Utf8Tabs 1 2 W):aM (eaS W) 289 (aA Oq):=Xu (sb W) (Ua hU) (Ny W) (Wt W)
theorem Jk {W:World}(hU:Lib.Utf8Tabs 1 2 W):aM (eaS W) 505 (aA DK):=YK (sb W) (UO hU) (Vb hU) (UK W) (Vv W) (VA W)
theorem q55 {W:World}(hU:Lib.Utf8Tabs 1 2 W):aM (eaS W) 55 (aA G55):=Zt (sb W) (Xq W)
theorem q54 {W:World}(hU:Lib.Utf8Tabs 1 2 W):aM (eaS W) 54 (aA G54):=Zl (sb W) (q55 hU) (Yd W)
theorem q74 {W:World}(hU:Lib.Utf8Tabs 1 2 W):aM (eaS W) 74 (aA G74):=Zn (sb W) (q54 hU) (XY W)
theorem q53 {W:World}(hU:Lib.Utf8Tabs 1 2 W):aM (eaS W) 53 (aA G53):=ZE (sb W) (q74 hU) (YA W)
theorem q33 {W:World}(hU:Lib.Utf8Tabs 1 2 W):aM (eaS W) 33 (aA G33):=ZH (sb W) (q53 hU) (TG W) (TE W) (YN W)
theorem GX {W:World}(hU:Lib.Utf8Tabs 1 2 W):aM (eaS W) 506 (aA EG):=XD (sb W) (q33 hU) (UH W)
theorem GL {W:World}(hU:Lib.Utf8Tabs 1 2 W):aM (eaS W) 493 (aA Eo):=YD (sb W) (IB hU) (Jk hU) (GX hU) (Uq W)
theorem Xa {W:World}(hU:Lib.Utf8Tabs 1 2 W):aM (eaS W) 497 (aA Mj):=XJ (sb W) (IB hU) (Jk hU) (GX hU) (VR W) (Wu W) (TV W)
theorem Vn {W:World}(hU:Lib.Utf8Tabs 1 2 W):aM (eaS W) 487 (aA NG):=XM (sb W) (Hl hU) (GL hU) (Xa hU) (Ui W) (MU W) (WA W)
theorem q57 {W:World}(hU:Lib.Utf8Tabs 1 2 W):aM (eaS W) 57 (aA G57):=Zr (sb W) (Xy W)
theorem q58 {W:World}(hU:Lib.Utf8Tabs 1 2 W):aM (eaS W) 58 (aA G58):=Zj (sb W) (XL W)
theorem q46 {W:World}(hU:Lib.Utf8Tabs 1 2 W):aM (eaS W) 46 (aA G46):=Zw (sb W) (q57 hU) (q58 hU) (XQ W)
theorem q19 {W:World}(hU:Lib.Utf8Tabs 1 2 W):aM (eaS W) 19 (aA G19):=ZA (sb W) (q46 hU) (Yj W)
theorem q21 {W:World}(hU:Lib.Utf8Tabs 1 2 W):aM (eaS W) 21 (aA G21):=Zz (sb W) (q19 hU) (YX W)
theorem WC {W:World}(hU:Lib.Utf8Tabs 1 2 W):aM (eaS W) 299 (aA KI):=Yh (sb W) (q21 hU) (UB W)
theorem Wv {W:World}(hU:Lib.Utf8Tabs 1 2 W):aM (eaS W) 317 (aA Le):=YY (sb W) (WC hU) (Uo W)
theorem VJ {W:World}(hU:Lib.Utf8Tabs 1 2 W):aM (eaS W) 291 (aA Nh):=XI (sb W) (Wv hU) (WJ W)
theorem Wo {W:World}(hU:Lib.Utf8Tabs 1 2 W):aM (eaS W) 488 (aA Jy):=YB (sb W) (Hl hU) (VJ hU) (Uw W)
end Go.Proofs.YtgkhohpekfjlmaaDoor
