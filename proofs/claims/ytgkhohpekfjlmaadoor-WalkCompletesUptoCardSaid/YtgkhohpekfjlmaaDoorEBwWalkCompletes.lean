/- What the law's function reaches, in this seat's program: each has the text that was read, and each means what was shown of it. Conditions: none. -/
import Derived.Test.YtgkhohpekfjlmaaDoorEBss8
import Derived.Test.YtgkhohpekfjlmaaDoorEDb
import Derived.Test.YtgkhohpekfjlmaaDoorEDf
import Derived.Test.YtgkhohpekfjlmaaDoorEK26
import Derived.Test.YtgkhohpekfjlmaaDoorEK33
import Derived.Test.YtgkhohpekfjlmaaDoorEK25
import Derived.Test.YtgkhohpekfjlmaaDoorELx1
import Derived.Test.YtgkhohpekfjlmaaDoorELx2
import Derived.Test.YtgkhohpekfjlmaaDoorELx5
import Derived.Test.YtgkhohpekfjlmaaDoorERf
import Derived.Test.YtgkhohpekfjlmaaDoorERu
import Derived.Test.YtgkhohpekfjlmaaDoorEW32
import Derived.Test.YtgkhohpekfjlmaaDoorEK31
import Derived.Test.YtgkhohpekfjlmaaDoorEWl5
set_option linter.unusedVariables false
set_option linter.unusedSimpArgs false
set_option maxRecDepth 100000
namespace Go.Proofs.YtgkhohpekfjlmaaDoor
open Go.EA Go.EA.F
theorem WR (W:World):(eaS W).has 300 f300:=⟨Tryd.f21,Tryd.func21,by kernel_rfl,by kernel_rfl⟩
theorem YL (W:World):(eaS W).has 32 f32:=⟨Tryd.f22,Tryd.func22,by kernel_rfl,by kernel_rfl⟩
theorem aaP (W:World):(eaS W).has 45 f45:=⟨Tryd.f74,Tryd.func74,by kernel_rfl,by kernel_rfl⟩
theorem aal (W:World):(eaS W).has 68 f68:=⟨Tryd.f94,Tryd.func94,by kernel_rfl,by kernel_rfl⟩
theorem YW (W:World):(eaS W).has 17 f17:=⟨Tryd.f52,Tryd.func52,by kernel_rfl,by kernel_rfl⟩
theorem Yn (W:World):(eaS W).has 330 f330:=⟨Tryd.f72,Tryd.func72,by kernel_rfl,by kernel_rfl⟩
theorem UJ (W:World):(eaS W).has 75 f75:=⟨Tryd.f100,Tryd.func100,by kernel_rfl,by kernel_rfl⟩
theorem UV (W:World):(eaS W).has 56 f56:=⟨Tryd.f85,Tryd.func85,by kernel_rfl,by kernel_rfl⟩
theorem Yw (W:World):(eaS W).has 346 f346:=⟨Tryd.f92,Tryd.func92,by kernel_rfl,by kernel_rfl⟩
theorem XJ (W:World):(eaS W).has 329 f329:=⟨Tryd.f71,Tryd.func71,by kernel_rfl,by kernel_rfl⟩
theorem Vz (W:World):(eaS W).has 311 f311:=⟨Tryd.f49,Tryd.func49,by kernel_rfl,by kernel_rfl⟩
theorem Vs (W:World):(eaS W).has 312 f312:=⟨Tryd.f50,Tryd.func50,by kernel_rfl,by kernel_rfl⟩
theorem aai (W:World):(eaS W).has 20 f20:=⟨Tryd.f101,Tryd.func101,by kernel_rfl,by kernel_rfl⟩
theorem Ya (W:World):(eaS W).has 298 f298:=⟨Tryd.f88,Tryd.func88,by kernel_rfl,by kernel_rfl⟩
theorem Xf (W:World):(eaS W).has 337 f337:=⟨Tryd.f87,Tryd.func87,by kernel_rfl,by kernel_rfl⟩
theorem Xd (W:World):(eaS W).has 336 f336:=⟨Tryd.f86,Tryd.func86,by kernel_rfl,by kernel_rfl⟩
theorem Vh (W:World):(eaS W).has 318 f318:=⟨Tryd.f65,Tryd.func65,by kernel_rfl,by kernel_rfl⟩
theorem VX (W:World):(eaS W).has 296 f296:=⟨Tryd.f42,Tryd.func42,by kernel_rfl,by kernel_rfl⟩
theorem VP (W:World):(eaS W).has 278 f278:=⟨Tryd.f27,Tryd.func27,by kernel_rfl,by kernel_rfl⟩
theorem LM (W:World):(eaS W).has 500 f500:=⟨Tryd.f29,Tryd.func29,by kernel_rfl,by kernel_rfl⟩
theorem OZ (W:World):(eaS W).has 314 f314:=⟨Tryd.f75,Tryd.func75,by kernel_rfl,by kernel_rfl⟩
theorem XV (W:World):(eaS W).has 286 f286:=⟨Tryd.f61,Tryd.func61,by kernel_rfl,by kernel_rfl⟩
theorem Xb (W:World):(eaS W).has 334 f334:=⟨Tryd.f96,Tryd.func96,by kernel_rfl,by kernel_rfl⟩
theorem Ym (W:World):(eaS W).has 335 f335:=⟨Tryd.f97,Tryd.func97,by kernel_rfl,by kernel_rfl⟩
theorem WW (W:World):(eaS W).has 316 f316:=⟨Tryd.f76,Tryd.func76,by kernel_rfl,by kernel_rfl⟩
theorem VB (W:World):(eaS W).has 289 f289:=⟨Tryd.f54,Tryd.func54,by kernel_rfl,by kernel_rfl⟩
theorem XD (W:World):(eaS W).has 501 f501:=⟨Tryd.f30,Tryd.func30,by kernel_rfl,by kernel_rfl⟩
theorem Xw (W:World):(eaS W).has 510 f510:=⟨Tryd.f53,Tryd.func53,by kernel_rfl,by kernel_rfl⟩
theorem VQ (W:World):(eaS W).has 505 f505:=⟨Tryd.f37,Tryd.func37,by kernel_rfl,by kernel_rfl⟩
theorem aaa (W:World):(eaS W).has 55 f55:=⟨Tryd.f84,Tryd.func84,by kernel_rfl,by kernel_rfl⟩
theorem aag (W:World):(eaS W).has 54 f54:=⟨Tryd.f83,Tryd.func83,by kernel_rfl,by kernel_rfl⟩
theorem Zn (W:World):(eaS W).has 74 f74:=⟨Tryd.f99,Tryd.func99,by kernel_rfl,by kernel_rfl⟩
theorem ZJ (W:World):(eaS W).has 53 f53:=⟨Tryd.f82,Tryd.func82,by kernel_rfl,by kernel_rfl⟩
theorem YS (W:World):(eaS W).has 33 f33:=⟨Tryd.f62,Tryd.func62,by kernel_rfl,by kernel_rfl⟩
theorem VL (W:World):(eaS W).has 506 f506:=⟨Tryd.f38,Tryd.func38,by kernel_rfl,by kernel_rfl⟩
theorem XY (W:World):(eaS W).has 493 f493:=⟨Tryd.f15,Tryd.func15,by kernel_rfl,by kernel_rfl⟩
theorem XG (W:World):(eaS W).has 508 f508:=⟨Tryd.f40,Tryd.func40,by kernel_rfl,by kernel_rfl⟩
theorem VH (W:World):(eaS W).has 514 f514:=⟨Tryd.f64,Tryd.func64,by kernel_rfl,by kernel_rfl⟩
theorem WX (W:World):(eaS W).has 497 f497:=⟨Tryd.f19,Tryd.func19,by kernel_rfl,by kernel_rfl⟩
theorem Vd (W:World):(eaS W).has 491 f491:=⟨Tryd.f13,Tryd.func13,by kernel_rfl,by kernel_rfl⟩
theorem Vr (W:World):(eaS W).has 487 f487:=⟨Tryd.f9,Tryd.func9,by kernel_rfl,by kernel_rfl⟩
theorem aaN (W:World):(eaS W).has 57 f57:=⟨Tryd.f80,Tryd.func80,by kernel_rfl,by kernel_rfl⟩
theorem Zj (W:World):(eaS W).has 58 f58:=⟨Tryd.f81,Tryd.func81,by kernel_rfl,by kernel_rfl⟩
theorem Zv (W:World):(eaS W).has 46 f46:=⟨Tryd.f56,Tryd.func56,by kernel_rfl,by kernel_rfl⟩
theorem ZK (W:World):(eaS W).has 19 f19:=⟨Tryd.f33,Tryd.func33,by kernel_rfl,by kernel_rfl⟩
theorem YZ (W:World):(eaS W).has 21 f21:=⟨Tryd.f93,Tryd.func93,by kernel_rfl,by kernel_rfl⟩
theorem XR (W:World):(eaS W).has 299 f299:=⟨Tryd.f73,Tryd.func73,by kernel_rfl,by kernel_rfl⟩
theorem Vx (W:World):(eaS W).has 317 f317:=⟨Tryd.f51,Tryd.func51,by kernel_rfl,by kernel_rfl⟩
theorem Wt (W:World):(eaS W).has 291 f291:=⟨Tryd.f28,Tryd.func28,by kernel_rfl,by kernel_rfl⟩
theorem Yy (W:World):(eaS W).has 488 f488:=⟨Tryd.f10,Tryd.func10,by kernel_rfl,by kernel_rfl⟩
theorem XN (W:World):(eaS W).has 284 f284:=⟨Tryd.f58,Tryd.func58,by kernel_rfl,by kernel_rfl⟩
theorem Xl (W:World):(eaS W).has 302 f302:=⟨Tryd.f63,Tryd.func63,by kernel_rfl,by kernel_rfl⟩
theorem WH (W:World):(eaS W).has 507 f507:=⟨Tryd.f39,Tryd.func39,by kernel_rfl,by kernel_rfl⟩
theorem ZB (W:World):(eaS W).has 79 f79:=⟨Tryd.f44,Tryd.func44,by kernel_rfl,by kernel_rfl⟩
theorem Zu (W:World):(eaS W).has 65 f65:=⟨Tryd.f24,Tryd.func24,by kernel_rfl,by kernel_rfl⟩
theorem Wh (W:World):(eaS W).has 511 f511:=⟨Tryd.f57,Tryd.func57,by kernel_rfl,by kernel_rfl⟩
theorem Vj (W:World):(eaS W).has 512 f512:=⟨Tryd.f59,Tryd.func59,by kernel_rfl,by kernel_rfl⟩
theorem WP (W:World):(eaS W).has 513 f513:=⟨Tryd.f60,Tryd.func60,by kernel_rfl,by kernel_rfl⟩
theorem Wn (W:World):(eaS W).has 503 f503:=⟨Tryd.f35,Tryd.func35,by kernel_rfl,by kernel_rfl⟩
theorem WQ (W:World):(eaS W).has 495 f495:=⟨Tryd.f17,Tryd.func17,by kernel_rfl,by kernel_rfl⟩
theorem Yz (W:World):(eaS W).has 502 f502:=⟨Tryd.f31,Tryd.func31,by kernel_rfl,by kernel_rfl⟩
theorem XX (W:World):(eaS W).has 504 f504:=⟨Tryd.f36,Tryd.func36,by kernel_rfl,by kernel_rfl⟩
theorem Vm (W:World):(eaS W).has 496 f496:=⟨Tryd.f18,Tryd.func18,by kernel_rfl,by kernel_rfl⟩
theorem Vv (W:World):(eaS W).has 509 f509:=⟨Tryd.f41,Tryd.func41,by kernel_rfl,by kernel_rfl⟩
theorem Xt (W:World):(eaS W).has 498 f498:=⟨Tryd.f20,Tryd.func20,by kernel_rfl,by kernel_rfl⟩
theorem XL (W:World):(eaS W).has 482 f482:=⟨Tryd.f4,Tryd.func4,by kernel_rfl,by kernel_rfl⟩
theorem Va {W:World}(hU:Lib.Utf8Tabs 1 2 W):aG (eaS W) 300 (az Pw):=aax (sb W) (WR W)
theorem q32 {W:World}(hU:Lib.Utf8Tabs 1 2 W):aG (eaS W) 32 (az G32):=aa4 (sb W) (YL W)
theorem q17 {W:World}(hU:Lib.Utf8Tabs 1 2 W):aG (eaS W) 17 (az G17):=abn (sb W) (q69 hU) (aaP W) (aal W) (YW W)
theorem Yr {W:World}(hU:Lib.Utf8Tabs 1 2 W):aG (eaS W) 330 (az Mv):=aaB (sb W) (Yn W)
theorem u56 {W:World}(hU:Lib.Utf8Tabs 1 2 W):fB (eaS W) 56 C56:=abd (sb W) (UJ W) (UV W)
theorem Vy {W:World}(hU:Lib.Utf8Tabs 1 2 W):aG (eaS W) 346 (az Pq):=aaC (sb W) (u56 hU) (Yw W)
theorem Wq {W:World}(hU:Lib.Utf8Tabs 1 2 W):fB (eaS W) 311 IE:=ZO (sb W) (q17 hU) (Yr hU) (Vy hU) (XJ W) (Vz W)
theorem KX {W:World}(hU:Lib.Utf8Tabs 1 2 W):fB (eaS W) 312 (qa (.int .i64) (.int .i64) xC):=aaz (sb W) (Vs W)
theorem q20 {W:World}(hU:Lib.Utf8Tabs 1 2 W):aG (eaS W) 20 (az G20):=aa1 (sb W) (q17 hU) (aai W)
theorem Iu {W:World}(hU:Lib.Utf8Tabs 1 2 W):aG (eaS W) 298 (az Fb):=Zy (sb W) (q20 hU) (Ya W)
theorem Wj {W:World}(hU:Lib.Utf8Tabs 1 2 W):aG (eaS W) 337 (az OJ):=aae (sb W) (Iu hU) (Xf W)
theorem Xx {W:World}(hU:Lib.Utf8Tabs 1 2 W):aG (eaS W) 336 (az Pk):=aar (sb W) (Wj hU) (Xd W)
theorem XT {W:World}(hU:Lib.Utf8Tabs 1 2 W):aG (eaS W) 318 (az OC):=ZU (sb W) (Xx hU) (Iu hU) (Vh W)
theorem VK {W:World}(hU:Lib.Utf8Tabs 1 2 W):aG (eaS W) 296 (az MN):=Zz (sb W) (XT hU) (VX W)
theorem Ic {W:World}(hU:Lib.Utf8Tabs 1 2 W):aG (eaS W) 278 (az Dz):=ZM (sb W) (Wq hU) (KX hU) (VK hU) (VP W)
theorem yV {W:World}(hU:Lib.Utf8Tabs 1 2 W):aG (eaS W) 500 (az Af):=ZA (sb W) (q17 hU) (LM W)
theorem Wi {W:World}(hU:Lib.Utf8Tabs 1 2 W):aG (eaS W) 286 (az Nn):=ZL (sb W) (OZ W) (XV W)
theorem Wv {W:World}(hU:Lib.Utf8Tabs 1 2 W):aG (eaS W) 316 (az PL):=aaj (sb W) (Xb W) (Ym W) (WW W)
theorem Wm {W:World}(hU:Lib.Utf8Tabs 1 2 W):aG (eaS W) 289 (az OP):=YQ (sb W) (Wv hU) (OZ W) (VB W)
theorem IU {W:World}(hU:Lib.Utf8Tabs 1 2 W):aG (eaS W) 505 (az EC):=aaw (sb W) (Wi hU) (Wm hU) (XD W) (Xw W) (VQ W)
theorem q55 {W:World}(hU:Lib.Utf8Tabs 1 2 W):aG (eaS W) 55 (az G55):=abb (sb W) (aaa W)
theorem q54 {W:World}(hU:Lib.Utf8Tabs 1 2 W):aG (eaS W) 54 (az G54):=aaW (sb W) (q55 hU) (aag W)
theorem q74 {W:World}(hU:Lib.Utf8Tabs 1 2 W):aG (eaS W) 74 (az G74):=abp (sb W) (q54 hU) (Zn W)
theorem q53 {W:World}(hU:Lib.Utf8Tabs 1 2 W):aG (eaS W) 53 (az G53):=abh (sb W) (q74 hU) (ZJ W)
theorem q33 {W:World}(hU:Lib.Utf8Tabs 1 2 W):aG (eaS W) 33 (az G33):=abk (sb W) (q53 hU) (UV W) (UJ W) (YS W)
theorem JG {W:World}(hU:Lib.Utf8Tabs 1 2 W):aG (eaS W) 506 (az Ee):=YT (sb W) (q33 hU) (VL W)
theorem YD {W:World}(hU:Lib.Utf8Tabs 1 2 W):aG (eaS W) 493 (az Kq):=Zb (sb W) (yV hU) (IU hU) (JG hU) (XY W)
theorem Jm {W:World}(hU:Lib.Utf8Tabs 1 2 W):aG (eaS W) 497 (az Eb):=YI (sb W) (yV hU) (IU hU) (JG hU) (XG W) (VH W) (WX W)
theorem VF {W:World}(hU:Lib.Utf8Tabs 1 2 W):aG (eaS W) 487 (az Oy):=Zq (sb W) (Ic hU) (YD hU) (Jm hU) (Vd W) (LM W) (Vr W)
theorem q57 {W:World}(hU:Lib.Utf8Tabs 1 2 W):aG (eaS W) 57 (az G57):=aa8 (sb W) (aaN W)
theorem q58 {W:World}(hU:Lib.Utf8Tabs 1 2 W):aG (eaS W) 58 (az G58):=aaV (sb W) (Zj W)
theorem q46 {W:World}(hU:Lib.Utf8Tabs 1 2 W):aG (eaS W) 46 (az G46):=abg (sb W) (q57 hU) (q58 hU) (Zv W)
theorem q19 {W:World}(hU:Lib.Utf8Tabs 1 2 W):aG (eaS W) 19 (az G19):=abm (sb W) (q46 hU) (ZK W)
theorem q21 {W:World}(hU:Lib.Utf8Tabs 1 2 W):aG (eaS W) 21 (az G21):=aa3 (sb W) (q19 hU) (YZ W)
theorem VU {W:World}(hU:Lib.Utf8Tabs 1 2 W):aG (eaS W) 299 (az JY):=YH (sb W) (q21 hU) (XR W)
theorem WF {W:World}(hU:Lib.Utf8Tabs 1 2 W):aG (eaS W) 317 (az Ko):=aaT (sb W) (VU hU) (Vx W)
theorem Yl {W:World}(hU:Lib.Utf8Tabs 1 2 W):aG (eaS W) 291 (az LY):=aaJ (sb W) (WF hU) (Wt W)
theorem Xu {W:World}(hU:Lib.Utf8Tabs 1 2 W):aG (eaS W) 488 (az Lv):=aaM (sb W) (Ic hU) (Yl hU) (Yy W)
theorem Vb {W:World}(hU:Lib.Utf8Tabs 1 2 W):aG (eaS W) 284 (az PE):=Zm (sb W) (XN W)
theorem Wz {W:World}(hU:Lib.Utf8Tabs 1 2 W):aG (eaS W) 302 (az Oe):=aac (sb W) (u56 hU) (Xl W)
theorem IQ {W:World}(hU:Lib.Utf8Tabs 1 2 W):aG (eaS W) 507 (az DU):=YR (sb W) (Wz hU) (WH W)
theorem q79 {W:World}(hU:Lib.Utf8Tabs 1 2 W):aG (eaS W) 79 (az G79):=aaY (sb W) (ZB W)
theorem q65 {W:World}(hU:Lib.Utf8Tabs 1 2 W):aG (eaS W) 65 (az G65):=aa6 (sb W) (q79 hU) (Zu W)
theorem WZ {W:World}(hU:Lib.Utf8Tabs 1 2 W):aG (eaS W) 503 (az Oh):=aak (sb W) (Vb hU) (IQ hU) (q65 hU) (Wh W) (Vj W) (WP W) (Wn W)
theorem Yx {W:World}(hU:Lib.Utf8Tabs 1 2 W):aG (eaS W) 495 (az OH):=Zx (sb W) (yV hU) (WZ hU) (IQ hU) (WQ W)
theorem IW {W:World}(hU:Lib.Utf8Tabs 1 2 W):aG (eaS W) 502 (az DW):=YU (sb W) (q19 hU) (Yz W)
theorem Jd {W:World}(hU:Lib.Utf8Tabs 1 2 W):aG (eaS W) 504 (az Ew):=Zf (sb W) (XX W)
theorem Vp {W:World}(hU:Lib.Utf8Tabs 1 2 W):aG (eaS W) 496 (az Lt):=YX (sb W) (IW hU) (Jd hU) (Vm W)
theorem XM {W:World}(hU:Lib.Utf8Tabs 1 2 W):aG (eaS W) 509 (az Mj):=aad (sb W) (Vv W)
theorem WT {W:World}(hU:Lib.Utf8Tabs 1 2 W):aG (eaS W) 498 (az Ms):=aah (sb W) (IW hU) (Jd hU) (XM hU) (Xt W)
end Go.Proofs.YtgkhohpekfjlmaaDoor
