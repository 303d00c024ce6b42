/- What the law's function reaches, in this seat's program: each has the text that was read, and each means what was shown of it. Conditions: none. -/
import Derived.Test.YtgkhohpekfjlmaaDoorEBss8
import Derived.Test.YtgkhohpekfjlmaaDoorEDb
import Derived.Test.YtgkhohpekfjlmaaDoorEDf
import Derived.Test.YtgkhohpekfjlmaaDoorEK26
import Derived.Test.YtgkhohpekfjlmaaDoorEK25
import Derived.Test.YtgkhohpekfjlmaaDoorEK33
import Derived.Test.YtgkhohpekfjlmaaDoorELx1
import Derived.Test.YtgkhohpekfjlmaaDoorELx2
import Derived.Test.YtgkhohpekfjlmaaDoorELx5
import Derived.Test.YtgkhohpekfjlmaaDoorERf
import Derived.Test.YtgkhohpekfjlmaaDoorERu
import Derived.Test.YtgkhohpekfjlmaaDoorEK31
import Derived.Test.YtgkhohpekfjlmaaDoorEWl1
set_option linter.unusedVariables false
set_option linter.unusedSimpArgs false
set_option maxRecDepth 100000
namespace Go.Proofs.YtgkhohpekfjlmaaDoor
open Go.EA Go.EA.F
theorem aa0 (W:World):(eaS W).has 45 f45:=⟨Tryd.f74,Tryd.func74,by kernel_rfl,by kernel_rfl⟩
theorem aae (W:World):(eaS W).has 68 f68:=⟨Tryd.f94,Tryd.func94,by kernel_rfl,by kernel_rfl⟩
theorem aaJ (W:World):(eaS W).has 17 f17:=⟨Tryd.f52,Tryd.func52,by kernel_rfl,by kernel_rfl⟩
theorem WJ (W:World):(eaS W).has 330 f330:=⟨Tryd.f72,Tryd.func72,by kernel_rfl,by kernel_rfl⟩
theorem Vq (W:World):(eaS W).has 75 f75:=⟨Tryd.f100,Tryd.func100,by kernel_rfl,by kernel_rfl⟩
theorem Vj (W:World):(eaS W).has 56 f56:=⟨Tryd.f85,Tryd.func85,by kernel_rfl,by kernel_rfl⟩
theorem Xd (W:World):(eaS W).has 346 f346:=⟨Tryd.f92,Tryd.func92,by kernel_rfl,by kernel_rfl⟩
theorem VD (W:World):(eaS W).has 329 f329:=⟨Tryd.f71,Tryd.func71,by kernel_rfl,by kernel_rfl⟩
theorem XV (W:World):(eaS W).has 311 f311:=⟨Tryd.f49,Tryd.func49,by kernel_rfl,by kernel_rfl⟩
theorem Xj (W:World):(eaS W).has 312 f312:=⟨Tryd.f50,Tryd.func50,by kernel_rfl,by kernel_rfl⟩
theorem abD (W:World):(eaS W).has 20 f20:=⟨Tryd.f101,Tryd.func101,by kernel_rfl,by kernel_rfl⟩
theorem WA (W:World):(eaS W).has 298 f298:=⟨Tryd.f88,Tryd.func88,by kernel_rfl,by kernel_rfl⟩
theorem XD (W:World):(eaS W).has 337 f337:=⟨Tryd.f87,Tryd.func87,by kernel_rfl,by kernel_rfl⟩
theorem XN (W:World):(eaS W).has 336 f336:=⟨Tryd.f86,Tryd.func86,by kernel_rfl,by kernel_rfl⟩
theorem VJ (W:World):(eaS W).has 318 f318:=⟨Tryd.f65,Tryd.func65,by kernel_rfl,by kernel_rfl⟩
theorem Wn (W:World):(eaS W).has 296 f296:=⟨Tryd.f42,Tryd.func42,by kernel_rfl,by kernel_rfl⟩
theorem Xy (W:World):(eaS W).has 278 f278:=⟨Tryd.f27,Tryd.func27,by kernel_rfl,by kernel_rfl⟩
theorem MW (W:World):(eaS W).has 500 f500:=⟨Tryd.f29,Tryd.func29,by kernel_rfl,by kernel_rfl⟩
theorem Nf (W:World):(eaS W).has 314 f314:=⟨Tryd.f75,Tryd.func75,by kernel_rfl,by kernel_rfl⟩
theorem Xh (W:World):(eaS W).has 286 f286:=⟨Tryd.f61,Tryd.func61,by kernel_rfl,by kernel_rfl⟩
theorem Yf (W:World):(eaS W).has 334 f334:=⟨Tryd.f96,Tryd.func96,by kernel_rfl,by kernel_rfl⟩
theorem Vx (W:World):(eaS W).has 335 f335:=⟨Tryd.f97,Tryd.func97,by kernel_rfl,by kernel_rfl⟩
theorem Xl (W:World):(eaS W).has 316 f316:=⟨Tryd.f76,Tryd.func76,by kernel_rfl,by kernel_rfl⟩
theorem WM (W:World):(eaS W).has 289 f289:=⟨Tryd.f54,Tryd.func54,by kernel_rfl,by kernel_rfl⟩
theorem LB (W:World):(eaS W).has 501 f501:=⟨Tryd.f30,Tryd.func30,by kernel_rfl,by kernel_rfl⟩
theorem MU (W:World):(eaS W).has 510 f510:=⟨Tryd.f53,Tryd.func53,by kernel_rfl,by kernel_rfl⟩
theorem YP (W:World):(eaS W).has 505 f505:=⟨Tryd.f37,Tryd.func37,by kernel_rfl,by kernel_rfl⟩
theorem aaf (W:World):(eaS W).has 55 f55:=⟨Tryd.f84,Tryd.func84,by kernel_rfl,by kernel_rfl⟩
theorem Zy (W:World):(eaS W).has 54 f54:=⟨Tryd.f83,Tryd.func83,by kernel_rfl,by kernel_rfl⟩
theorem aaU (W:World):(eaS W).has 74 f74:=⟨Tryd.f99,Tryd.func99,by kernel_rfl,by kernel_rfl⟩
theorem ZZ (W:World):(eaS W).has 53 f53:=⟨Tryd.f82,Tryd.func82,by kernel_rfl,by kernel_rfl⟩
theorem abn (W:World):(eaS W).has 33 f33:=⟨Tryd.f62,Tryd.func62,by kernel_rfl,by kernel_rfl⟩
theorem Xq (W:World):(eaS W).has 506 f506:=⟨Tryd.f38,Tryd.func38,by kernel_rfl,by kernel_rfl⟩
theorem Ym (W:World):(eaS W).has 493 f493:=⟨Tryd.f15,Tryd.func15,by kernel_rfl,by kernel_rfl⟩
theorem XZ (W:World):(eaS W).has 508 f508:=⟨Tryd.f40,Tryd.func40,by kernel_rfl,by kernel_rfl⟩
theorem VZ (W:World):(eaS W).has 514 f514:=⟨Tryd.f64,Tryd.func64,by kernel_rfl,by kernel_rfl⟩
theorem WO (W:World):(eaS W).has 497 f497:=⟨Tryd.f19,Tryd.func19,by kernel_rfl,by kernel_rfl⟩
theorem KP (W:World):(eaS W).has 491 f491:=⟨Tryd.f13,Tryd.func13,by kernel_rfl,by kernel_rfl⟩
theorem VO (W:World):(eaS W).has 487 f487:=⟨Tryd.f9,Tryd.func9,by kernel_rfl,by kernel_rfl⟩
theorem Zx (W:World):(eaS W).has 57 f57:=⟨Tryd.f80,Tryd.func80,by kernel_rfl,by kernel_rfl⟩
theorem aa5 (W:World):(eaS W).has 58 f58:=⟨Tryd.f81,Tryd.func81,by kernel_rfl,by kernel_rfl⟩
theorem aaX (W:World):(eaS W).has 46 f46:=⟨Tryd.f56,Tryd.func56,by kernel_rfl,by kernel_rfl⟩
theorem aa2 (W:World):(eaS W).has 19 f19:=⟨Tryd.f33,Tryd.func33,by kernel_rfl,by kernel_rfl⟩
theorem abl (W:World):(eaS W).has 21 f21:=⟨Tryd.f93,Tryd.func93,by kernel_rfl,by kernel_rfl⟩
theorem Xv (W:World):(eaS W).has 299 f299:=⟨Tryd.f73,Tryd.func73,by kernel_rfl,by kernel_rfl⟩
theorem YX (W:World):(eaS W).has 317 f317:=⟨Tryd.f51,Tryd.func51,by kernel_rfl,by kernel_rfl⟩
theorem XO (W:World):(eaS W).has 291 f291:=⟨Tryd.f28,Tryd.func28,by kernel_rfl,by kernel_rfl⟩
theorem Xz (W:World):(eaS W).has 488 f488:=⟨Tryd.f10,Tryd.func10,by kernel_rfl,by kernel_rfl⟩
theorem Wp (W:World):(eaS W).has 489 f489:=⟨Tryd.f11,Tryd.func11,by kernel_rfl,by kernel_rfl⟩
theorem aan (W:World):(eaS W).has 37 f37:=⟨Tryd.f104,Tryd.func104,by kernel_rfl,by kernel_rfl⟩
theorem aac (W:World):(eaS W).has 18 f18:=⟨Tryd.f98,Tryd.func98,by kernel_rfl,by kernel_rfl⟩
theorem Zd (W:World):(eaS W).has 331 f331:=⟨Tryd.f77,Tryd.func77,by kernel_rfl,by kernel_rfl⟩
theorem Ya (W:World):(eaS W).has 332 f332:=⟨Tryd.f78,Tryd.func78,by kernel_rfl,by kernel_rfl⟩
theorem Xg (W:World):(eaS W).has 333 f333:=⟨Tryd.f79,Tryd.func79,by kernel_rfl,by kernel_rfl⟩
theorem WW (W:World):(eaS W).has 313 f313:=⟨Tryd.f55,Tryd.func55,by kernel_rfl,by kernel_rfl⟩
theorem Zc (W:World):(eaS W).has 280 f280:=⟨Tryd.f32,Tryd.func32,by kernel_rfl,by kernel_rfl⟩
theorem YL (W:World):(eaS W).has 290 f290:=⟨Tryd.f34,Tryd.func34,by kernel_rfl,by kernel_rfl⟩
theorem Wj (W:World):(eaS W).has 502 f502:=⟨Tryd.f31,Tryd.func31,by kernel_rfl,by kernel_rfl⟩
theorem Xi (W:World):(eaS W).has 490 f490:=⟨Tryd.f12,Tryd.func12,by kernel_rfl,by kernel_rfl⟩
theorem Wt (W:World):(eaS W).has 284 f284:=⟨Tryd.f58,Tryd.func58,by kernel_rfl,by kernel_rfl⟩
theorem WC (W:World):(eaS W).has 302 f302:=⟨Tryd.f63,Tryd.func63,by kernel_rfl,by kernel_rfl⟩
theorem Xt (W:World):(eaS W).has 507 f507:=⟨Tryd.f39,Tryd.func39,by kernel_rfl,by kernel_rfl⟩
theorem ZC (W:World):(eaS W).has 79 f79:=⟨Tryd.f44,Tryd.func44,by kernel_rfl,by kernel_rfl⟩
theorem aa4 (W:World):(eaS W).has 65 f65:=⟨Tryd.f24,Tryd.func24,by kernel_rfl,by kernel_rfl⟩
theorem YV (W:World):(eaS W).has 511 f511:=⟨Tryd.f57,Tryd.func57,by kernel_rfl,by kernel_rfl⟩
theorem YR (W:World):(eaS W).has 512 f512:=⟨Tryd.f59,Tryd.func59,by kernel_rfl,by kernel_rfl⟩
theorem YN (W:World):(eaS W).has 513 f513:=⟨Tryd.f60,Tryd.func60,by kernel_rfl,by kernel_rfl⟩
theorem Yg (W:World):(eaS W).has 503 f503:=⟨Tryd.f35,Tryd.func35,by kernel_rfl,by kernel_rfl⟩
theorem XC (W:World):(eaS W).has 504 f504:=⟨Tryd.f36,Tryd.func36,by kernel_rfl,by kernel_rfl⟩
theorem XT (W:World):(eaS W).has 492 f492:=⟨Tryd.f14,Tryd.func14,by kernel_rfl,by kernel_rfl⟩
theorem WF (W:World):(eaS W).has 494 f494:=⟨Tryd.f16,Tryd.func16,by kernel_rfl,by kernel_rfl⟩
theorem YS (W:World):(eaS W).has 481 f481:=⟨Tryd.f3,Tryd.func3,by kernel_rfl,by kernel_rfl⟩
theorem q17 {W:World}(hU:Lib.Utf8Tabs 1 2 W):aG (eaS W) 17 (az G17):=abJ (sb W) (q69 hU) (aa0 W) (aae W) (aaJ W)
theorem XY {W:World}(hU:Lib.Utf8Tabs 1 2 W):aG (eaS W) 330 (az KC):=aba (sb W) (WJ W)
theorem u56 {W:World}(hU:Lib.Utf8Tabs 1 2 W):dN (eaS W) 56 C56:=abS (sb W) (Vq W) (Vj W)
theorem Xw {W:World}(hU:Lib.Utf8Tabs 1 2 W):aG (eaS W) 346 (az PX):=abd (sb W) (u56 hU) (Xd W)
theorem Za {W:World}(hU:Lib.Utf8Tabs 1 2 W):dN (eaS W) 311 Jf:=aa6 (sb W) (q17 hU) (XY hU) (Xw hU) (VD W) (XV W)
theorem Oe {W:World}(hU:Lib.Utf8Tabs 1 2 W):dN (eaS W) 312 (qz (.int .i64) (.int .i64) wM):=abm (sb W) (Xj W)
theorem q20 {W:World}(hU:Lib.Utf8Tabs 1 2 W):aG (eaS W) 20 (az G20):=abP (sb W) (q17 hU) (abD W)
theorem IQ {W:World}(hU:Lib.Utf8Tabs 1 2 W):aG (eaS W) 298 (az DJ):=aby (sb W) (q20 hU) (WA W)
theorem VA {W:World}(hU:Lib.Utf8Tabs 1 2 W):aG (eaS W) 337 (az NQ):=aak (sb W) (IQ hU) (XD W)
theorem Zh {W:World}(hU:Lib.Utf8Tabs 1 2 W):aG (eaS W) 336 (az Qa):=Zo (sb W) (VA hU) (XN W)
theorem XI {W:World}(hU:Lib.Utf8Tabs 1 2 W):aG (eaS W) 318 (az MB):=aaO (sb W) (Zh hU) (IQ hU) (VJ W)
theorem YO {W:World}(hU:Lib.Utf8Tabs 1 2 W):aG (eaS W) 296 (az ME):=aaZ (sb W) (XI hU) (Wn W)
theorem HZ {W:World}(hU:Lib.Utf8Tabs 1 2 W):aG (eaS W) 278 (az Fb):=abj (sb W) (Za hU) (Oe hU) (YO hU) (Xy W)
theorem rD {W:World}(hU:Lib.Utf8Tabs 1 2 W):aG (eaS W) 500 (az tZ):=aaq (sb W) (q17 hU) (MW W)
theorem XK {W:World}(hU:Lib.Utf8Tabs 1 2 W):aG (eaS W) 286 (az Mj):=aaa (sb W) (Nf W) (Xh W)
theorem Yi {W:World}(hU:Lib.Utf8Tabs 1 2 W):aG (eaS W) 316 (az LP):=aaj (sb W) (Yf W) (Vx W) (Xl W)
theorem Ir {W:World}(hU:Lib.Utf8Tabs 1 2 W):aG (eaS W) 289 (az Ez):=ZL (sb W) (Yi hU) (Nf W) (WM W)
theorem IC {W:World}(hU:Lib.Utf8Tabs 1 2 W):aG (eaS W) 505 (az Ey):=ZX (sb W) (XK hU) (Ir hU) (LB W) (MU W) (YP W)
theorem q55 {W:World}(hU:Lib.Utf8Tabs 1 2 W):aG (eaS W) 55 (az G55):=abL (sb W) (aaf W)
theorem q54 {W:World}(hU:Lib.Utf8Tabs 1 2 W):aG (eaS W) 54 (az G54):=abV (sb W) (q55 hU) (Zy W)
theorem q74 {W:World}(hU:Lib.Utf8Tabs 1 2 W):aG (eaS W) 74 (az G74):=ab1 (sb W) (q54 hU) (aaU W)
theorem q53 {W:World}(hU:Lib.Utf8Tabs 1 2 W):aG (eaS W) 53 (az G53):=ab6 (sb W) (q74 hU) (ZZ W)
theorem q33 {W:World}(hU:Lib.Utf8Tabs 1 2 W):aG (eaS W) 33 (az G33):=ab7 (sb W) (q53 hU) (Vj W) (Vq W) (abn W)
theorem JH {W:World}(hU:Lib.Utf8Tabs 1 2 W):aG (eaS W) 506 (az Ea):=aaW (sb W) (q33 hU) (Xq W)
theorem JD {W:World}(hU:Lib.Utf8Tabs 1 2 W):aG (eaS W) 493 (az El):=aaM (sb W) (rD hU) (IC hU) (JH hU) (Ym W)
theorem Yh {W:World}(hU:Lib.Utf8Tabs 1 2 W):aG (eaS W) 497 (az Lu):=aaV (sb W) (rD hU) (IC hU) (JH hU) (XZ W) (VZ W) (WO W)
theorem WX {W:World}(hU:Lib.Utf8Tabs 1 2 W):aG (eaS W) 487 (az Kh):=aaN (sb W) (HZ hU) (JD hU) (Yh hU) (KP W) (MW W) (VO W)
theorem q57 {W:World}(hU:Lib.Utf8Tabs 1 2 W):aG (eaS W) 57 (az G57):=abI (sb W) (Zx W)
theorem q58 {W:World}(hU:Lib.Utf8Tabs 1 2 W):aG (eaS W) 58 (az G58):=abF (sb W) (aa5 W)
theorem q46 {W:World}(hU:Lib.Utf8Tabs 1 2 W):aG (eaS W) 46 (az G46):=abH (sb W) (q57 hU) (q58 hU) (aaX W)
theorem q19 {W:World}(hU:Lib.Utf8Tabs 1 2 W):aG (eaS W) 19 (az G19):=abE (sb W) (q46 hU) (aa2 W)
theorem q21 {W:World}(hU:Lib.Utf8Tabs 1 2 W):aG (eaS W) 21 (az G21):=abK (sb W) (q19 hU) (abl W)
theorem WK {W:World}(hU:Lib.Utf8Tabs 1 2 W):aG (eaS W) 299 (az NP):=abg (sb W) (q21 hU) (Xv W)
theorem Yx {W:World}(hU:Lib.Utf8Tabs 1 2 W):aG (eaS W) 317 (az NY):=aaT (sb W) (WK hU) (YX W)
theorem Wl {W:World}(hU:Lib.Utf8Tabs 1 2 W):aG (eaS W) 291 (az Pe):=aah (sb W) (Yx hU) (XO W)
theorem WI {W:World}(hU:Lib.Utf8Tabs 1 2 W):aG (eaS W) 488 (az Ka):=aau (sb W) (HZ hU) (Wl hU) (Xz W)
theorem Yv {W:World}(hU:Lib.Utf8Tabs 1 2 W):aG (eaS W) 489 (az OA):=aaR (sb W) (Ir hU) (rD hU) (LB W) (MU W) (Wp W)
theorem q37 {W:World}(hU:Lib.Utf8Tabs 1 2 W):aG (eaS W) 37 (az G37):=abG (sb W) (aan W)
theorem q18 {W:World}(hU:Lib.Utf8Tabs 1 2 W):aG (eaS W) 18 (az G18):=ab3 (sb W) (q37 hU) (aac W)
theorem JB {W:World}(hU:Lib.Utf8Tabs 1 2 W):aG (eaS W) 331 (az Ij):=ZW (sb W) (q18 hU) (Zd W)
theorem Jd {W:World}(hU:Lib.Utf8Tabs 1 2 W):aG (eaS W) 332 (az Jy):=aal (sb W) (Ya W)
theorem IU {W:World}(hU:Lib.Utf8Tabs 1 2 W):aG (eaS W) 333 (az JQ):=aaA (sb W) (Xg W)
theorem Nq {W:World}(hU:Lib.Utf8Tabs 1 2 W):dN (eaS W) 313 (qa RsT Cz):=Zz (sb W) (JB hU) (Jd hU) (IU hU) (WW W)
theorem XE {W:World}(hU:Lib.Utf8Tabs 1 2 W):aG (eaS W) 280 (az Nt):=aaE (sb W) (Nq hU) (q19 hU) (Zc W)
theorem VX {W:World}(hU:Lib.Utf8Tabs 1 2 W):aG (eaS W) 290 (az NN):=abC (sb W) (YL W)
theorem yP {W:World}(hU:Lib.Utf8Tabs 1 2 W):aG (eaS W) 502 (az yM):=aaC (sb W) (q19 hU) (Wj W)
theorem Wq {W:World}(hU:Lib.Utf8Tabs 1 2 W):aG (eaS W) 490 (az Nn):=ZR (sb W) (q19 hU) (XE hU) (VX hU) (yP hU) (Xi W)
theorem Xu {W:World}(hU:Lib.Utf8Tabs 1 2 W):aG (eaS W) 284 (az Pi):=abp (sb W) (Wt W)
theorem Vy {W:World}(hU:Lib.Utf8Tabs 1 2 W):aG (eaS W) 302 (az OG):=ZB (sb W) (u56 hU) (WC W)
theorem Xf {W:World}(hU:Lib.Utf8Tabs 1 2 W):aG (eaS W) 507 (az Kj):=abb (sb W) (Vy hU) (Xt W)
theorem q79 {W:World}(hU:Lib.Utf8Tabs 1 2 W):aG (eaS W) 79 (az G79):=abT (sb W) (ZC W)
theorem q65 {W:World}(hU:Lib.Utf8Tabs 1 2 W):aG (eaS W) 65 (az G65):=abZ (sb W) (q79 hU) (aa4 W)
theorem Wx {W:World}(hU:Lib.Utf8Tabs 1 2 W):aG (eaS W) 503 (az Nu):=aaQ (sb W) (Xu hU) (Xf hU) (q65 hU) (YV W) (YR W) (YN W) (Yg W)
theorem YU {W:World}(hU:Lib.Utf8Tabs 1 2 W):aG (eaS W) 491 (az Oy):=aat (sb W) (rD hU) (Wx hU) (KP W)
theorem Jl {W:World}(hU:Lib.Utf8Tabs 1 2 W):aG (eaS W) 504 (az Ef):=aam (sb W) (XC W)
theorem WP {W:World}(hU:Lib.Utf8Tabs 1 2 W):aG (eaS W) 492 (az NV):=abf (sb W) (yP hU) (Jl hU) (XT W)
theorem VQ {W:World}(hU:Lib.Utf8Tabs 1 2 W):aG (eaS W) 494 (az Ms):=Zw (sb W) (yP hU) (Jl hU) (WF W)
end Go.Proofs.YtgkhohpekfjlmaaDoor
