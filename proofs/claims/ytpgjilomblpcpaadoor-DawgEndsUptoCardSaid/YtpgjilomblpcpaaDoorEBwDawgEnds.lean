/- What the law's function reaches, in this seat's program: each has the text that was read, and each means what was shown of it. Conditions: none. -/
import Derived.Test.YtpgjilomblpcpaaDoorEBss3
import Derived.Test.YtpgjilomblpcpaaDoorECs
import Derived.Test.YtpgjilomblpcpaaDoorEDb
import Derived.Test.YtpgjilomblpcpaaDoorEDf
import Derived.Test.YtpgjilomblpcpaaDoorEDj
import Derived.Test.YtpgjilomblpcpaaDoorEK26
import Derived.Test.YtpgjilomblpcpaaDoorEDwf
import Derived.Test.YtpgjilomblpcpaaDoorEK25
import Derived.Test.YtpgjilomblpcpaaDoorELx1
import Derived.Test.YtpgjilomblpcpaaDoorELx2
import Derived.Test.YtpgjilomblpcpaaDoorELx5
import Derived.Test.YtpgjilomblpcpaaDoorERf
import Derived.Test.YtpgjilomblpcpaaDoorERu
import Derived.Test.YtpgjilomblpcpaaDoorEK24
set_option linter.unusedVariables false
set_option linter.unusedSimpArgs false
set_option maxRecDepth 100000
namespace Go.Proofs.YtpgjilomblpcpaaDoor
open Go.EA Go.EA.F
theorem Wo (W:World):(eaS W).has 45 f45:=⟨Tryd.f61,Tryd.func61,by kernel_rfl,by kernel_rfl⟩
theorem Xv (W:World):(eaS W).has 68 f68:=⟨Tryd.f86,Tryd.func86,by kernel_rfl,by kernel_rfl⟩
theorem Xj (W:World):(eaS W).has 17 f17:=⟨Tryd.f32,Tryd.func32,by kernel_rfl,by kernel_rfl⟩
theorem TL (W:World):(eaS W).has 330 f330:=⟨Tryd.f79,Tryd.func79,by kernel_rfl,by kernel_rfl⟩
theorem XC (W:World):(eaS W).has 75 f75:=⟨Tryd.f95,Tryd.func95,by kernel_rfl,by kernel_rfl⟩
theorem Ws (W:World):(eaS W).has 56 f56:=⟨Tryd.f70,Tryd.func70,by kernel_rfl,by kernel_rfl⟩
theorem Vx (W:World):(eaS W).has 346 f346:=⟨Tryd.f100,Tryd.func100,by kernel_rfl,by kernel_rfl⟩
theorem Vb (W:World):(eaS W).has 329 f329:=⟨Tryd.f78,Tryd.func78,by kernel_rfl,by kernel_rfl⟩
theorem UI (W:World):(eaS W).has 311 f311:=⟨Tryd.f53,Tryd.func53,by kernel_rfl,by kernel_rfl⟩
theorem UV (W:World):(eaS W).has 312 f312:=⟨Tryd.f54,Tryd.func54,by kernel_rfl,by kernel_rfl⟩
theorem XU (W:World):(eaS W).has 20 f20:=⟨Tryd.f66,Tryd.func66,by kernel_rfl,by kernel_rfl⟩
theorem Tj (W:World):(eaS W).has 298 f298:=⟨Tryd.f39,Tryd.func39,by kernel_rfl,by kernel_rfl⟩
theorem Sv (W:World):(eaS W).has 337 f337:=⟨Tryd.f89,Tryd.func89,by kernel_rfl,by kernel_rfl⟩
theorem Ud (W:World):(eaS W).has 336 f336:=⟨Tryd.f88,Tryd.func88,by kernel_rfl,by kernel_rfl⟩
theorem Vf (W:World):(eaS W).has 318 f318:=⟨Tryd.f62,Tryd.func62,by kernel_rfl,by kernel_rfl⟩
theorem TK (W:World):(eaS W).has 296 f296:=⟨Tryd.f37,Tryd.func37,by kernel_rfl,by kernel_rfl⟩
theorem TE (W:World):(eaS W).has 278 f278:=⟨Tryd.f18,Tryd.func18,by kernel_rfl,by kernel_rfl⟩
theorem TM (W:World):(eaS W).has 281 f281:=⟨Tryd.f21,Tryd.func21,by kernel_rfl,by kernel_rfl⟩
theorem Ti (W:World):(eaS W).has 282 f282:=⟨Tryd.f22,Tryd.func22,by kernel_rfl,by kernel_rfl⟩
theorem VK (W:World):(eaS W).has 284 f284:=⟨Tryd.f24,Tryd.func24,by kernel_rfl,by kernel_rfl⟩
theorem LW (W:World):(eaS W).has 289 f289:=⟨Tryd.f29,Tryd.func29,by kernel_rfl,by kernel_rfl⟩
theorem Cw (W:World):(eaS W).has 314 f314:=⟨Tryd.f57,Tryd.func57,by kernel_rfl,by kernel_rfl⟩
theorem VQ (W:World):(eaS W).has 276 f276:=⟨Tryd.f16,Tryd.func16,by kernel_rfl,by kernel_rfl⟩
theorem UQ (W:World):(eaS W).has 277 f277:=⟨Tryd.f17,Tryd.func17,by kernel_rfl,by kernel_rfl⟩
theorem VN (W:World):(eaS W).has 286 f286:=⟨Tryd.f26,Tryd.func26,by kernel_rfl,by kernel_rfl⟩
theorem Xc (W:World):(eaS W).has 57 f57:=⟨Tryd.f101,Tryd.func101,by kernel_rfl,by kernel_rfl⟩
theorem Wq (W:World):(eaS W).has 58 f58:=⟨Tryd.f102,Tryd.func102,by kernel_rfl,by kernel_rfl⟩
theorem Xa (W:World):(eaS W).has 46 f46:=⟨Tryd.f80,Tryd.func80,by kernel_rfl,by kernel_rfl⟩
theorem Xz (W:World):(eaS W).has 19 f19:=⟨Tryd.f55,Tryd.func55,by kernel_rfl,by kernel_rfl⟩
theorem Wx (W:World):(eaS W).has 21 f21:=⟨Tryd.f67,Tryd.func67,by kernel_rfl,by kernel_rfl⟩
theorem Tu (W:World):(eaS W).has 299 f299:=⟨Tryd.f40,Tryd.func40,by kernel_rfl,by kernel_rfl⟩
theorem Ua (W:World):(eaS W).has 317 f317:=⟨Tryd.f60,Tryd.func60,by kernel_rfl,by kernel_rfl⟩
theorem SH (W:World):(eaS W).has 291 f291:=⟨Tryd.f31,Tryd.func31,by kernel_rfl,by kernel_rfl⟩
theorem Ug (W:World):(eaS W).has 261 f261:=⟨Tryd.f107,Tryd.func107,by kernel_rfl,by kernel_rfl⟩
theorem TQ (W:World):(eaS W).has 252 f252:=⟨Tryd.f93,Tryd.func93,by kernel_rfl,by kernel_rfl⟩
theorem UC (W:World):(eaS W).has 321 f321:=⟨Tryd.f65,Tryd.func65,by kernel_rfl,by kernel_rfl⟩
theorem VS (W:World):(eaS W).has 342 f342:=⟨Tryd.f96,Tryd.func96,by kernel_rfl,by kernel_rfl⟩
theorem VE (W:World):(eaS W).has 324 f324:=⟨Tryd.f71,Tryd.func71,by kernel_rfl,by kernel_rfl⟩
theorem Tq (W:World):(eaS W).has 303 f303:=⟨Tryd.f44,Tryd.func44,by kernel_rfl,by kernel_rfl⟩
theorem Ue (W:World):(eaS W).has 334 f334:=⟨Tryd.f84,Tryd.func84,by kernel_rfl,by kernel_rfl⟩
theorem Sr (W:World):(eaS W).has 335 f335:=⟨Tryd.f85,Tryd.func85,by kernel_rfl,by kernel_rfl⟩
theorem Ux (W:World):(eaS W).has 316 f316:=⟨Tryd.f59,Tryd.func59,by kernel_rfl,by kernel_rfl⟩
theorem UB (W:World):(eaS W).has 304 f304:=⟨Tryd.f45,Tryd.func45,by kernel_rfl,by kernel_rfl⟩
theorem Xi (W:World):(eaS W).has 79 f79:=⟨Tryd.f73,Tryd.func73,by kernel_rfl,by kernel_rfl⟩
theorem WL (W:World):(eaS W).has 65 f65:=⟨Tryd.f47,Tryd.func47,by kernel_rfl,by kernel_rfl⟩
theorem SY (W:World):(eaS W).has 325 f325:=⟨Tryd.f72,Tryd.func72,by kernel_rfl,by kernel_rfl⟩
theorem UO (W:World):(eaS W).has 343 f343:=⟨Tryd.f97,Tryd.func97,by kernel_rfl,by kernel_rfl⟩
theorem Vz (W:World):(eaS W).has 305 f305:=⟨Tryd.f46,Tryd.func46,by kernel_rfl,by kernel_rfl⟩
theorem UA (W:World):(eaS W).has 271 f271:=⟨Tryd.f11,Tryd.func11,by kernel_rfl,by kernel_rfl⟩
theorem q17 {W:World}(hU:Lib.Utf8Tabs 0 1 W):aO (eaS W) 17 (aA G17):=XY (sb W) (q69 hU) (Wo W) (Xv W) (Xj W)
theorem VM {W:World}(hU:Lib.Utf8Tabs 0 1 W):aO (eaS W) 330 (aA Ik):=WP (sb W) (TL W)
theorem u56 {W:World}(hU:Lib.Utf8Tabs 0 1 W):fB (eaS W) 56 C56:=Yd (sb W) (XC W) (Ws W)
theorem Uq {W:World}(hU:Lib.Utf8Tabs 0 1 W):aO (eaS W) 346 (aA Ii):=Xu (sb W) (u56 hU) (Vx W)
theorem Vt {W:World}(hU:Lib.Utf8Tabs 0 1 W):fB (eaS W) 311 Hq:=Wu (sb W) (q17 hU) (VM hU) (Uq hU) (Vb W) (UI W)
theorem IZ {W:World}(hU:Lib.Utf8Tabs 0 1 W):fB (eaS W) 312 (qa (.int .i64) (.int .i64) uV):=WG (sb W) (UV W)
theorem q20 {W:World}(hU:Lib.Utf8Tabs 0 1 W):aO (eaS W) 20 (aA G20):=Yl (sb W) (q17 hU) (XU W)
theorem HY {W:World}(hU:Lib.Utf8Tabs 0 1 W):aO (eaS W) 298 (aA Dh):=Wh (sb W) (q20 hU) (Tj W)
theorem VO {W:World}(hU:Lib.Utf8Tabs 0 1 W):aO (eaS W) 337 (aA LG):=Xg (sb W) (HY hU) (Sv W)
theorem TT {W:World}(hU:Lib.Utf8Tabs 0 1 W):aO (eaS W) 336 (aA LP):=XP (sb W) (VO hU) (Ud W)
theorem VI {W:World}(hU:Lib.Utf8Tabs 0 1 W):aO (eaS W) 318 (aA IB):=XV (sb W) (TT hU) (HY hU) (Vf W)
theorem xN {W:World}(hU:Lib.Utf8Tabs 0 1 W):aO (eaS W) 296 (aA wU):=Xt (sb W) (VI hU) (TK W)
theorem Hg {W:World}(hU:Lib.Utf8Tabs 0 1 W):aO (eaS W) 278 (aA DW):=XO (sb W) (Vt hU) (IZ hU) (xN hU) (TE W)
theorem UX {W:World}(hU:Lib.Utf8Tabs 0 1 W):aO (eaS W) 281 (aA Jz):=XQ (sb W) (TM W)
theorem Tv {W:World}(hU:Lib.Utf8Tabs 0 1 W):aO (eaS W) 282 (aA Jc):=WB (sb W) (Ti W)
theorem SA {W:World}(hU:Lib.Utf8Tabs 0 1 W):aO (eaS W) 284 (aA LU):=VX (sb W) (VK W)
theorem Vu {W:World}(hU:Lib.Utf8Tabs 0 1 W):aO (eaS W) 276 (aA JW):=Xn (sb W) (Hg hU) (UX hU) (Tv hU) (SA hU) (LW W) (Cw W) (VQ W)
theorem VG {W:World}(hU:Lib.Utf8Tabs 0 1 W):aO (eaS W) 277 (aA MK):=WA (sb W) (UQ W)
theorem UZ {W:World}(hU:Lib.Utf8Tabs 0 1 W):aO (eaS W) 286 (aA Mr):=Xf (sb W) (Cw W) (VN W)
theorem q57 {W:World}(hU:Lib.Utf8Tabs 0 1 W):aO (eaS W) 57 (aA G57):=Yg (sb W) (Xc W)
theorem q58 {W:World}(hU:Lib.Utf8Tabs 0 1 W):aO (eaS W) 58 (aA G58):=Ye (sb W) (Wq W)
theorem q46 {W:World}(hU:Lib.Utf8Tabs 0 1 W):aO (eaS W) 46 (aA G46):=Yo (sb W) (q57 hU) (q58 hU) (Xa W)
theorem q19 {W:World}(hU:Lib.Utf8Tabs 0 1 W):aO (eaS W) 19 (aA G19):=Yt (sb W) (q46 hU) (Xz W)
theorem q21 {W:World}(hU:Lib.Utf8Tabs 0 1 W):aO (eaS W) 21 (aA G21):=Ym (sb W) (q19 hU) (Wx W)
theorem UK {W:World}(hU:Lib.Utf8Tabs 0 1 W):aO (eaS W) 299 (aA Lt):=WM (sb W) (q21 hU) (Tu W)
theorem Vp {W:World}(hU:Lib.Utf8Tabs 0 1 W):aO (eaS W) 317 (aA Mk):=Xo (sb W) (UK hU) (Ua W)
theorem UG {W:World}(hU:Lib.Utf8Tabs 0 1 W):aO (eaS W) 291 (aA IP):=Xd (sb W) (Vp hU) (SH W)
theorem UH {W:World}(hU:Lib.Utf8Tabs 0 1 W):aO (eaS W) 252 (aA Mo):=XK (sb W) (Ug W) (TQ W)
theorem Sw {W:World}(hU:Lib.Utf8Tabs 0 1 W):aO (eaS W) 321 (aA IQ):=Xp (sb W) (UH hU) (UC W)
theorem Uh {W:World}(hU:Lib.Utf8Tabs 0 1 W):aO (eaS W) 342 (aA Mf):=Wv (sb W) (Sw hU) (VS W)
theorem FW {W:World}(hU:Lib.Utf8Tabs 0 1 W):aO (eaS W) 324 (aA Dw):=Xb (sb W) (Uh hU) (VE W)
theorem Uu {W:World}(hU:Lib.Utf8Tabs 0 1 W):aO (eaS W) 303 (aA Lg):=WN (sb W) (xN hU) (FW hU) (Tq W)
theorem TS {W:World}(hU:Lib.Utf8Tabs 0 1 W):aO (eaS W) 316 (aA KR):=XM (sb W) (Ue W) (Sr W) (Ux W)
theorem TG {W:World}(hU:Lib.Utf8Tabs 0 1 W):aO (eaS W) 289 (aA Ig):=Xk (sb W) (TS hU) (Cw W) (LW W)
theorem UE {W:World}(hU:Lib.Utf8Tabs 0 1 W):aO (eaS W) 304 (aA Jf):=XA (sb W) (TG hU) (UB W)
theorem q79 {W:World}(hU:Lib.Utf8Tabs 0 1 W):aO (eaS W) 79 (aA G79):=Yr (sb W) (Xi W)
theorem q65 {W:World}(hU:Lib.Utf8Tabs 0 1 W):aO (eaS W) 65 (aA G65):=XX (sb W) (q79 hU) (WL W)
theorem Uj {W:World}(hU:Lib.Utf8Tabs 0 1 W):aO (eaS W) 305 (aA Nf):=Xw (sb W) (xN hU) (FW hU) (q65 hU) (SY W) (UO W) (Vz W)
end Go.Proofs.YtpgjilomblpcpaaDoor
