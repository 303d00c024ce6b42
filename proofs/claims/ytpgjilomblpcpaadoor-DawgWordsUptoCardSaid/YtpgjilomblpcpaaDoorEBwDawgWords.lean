/- What the law's function reaches, in this seat's program: each has the text that was read, and each means what was shown of it. Conditions: none. -/
import Derived.Test.YtpgjilomblpcpaaDoorEBss3
import Derived.Test.YtpgjilomblpcpaaDoorECs
import Derived.Test.YtpgjilomblpcpaaDoorEDb
import Derived.Test.YtpgjilomblpcpaaDoorEDf
import Derived.Test.YtpgjilomblpcpaaDoorEDj
import Derived.Test.YtpgjilomblpcpaaDoorEDpk
import Derived.Test.YtpgjilomblpcpaaDoorEK26
import Derived.Test.YtpgjilomblpcpaaDoorEDwd
import Derived.Test.YtpgjilomblpcpaaDoorEDwr
import Derived.Test.YtpgjilomblpcpaaDoorEK25
import Derived.Test.YtpgjilomblpcpaaDoorELx1
import Derived.Test.YtpgjilomblpcpaaDoorERu
import Derived.Test.YtpgjilomblpcpaaDoorEK24
set_option linter.unusedVariables false
set_option linter.unusedSimpArgs false
set_option maxRecDepth 100000
namespace Go.Proofs.YtpgjilomblpcpaaDoor
open Go.EA Go.EA.F
theorem WE (W:World):(eaS W).has 45 f45:=⟨Tryd.f61,Tryd.func61,by kernel_rfl,by kernel_rfl⟩
theorem VY (W:World):(eaS W).has 68 f68:=⟨Tryd.f86,Tryd.func86,by kernel_rfl,by kernel_rfl⟩
theorem VW (W:World):(eaS W).has 17 f17:=⟨Tryd.f32,Tryd.func32,by kernel_rfl,by kernel_rfl⟩
theorem TL (W:World):(eaS W).has 330 f330:=⟨Tryd.f79,Tryd.func79,by kernel_rfl,by kernel_rfl⟩
theorem Wz (W:World):(eaS W).has 75 f75:=⟨Tryd.f95,Tryd.func95,by kernel_rfl,by kernel_rfl⟩
theorem Wx (W:World):(eaS W).has 56 f56:=⟨Tryd.f70,Tryd.func70,by kernel_rfl,by kernel_rfl⟩
theorem Te (W:World):(eaS W).has 346 f346:=⟨Tryd.f100,Tryd.func100,by kernel_rfl,by kernel_rfl⟩
theorem UC (W:World):(eaS W).has 329 f329:=⟨Tryd.f78,Tryd.func78,by kernel_rfl,by kernel_rfl⟩
theorem SA (W:World):(eaS W).has 311 f311:=⟨Tryd.f53,Tryd.func53,by kernel_rfl,by kernel_rfl⟩
theorem Vk (W:World):(eaS W).has 312 f312:=⟨Tryd.f54,Tryd.func54,by kernel_rfl,by kernel_rfl⟩
theorem VJ (W:World):(eaS W).has 20 f20:=⟨Tryd.f66,Tryd.func66,by kernel_rfl,by kernel_rfl⟩
theorem UD (W:World):(eaS W).has 298 f298:=⟨Tryd.f39,Tryd.func39,by kernel_rfl,by kernel_rfl⟩
theorem UH (W:World):(eaS W).has 337 f337:=⟨Tryd.f89,Tryd.func89,by kernel_rfl,by kernel_rfl⟩
theorem TF (W:World):(eaS W).has 336 f336:=⟨Tryd.f88,Tryd.func88,by kernel_rfl,by kernel_rfl⟩
theorem Uq (W:World):(eaS W).has 318 f318:=⟨Tryd.f62,Tryd.func62,by kernel_rfl,by kernel_rfl⟩
theorem TB (W:World):(eaS W).has 296 f296:=⟨Tryd.f37,Tryd.func37,by kernel_rfl,by kernel_rfl⟩
theorem Vl (W:World):(eaS W).has 278 f278:=⟨Tryd.f18,Tryd.func18,by kernel_rfl,by kernel_rfl⟩
theorem Tu (W:World):(eaS W).has 281 f281:=⟨Tryd.f21,Tryd.func21,by kernel_rfl,by kernel_rfl⟩
theorem RQ (W:World):(eaS W).has 282 f282:=⟨Tryd.f22,Tryd.func22,by kernel_rfl,by kernel_rfl⟩
theorem Sa (W:World):(eaS W).has 284 f284:=⟨Tryd.f24,Tryd.func24,by kernel_rfl,by kernel_rfl⟩
theorem Vd (W:World):(eaS W).has 289 f289:=⟨Tryd.f29,Tryd.func29,by kernel_rfl,by kernel_rfl⟩
theorem RD (W:World):(eaS W).has 314 f314:=⟨Tryd.f57,Tryd.func57,by kernel_rfl,by kernel_rfl⟩
theorem UJ (W:World):(eaS W).has 276 f276:=⟨Tryd.f16,Tryd.func16,by kernel_rfl,by kernel_rfl⟩
theorem TQ (W:World):(eaS W).has 277 f277:=⟨Tryd.f17,Tryd.func17,by kernel_rfl,by kernel_rfl⟩
theorem UO (W:World):(eaS W).has 334 f334:=⟨Tryd.f84,Tryd.func84,by kernel_rfl,by kernel_rfl⟩
theorem Vo (W:World):(eaS W).has 335 f335:=⟨Tryd.f85,Tryd.func85,by kernel_rfl,by kernel_rfl⟩
theorem Ui (W:World):(eaS W).has 316 f316:=⟨Tryd.f59,Tryd.func59,by kernel_rfl,by kernel_rfl⟩
theorem Vp (W:World):(eaS W).has 292 f292:=⟨Tryd.f33,Tryd.func33,by kernel_rfl,by kernel_rfl⟩
theorem TJ (W:World):(eaS W).has 261 f261:=⟨Tryd.f107,Tryd.func107,by kernel_rfl,by kernel_rfl⟩
theorem Vf (W:World):(eaS W).has 252 f252:=⟨Tryd.f93,Tryd.func93,by kernel_rfl,by kernel_rfl⟩
theorem TW (W:World):(eaS W).has 321 f321:=⟨Tryd.f65,Tryd.func65,by kernel_rfl,by kernel_rfl⟩
theorem Uu (W:World):(eaS W).has 351 f351:=⟨Tryd.f111,Tryd.func111,by kernel_rfl,by kernel_rfl⟩
theorem UV (W:World):(eaS W).has 368 f368:=⟨Tryd.f128,Tryd.func128,by kernel_rfl,by kernel_rfl⟩
theorem Vm (W:World):(eaS W).has 362 f362:=⟨Tryd.f122,Tryd.func122,by kernel_rfl,by kernel_rfl⟩
theorem Tc (W:World):(eaS W).has 352 f352:=⟨Tryd.f112,Tryd.func112,by kernel_rfl,by kernel_rfl⟩
theorem Sm (W:World):(eaS W).has 348 f348:=⟨Tryd.f106,Tryd.func106,by kernel_rfl,by kernel_rfl⟩
theorem Ua (W:World):(eaS W).has 319 f319:=⟨Tryd.f63,Tryd.func63,by kernel_rfl,by kernel_rfl⟩
theorem Um (W:World):(eaS W).has 338 f338:=⟨Tryd.f90,Tryd.func90,by kernel_rfl,by kernel_rfl⟩
theorem RF (W:World):(eaS W).has 339 f339:=⟨Tryd.f91,Tryd.func91,by kernel_rfl,by kernel_rfl⟩
theorem UW (W:World):(eaS W).has 347 f347:=⟨Tryd.f105,Tryd.func105,by kernel_rfl,by kernel_rfl⟩
theorem Us (W:World):(eaS W).has 320 f320:=⟨Tryd.f64,Tryd.func64,by kernel_rfl,by kernel_rfl⟩
theorem Ti (W:World):(eaS W).has 340 f340:=⟨Tryd.f92,Tryd.func92,by kernel_rfl,by kernel_rfl⟩
theorem Vh (W:World):(eaS W).has 295 f295:=⟨Tryd.f36,Tryd.func36,by kernel_rfl,by kernel_rfl⟩
theorem Tw (W:World):(eaS W).has 302 f302:=⟨Tryd.f43,Tryd.func43,by kernel_rfl,by kernel_rfl⟩
theorem RS (W:World):(eaS W).has 306 f306:=⟨Tryd.f48,Tryd.func48,by kernel_rfl,by kernel_rfl⟩
theorem Un (W:World):(eaS W).has 273 f273:=⟨Tryd.f13,Tryd.func13,by kernel_rfl,by kernel_rfl⟩
theorem q17 {W:World}(hU:Lib.Utf8Tabs 0 1 W):aX (eaS W) 17 (aI G17):=Xp (sb W) (q69 hU) (WE W) (VY W) (VW W)
theorem UB {W:World}(hU:Lib.Utf8Tabs 0 1 W):aX (eaS W) 330 (aI Lh):=WA (sb W) (TL W)
theorem u56 {W:World}(hU:Lib.Utf8Tabs 0 1 W):bJ (eaS W) 56 C56:=Xi (sb W) (Wz W) (Wx W)
theorem Sv {W:World}(hU:Lib.Utf8Tabs 0 1 W):aX (eaS W) 346 (aI Ng):=VU (sb W) (u56 hU) (Te W)
theorem TT {W:World}(hU:Lib.Utf8Tabs 0 1 W):bJ (eaS W) 311 GR:=WK (sb W) (q17 hU) (UB hU) (Sv hU) (UC W) (SA W)
theorem Km {W:World}(hU:Lib.Utf8Tabs 0 1 W):bJ (eaS W) 312 (pO (.int .i64) (.int .i64) vX):=Xa (sb W) (Vk W)
theorem q20 {W:World}(hU:Lib.Utf8Tabs 0 1 W):aX (eaS W) 20 (aI G20):=Xo (sb W) (q17 hU) (VJ W)
theorem Iu {W:World}(hU:Lib.Utf8Tabs 0 1 W):aX (eaS W) 298 (aI Du):=Wy (sb W) (q20 hU) (UD W)
theorem Uj {W:World}(hU:Lib.Utf8Tabs 0 1 W):aX (eaS W) 337 (aI MK):=Wo (sb W) (Iu hU) (UH W)
theorem Tz {W:World}(hU:Lib.Utf8Tabs 0 1 W):aX (eaS W) 336 (aI Lg):=VF (sb W) (Uj hU) (TF W)
theorem Ir {W:World}(hU:Lib.Utf8Tabs 0 1 W):aX (eaS W) 318 (aI Dw):=Wu (sb W) (Tz hU) (Iu hU) (Uq W)
theorem RJ {W:World}(hU:Lib.Utf8Tabs 0 1 W):aX (eaS W) 296 (aI Nk):=VS (sb W) (Ir hU) (TB W)
theorem Ic {W:World}(hU:Lib.Utf8Tabs 0 1 W):aX (eaS W) 278 (aI Dv):=Wn (sb W) (TT hU) (Km hU) (RJ hU) (Vl W)
theorem UG {W:World}(hU:Lib.Utf8Tabs 0 1 W):aX (eaS W) 281 (aI Jr):=WT (sb W) (Tu W)
theorem Ul {W:World}(hU:Lib.Utf8Tabs 0 1 W):aX (eaS W) 282 (aI Je):=VL (sb W) (RQ W)
theorem Uo {W:World}(hU:Lib.Utf8Tabs 0 1 W):aX (eaS W) 284 (aI LG):=Vt (sb W) (Sa W)
theorem Sq {W:World}(hU:Lib.Utf8Tabs 0 1 W):aX (eaS W) 276 (aI JZ):=VR (sb W) (Ic hU) (UG hU) (Ul hU) (Uo hU) (Vd W) (RD W) (UJ W)
theorem Tk {W:World}(hU:Lib.Utf8Tabs 0 1 W):aX (eaS W) 277 (aI LJ):=Vz (sb W) (TQ W)
theorem UT {W:World}(hU:Lib.Utf8Tabs 0 1 W):aX (eaS W) 316 (aI NB):=VK (sb W) (UO W) (Vo W) (Ui W)
theorem Tj {W:World}(hU:Lib.Utf8Tabs 0 1 W):aX (eaS W) 292 (aI LC):=WH (sb W) (q17 hU) (UT hU) (Vp W)
theorem Vq {W:World}(hU:Lib.Utf8Tabs 0 1 W):aX (eaS W) 252 (aI Nf):=VH (sb W) (TJ W) (Vf W)
theorem wV {W:World}(hU:Lib.Utf8Tabs 0 1 W):aX (eaS W) 321 (aI Bl):=We (sb W) (Vq hU) (TW W)
theorem UZ {W:World}(hU:Lib.Utf8Tabs 0 1 W):bJ (eaS W) 351 Gw:=WP (sb W) (wV hU) (Uu W)
theorem Su {W:World}(hU:Lib.Utf8Tabs 0 1 W):bJ (eaS W) 368 Hq:=Xe (sb W) (UV W)
theorem Ia {W:World}(hU:Lib.Utf8Tabs 0 1 W):bJ (eaS W) 362 DU:=WN (sb W) (Su hU) (Vm W)
theorem LB {W:World}(hU:Lib.Utf8Tabs 0 1 W):bJ (eaS W) 352 Cz:=WF (sb W) (Ia hU) (wV hU) (Tc W)
theorem TI {W:World}(hU:Lib.Utf8Tabs 0 1 W):bJ (eaS W) 348 Hr:=WG (sb W) (UZ hU) (LB hU) (Sm W)
theorem UN {W:World}(hU:Lib.Utf8Tabs 0 1 W):aX (eaS W) 295 (aI Jm):=WR (sb W) (TI hU) (Ir hU) (Ua W) (Um W) (RF W) (UW W) (Us W) (Ti W) (Vh W)
theorem Sk {W:World}(hU:Lib.Utf8Tabs 0 1 W):aX (eaS W) 302 (aI KM):=WW (sb W) (u56 hU) (Tw W)
theorem Sz {W:World}(hU:Lib.Utf8Tabs 0 1 W):aX (eaS W) 306 (aI KG):=VG (sb W) (RS W)
end Go.Proofs.YtpgjilomblpcpaaDoor
