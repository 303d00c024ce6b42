/- What the law's function reaches, in this seat's program: each has the text that was read, and each means what was shown of it. Conditions: none. -/
import Derived.Test.YtkpahammkkfphaaDoorEBss7
import Derived.Test.YtkpahammkkfphaaDoorEJo
import Derived.Test.YtkpahammkkfphaaDoorELw10
import Derived.Test.YtkpahammkkfphaaDoorERf
import Derived.Test.YtkpahammkkfphaaDoorERu
import Derived.Test.YtkpahammkkfphaaDoorESp1
import Derived.Test.YtkpahammkkfphaaDoorESp2
import Derived.Test.YtkpahammkkfphaaDoorESo7
set_option linter.unusedVariables false
set_option linter.unusedSimpArgs false
set_option maxRecDepth 100000
namespace Go.Proofs.YtkpahammkkfphaaDoor
open Go.EA Go.EA.F
theorem KJ (W:World):(eaS W).has 55 f55:=⟨Tryd.f42,Tryd.func42,by kernel_rfl,by kernel_rfl⟩
theorem KM (W:World):(eaS W).has 59 f59:=⟨Tryd.f43,Tryd.func43,by kernel_rfl,by kernel_rfl⟩
theorem Lm (W:World):(eaS W).has 35 f35:=⟨Tryd.f28,Tryd.func28,by kernel_rfl,by kernel_rfl⟩
theorem Ko (W:World):(eaS W).has 72 f72:=⟨Tryd.f39,Tryd.func39,by kernel_rfl,by kernel_rfl⟩
theorem Kw (W:World):(eaS W).has 50 f50:=⟨Tryd.f26,Tryd.func26,by kernel_rfl,by kernel_rfl⟩
theorem Li (W:World):(eaS W).has 27 f27:=⟨Tryd.f12,Tryd.func12,by kernel_rfl,by kernel_rfl⟩
theorem KG (W:World):(eaS W).has 26 f26:=⟨Tryd.f6,Tryd.func6,by kernel_rfl,by kernel_rfl⟩
theorem Lt (W:World):(eaS W).has 57 f57:=⟨Tryd.f35,Tryd.func35,by kernel_rfl,by kernel_rfl⟩
theorem Lh (W:World):(eaS W).has 58 f58:=⟨Tryd.f48,Tryd.func48,by kernel_rfl,by kernel_rfl⟩
theorem KH (W:World):(eaS W).has 46 f46:=⟨Tryd.f33,Tryd.func33,by kernel_rfl,by kernel_rfl⟩
theorem Lp (W:World):(eaS W).has 19 f19:=⟨Tryd.f17,Tryd.func17,by kernel_rfl,by kernel_rfl⟩
theorem KE (W:World):(eaS W).has 34 f34:=⟨Tryd.f34,Tryd.func34,by kernel_rfl,by kernel_rfl⟩
theorem Lv (W:World):(eaS W).has 51 f51:=⟨Tryd.f18,Tryd.func18,by kernel_rfl,by kernel_rfl⟩
theorem KU (W:World):(eaS W).has 36 f36:=⟨Tryd.f19,Tryd.func19,by kernel_rfl,by kernel_rfl⟩
theorem Ki (W:World):(eaS W).has 28 f28:=⟨Tryd.f7,Tryd.func7,by kernel_rfl,by kernel_rfl⟩
theorem KY (W:World):(eaS W).has 63 f63:=⟨Tryd.f23,Tryd.func23,by kernel_rfl,by kernel_rfl⟩
theorem Le (W:World):(eaS W).has 41 f41:=⟨Tryd.f10,Tryd.func10,by kernel_rfl,by kernel_rfl⟩
theorem Ls (W:World):(eaS W).has 52 f52:=⟨Tryd.f20,Tryd.func20,by kernel_rfl,by kernel_rfl⟩
theorem KN (W:World):(eaS W).has 73 f73:=⟨Tryd.f36,Tryd.func36,by kernel_rfl,by kernel_rfl⟩
theorem KV (W:World):(eaS W).has 39 f39:=⟨Tryd.f8,Tryd.func8,by kernel_rfl,by kernel_rfl⟩
theorem KI (W:World):(eaS W).has 31 f31:=⟨Tryd.f24,Tryd.func24,by kernel_rfl,by kernel_rfl⟩
theorem KA (W:World):(eaS W).has 42 f42:=⟨Tryd.f11,Tryd.func11,by kernel_rfl,by kernel_rfl⟩
theorem Kq (W:World):(eaS W).has 40 f40:=⟨Tryd.f9,Tryd.func9,by kernel_rfl,by kernel_rfl⟩
theorem Ky (W:World):(eaS W).has 10 f10:=⟨Tryd.f3,Tryd.func3,by kernel_rfl,by kernel_rfl⟩
theorem q55 {W:World}(hU:Lib.Utf8Tabs 0 1 W):aP (eaS W) 55 (aC G55):=Mk (sb W) (KJ W)
theorem q59 {W:World}(hU:Lib.Utf8Tabs 0 1 W):aP (eaS W) 59 (aC G59):=Mq (sb W) (KM W)
theorem q35 {W:World}(hU:Lib.Utf8Tabs 0 1 W):aP (eaS W) 35 (aC G35):=LU (sb W) (q55 hU) (q59 hU) (Lm W)
theorem q72 {W:World}(hU:Lib.Utf8Tabs 0 1 W):aP (eaS W) 72 (aC G72):=Mf (sb W) (Ko W)
theorem q50 {W:World}(hU:Lib.Utf8Tabs 0 1 W):aP (eaS W) 50 (aC G50):=Mg (sb W) (q35 hU) (q72 hU) (Kw W)
theorem q27 {W:World}(hU:Lib.Utf8Tabs 0 1 W):aP (eaS W) 27 (aC G27):=Mc (sb W) (q38 hU) (q50 hU) (Li W)
theorem q26 {W:World}(hU:Lib.Utf8Tabs 0 1 W):aP (eaS W) 26 (aC G26):=LQ (sb W) (q27 hU) (KG W)
theorem q57 {W:World}(hU:Lib.Utf8Tabs 0 1 W):aP (eaS W) 57 (aC G57):=LB (sb W) (Lt W)
theorem q58 {W:World}(hU:Lib.Utf8Tabs 0 1 W):aP (eaS W) 58 (aC G58):=Me (sb W) (Lh W)
theorem q46 {W:World}(hU:Lib.Utf8Tabs 0 1 W):aP (eaS W) 46 (aC G46):=LW (sb W) (q57 hU) (q58 hU) (KH W)
theorem q19 {W:World}(hU:Lib.Utf8Tabs 0 1 W):aP (eaS W) 19 (aC G19):=LK (sb W) (q46 hU) (Lp W)
theorem q34 {W:World}(hU:Lib.Utf8Tabs 0 1 W):aP (eaS W) 34 (aC G34):=Mi (sb W) (q57 hU) (q58 hU) (KE W)
theorem q51 {W:World}(hU:Lib.Utf8Tabs 0 1 W):aP (eaS W) 51 (aC G51):=LV (sb W) (q34 hU) (Lv W)
theorem q36 {W:World}(hU:Lib.Utf8Tabs 0 1 W):aP (eaS W) 36 (aC G36):=LM (sb W) (q57 hU) (KU W)
theorem q28 {W:World}(hU:Lib.Utf8Tabs 0 1 W):aP (eaS W) 28 (aC G28):=LX (sb W) (q19 hU) (q51 hU) (q36 hU) (Ki W)
theorem q63 {W:World}(hU:Lib.Utf8Tabs 0 1 W):aP (eaS W) 63 (aC G63):=Md (sb W) (KY W)
theorem q41 {W:World}(hU:Lib.Utf8Tabs 0 1 W):aP (eaS W) 41 (aC G41):=LP (sb W) (q27 hU) (q63 hU) (Le W)
theorem q39 {W:World}(hU:Lib.Utf8Tabs 0 1 W):aP (eaS W) 39 (aC G39):=Ml (sb W) (u61 hU) (u62 hU) (q41 hU) (Ls W) (KN W) (KV W)
theorem q31 {W:World}(hU:Lib.Utf8Tabs 0 1 W):aP (eaS W) 31 (aC G31):=Ma (sb W) (KI W)
theorem q42 {W:World}(hU:Lib.Utf8Tabs 0 1 W):aP (eaS W) 42 (aC G42):=Mr (sb W) (q28 hU) (q31 hU) (KA W)
theorem q40 {W:World}(hU:Lib.Utf8Tabs 0 1 W):aP (eaS W) 40 (aC G40):=LJ (sb W) (q42 hU) (Kq W)
end Go.Proofs.YtkpahammkkfphaaDoor
