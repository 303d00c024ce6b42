/- strings.Builder in this seat. Conditions: none. -/
import Derived.Test.YtkpahammkkfphaaDoorEBss7
import Derived.Test.YtkpahammkkfphaaDoorEJo
set_option linter.unusedVariables false
set_option linter.unusedSimpArgs false
set_option maxRecDepth 100000
namespace Go.Proofs
open Go.Shelf
def Tryd.lays166_ren:Go.Shelf.Ren:=⟨fun | 166=>21 | 169=>22 | 240=>37 | 276=>49 | n=>n,fun | 0=>0 | 3=>3 | 4=>4 | 5=>5 | 9=>9 | 20=>20 | 37=>51 | 70=>50 | 72=>53 | 75=>55 | 76=>56 | 80=>58 | 127=>73 | 164=>89 | n=>n,fun | n=>n⟩
theorem Tryd.lays166:Go.Proofs.Lays.n166 Tryd.prog Tryd.lays166_ren:={
 mixed:=by kernel_rfl
 f166:=Tryd.func21.trans (congrArg some (by kernel_rfl))
 f240:=Tryd.func37.trans (congrArg some (by kernel_rfl))
 f276:=Tryd.func49.trans (congrArg some (by kernel_rfl))
 t0:=Tryd.underlying0
 a0:=Tryd.isAgg0
 z0:=Tryd.sizeOf0
 v0:=Tryd.zeroValue0
 t3:=Tryd.underlying3
 a3:=Tryd.isAgg3
 z3:=Tryd.sizeOf3
 v3:=Tryd.zeroValue3
 t4:=Tryd.underlying4
 a4:=Tryd.isAgg4
 z4:=Tryd.sizeOf4
 v4:=Tryd.zeroValue4
 t9:=Tryd.underlying9
 a9:=Tryd.isAgg9
 z9:=Tryd.sizeOf9
 v9:=Tryd.zeroValue9
 t20:=Tryd.underlying20
 a20:=Tryd.isAgg20
 z20:=Tryd.sizeOf20
 v20:=Tryd.zeroValue20
 t37:=Tryd.underlying51
 a37:=Tryd.isAgg51
 z37:=Tryd.sizeOf51
 v37:=Tryd.zeroValue51
 t70:=Tryd.underlying50
 a70:=Tryd.isAgg50
 z70:=Tryd.sizeOf50
 v70:=Tryd.zeroValue50
 t72:=Tryd.underlying53
 a72:=Tryd.isAgg53
 z72:=Tryd.sizeOf53
 v72:=Tryd.zeroValue53
 t75:=Tryd.underlying55
 a75:=Tryd.isAgg55
 z75:=Tryd.sizeOf55
 v75:=Tryd.zeroValue55
 t164:=Tryd.underlying89
 a164:=Tryd.isAgg89
 z164:=Tryd.sizeOf89
 v164:=Tryd.zeroValue89 }
def Tryd.lays169_ren:Go.Shelf.Ren:=⟨fun | 166=>21 | 169=>22 | 240=>37 | 276=>49 | n=>n,fun | 0=>0 | 3=>3 | 4=>4 | 5=>5 | 9=>9 | 20=>20 | 37=>51 | 70=>50 | 72=>53 | 75=>55 | 76=>56 | 80=>58 | 127=>73 | 164=>89 | n=>n,fun | n=>n⟩
theorem Tryd.lays169:Go.Proofs.Lays.n169 Tryd.prog Tryd.lays169_ren:={
 mixed:=by kernel_rfl
 f169:=Tryd.func22.trans (congrArg some (by kernel_rfl))
 t0:=Tryd.underlying0
 a0:=Tryd.isAgg0
 z0:=Tryd.sizeOf0
 v0:=Tryd.zeroValue0
 t3:=Tryd.underlying3
 a3:=Tryd.isAgg3
 z3:=Tryd.sizeOf3
 v3:=Tryd.zeroValue3
 t9:=Tryd.underlying9
 a9:=Tryd.isAgg9
 z9:=Tryd.sizeOf9
 v9:=Tryd.zeroValue9
 t37:=Tryd.underlying51
 a37:=Tryd.isAgg51
 z37:=Tryd.sizeOf51
 v37:=Tryd.zeroValue51
 t70:=Tryd.underlying50
 a70:=Tryd.isAgg50
 z70:=Tryd.sizeOf50
 v70:=Tryd.zeroValue50
 t72:=Tryd.underlying53
 a72:=Tryd.isAgg53
 z72:=Tryd.sizeOf53
 v72:=Tryd.zeroValue53
 t127:=Tryd.underlying73
 a127:=Tryd.isAgg73
 z127:=Tryd.sizeOf73
 v127:=Tryd.zeroValue73 }
theorem Tryd.bx166:Builder.Extra Tryd.prog Tryd.lays166_ren:={
 sizeBuilder:=by kernel_rfl
 liesBuilder:=by kernel_rfl
 t5:=Tryd.underlying5
 a5:=Tryd.isAgg5
 z5:=Tryd.sizeOf5
 v5:=Tryd.zeroValue5
 infoByte:=by kernel_rfl
 cellsByte:=by kernel_rfl
 sizeByte:=by kernel_rfl
 neB5:=by decide }
theorem Tryd.bx169:Builder.Extra Tryd.prog Tryd.lays169_ren:={
 sizeBuilder:=by kernel_rfl
 liesBuilder:=by kernel_rfl
 t5:=Tryd.underlying5
 a5:=Tryd.isAgg5
 z5:=Tryd.sizeOf5
 v5:=Tryd.zeroValue5
 infoByte:=by kernel_rfl
 cellsByte:=by kernel_rfl
 sizeByte:=by kernel_rfl
 neB5:=by decide }
end Go.Proofs
namespace Go.Proofs.YtkpahammkkfphaaDoor
open Go.EA
theorem Kh (W:World) (args:Array Value) (w:World):(callFunc ((eaS W).re 61) args).run (eaS W).C.P w=.ok (.enter ((eaS W).re 61) args) w:=enters (f:=21) Tryd.func21 (by kernel_rfl) (by kernel_rfl) args w
theorem Ku (W:World) (args:Array Value) (w:World):(callFunc ((eaS W).re 62) args).run (eaS W).C.P w=.ok (.enter ((eaS W).re 62) args) w:=enters (f:=22) Tryd.func22 (by kernel_rfl) (by kernel_rfl) args w
theorem u61 {W:World}(hU:Lib.Utf8Tabs 0 1 W):jN (eaS W) 61 C61:=Ka (ρl:=Tryd.lays166_ren) rfl Tryd.lays166 Tryd.bx166 rfl (by kernel_rfl) (by kernel_rfl) (by kernel_rfl) (Kh W)
theorem u62 {W:World}(hU:Lib.Utf8Tabs 0 1 W):jN (eaS W) 62 C62:=Ju (ρl:=Tryd.lays169_ren) rfl Tryd.lays169 Tryd.bx169 rfl (Ku W)
end Go.Proofs.YtkpahammkkfphaaDoor
