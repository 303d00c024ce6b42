/- strings.Join in this seat. Conditions: none. -/
import Derived.Test.YtgkhohpekfjlmaaDoorEBss8
import Derived.Test.YtgkhohpekfjlmaaDoorEPJ
import Derived.Shelf.Strings.OnBuilder
set_option linter.unusedVariables false
set_option linter.unusedSimpArgs false
set_option maxRecDepth 100000
namespace Go.Proofs
open Go.Shelf
def Tryd.lays156_ren:Go.Shelf.Ren:=⟨fun | 156=>26 | 165=>46 | 166=>47 | 169=>48 | 240=>69 | 241=>70 | 276=>90 | 277=>91 | n=>n,fun | 0=>0 | 3=>3 | 4=>4 | 9=>9 | 20=>20 | 31=>38 | 37=>89 | 70=>88 | 72=>91 | 75=>94 | 76=>95 | 80=>97 | 127=>130 | 164=>153 | 5=>5 | n=>n,fun | n=>n⟩
theorem Tryd.lays156:Go.Proofs.Lays.n156 Tryd.prog Tryd.lays156_ren:={
 mixed:=by kernel_rfl
 f156:=Tryd.func26.trans (congrArg some (by kernel_rfl))
 f165:=Tryd.func46.trans (congrArg some (by kernel_rfl))
 f166:=Tryd.func47.trans (congrArg some (by kernel_rfl))
 f169:=Tryd.func48.trans (congrArg some (by kernel_rfl))
 f240:=Tryd.func69.trans (congrArg some (by kernel_rfl))
 f241:=Tryd.func70.trans (congrArg some (by kernel_rfl))
 f276:=Tryd.func90.trans (congrArg some (by kernel_rfl))
 f277:=Tryd.func91.trans (congrArg some (by kernel_rfl))
 t0:=Tryd.underlying0
 a0:=Tryd.isAgg0
 z0:=Tryd.sizeOf0
 v0:=Tryd.zeroValue0
 t3:=Tryd.underlying3
 a3:=Tryd.isAgg3
 z3:=Tryd.sizeOf3
 v3:=Tryd.zeroValue3
 t4:=Tryd.underlying4
 a4:=Tryd.isAgg4
 z4:=Tryd.sizeOf4
 v4:=Tryd.zeroValue4
 t9:=Tryd.underlying9
 a9:=Tryd.isAgg9
 z9:=Tryd.sizeOf9
 v9:=Tryd.zeroValue9
 t20:=Tryd.underlying20
 a20:=Tryd.isAgg20
 z20:=Tryd.sizeOf20
 v20:=Tryd.zeroValue20
 t31:=Tryd.underlying38
 a31:=Tryd.isAgg38
 z31:=Tryd.sizeOf38
 v31:=Tryd.zeroValue38
 t37:=Tryd.underlying89
 a37:=Tryd.isAgg89
 z37:=Tryd.sizeOf89
 v37:=Tryd.zeroValue89
 t70:=Tryd.underlying88
 a70:=Tryd.isAgg88
 z70:=Tryd.sizeOf88
 v70:=Tryd.zeroValue88
 t72:=Tryd.underlying91
 a72:=Tryd.isAgg91
 z72:=Tryd.sizeOf91
 v72:=Tryd.zeroValue91
 t75:=Tryd.underlying94
 a75:=Tryd.isAgg94
 z75:=Tryd.sizeOf94
 v75:=Tryd.zeroValue94
 t76:=Tryd.underlying95
 a76:=Tryd.isAgg95
 z76:=Tryd.sizeOf95
 v76:=Tryd.zeroValue95
 t127:=Tryd.underlying130
 a127:=Tryd.isAgg130
 z127:=Tryd.sizeOf130
 v127:=Tryd.zeroValue130
 t164:=Tryd.underlying153
 a164:=Tryd.isAgg153
 z164:=Tryd.sizeOf153
 v164:=Tryd.zeroValue153 }
theorem Tryd.bx:Builder.Extra Tryd.prog Tryd.lays156_ren:={
 sizeBuilder:=by kernel_rfl
 liesBuilder:=by kernel_rfl
 t5:=Tryd.underlying5
 a5:=Tryd.isAgg5
 z5:=Tryd.sizeOf5
 v5:=Tryd.zeroValue5
 infoByte:=by kernel_rfl
 cellsByte:=by kernel_rfl
 sizeByte:=by kernel_rfl
 neB5:=by decide }
end Go.Proofs
namespace Go.Proofs.YtgkhohpekfjlmaaDoor
open Go.EA
theorem UQ (W:World) (args:Array Value) (w:World):(callFunc ((eaS W).re 499) args).run (eaS W).C.P w=.ok (.enter ((eaS W).re 499) args) w:=enters (f:=26) Tryd.func26 (by kernel_rfl) (by kernel_rfl) args w
theorem VH (W:World):aN (eaS W) 499 (az IX):=XX rfl (UQ W) (fun a c sep w=>Any.strings_Join_none Tryd.lays156 Tryd.bx a c sep w) (fun bk o c xs sep w h1 h2 h3 h4 h5=>Any.strings_Join Tryd.lays156 Tryd.bx bk o c xs sep w h1 h2 h3 h4 h5)
end Go.Proofs.YtgkhohpekfjlmaaDoor
