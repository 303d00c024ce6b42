/- This seat's program as abstract code; its tables; the calls of laws. Conditions: none. -/
import Derived.Test.YtpgjilomblpcpaaDoorEMean6
import Derived.Test.YtpgjilomblpcpaaDoorEK6
import Derived.Lib.ValidU
import Derived.Test.YtpgjilomblpcpaaDoorEK9
import Derived.Test.YtpgjilomblpcpaaDoorEOrder
import Derived.Lib.RuneCount
import Derived.Shelf.Unicode.ValidAny
import Derived.Test.YtpgjilomblpcpaaDoorCards
import Derived.Test.YtpgjilomblpcpaaDoorTie
import Derived.Test.YtpgjilomblpcpaaDoorProg
import Derived.Shelf.Small.Strs
import Derived.Shelf.Utf8.RuneCount
import Derived.Shelf.Strings.RuneCount
import Derived.Shelf.Unicode.DecodeSlow
import Derived.Shelf.Unicode.DecodeAny
import Derived.WalkKit
import Derived.ProofKit
import Derived.OpenShut
import Derived.Deep.DeepHandedRow
import Derived.Lib.LaidTab
import Derived.Lib.LaidU8
import Derived.PinnedBridge
import Derived.Carry
import Derived.Test.YtpgjilomblpcpaaDoorEArgs
set_option linter.unusedVariables false
set_option linter.unusedSimpArgs false
set_option maxRecDepth 100000
namespace Go.Proofs
open Go.Shelf
def Tryd.lays197_ren:Go.Shelf.Ren:=⟨fun | 197=>87 | 260=>104 | n=>n,fun | 9=>9 | 21=>21 | 3=>3 | 4=>4 | 5=>5 | 105=>127 | 119=>155 | 0=>0 | 46=>149 | 139=>158 | 138=>157 | n=>n,fun | 3=>0 | 4=>1 | n=>n⟩
theorem Tryd.lays197:Go.Proofs.Lays.n197 Tryd.prog Tryd.lays197_ren:={
 mixed:=by kernel_rfl
 f197:=Tryd.func87.trans (congrArg some (by kernel_rfl))
 f260:=Tryd.func104.trans (congrArg some (by kernel_rfl))
 t0:=Tryd.underlying0
 a0:=Tryd.isAgg0
 z0:=Tryd.sizeOf0
 v0:=Tryd.zeroValue0
 t3:=Tryd.underlying3
 a3:=Tryd.isAgg3
 z3:=Tryd.sizeOf3
 v3:=Tryd.zeroValue3
 t4:=Tryd.underlying4
 a4:=Tryd.isAgg4
 z4:=Tryd.sizeOf4
 v4:=Tryd.zeroValue4
 t5:=Tryd.underlying5
 a5:=Tryd.isAgg5
 z5:=Tryd.sizeOf5
 v5:=Tryd.zeroValue5
 t9:=Tryd.underlying9
 a9:=Tryd.isAgg9
 z9:=Tryd.sizeOf9
 v9:=Tryd.zeroValue9
 t21:=Tryd.underlying21
 a21:=Tryd.isAgg21
 z21:=Tryd.sizeOf21
 v21:=Tryd.zeroValue21
 t46:=Tryd.underlying149
 a46:=Tryd.isAgg149
 z46:=Tryd.sizeOf149
 v46:=Tryd.zeroValue149
 t105:=Tryd.underlying127
 a105:=Tryd.isAgg127
 z105:=Tryd.sizeOf127
 v105:=Tryd.zeroValue127
 t119:=Tryd.underlying155
 a119:=Tryd.isAgg155
 z119:=Tryd.sizeOf155
 t138:=Tryd.underlying157
 a138:=Tryd.isAgg157
 z138:=Tryd.sizeOf157
 v138:=Tryd.zeroValue157
 t139:=Tryd.underlying158
 a139:=Tryd.isAgg158
 z139:=Tryd.sizeOf158
 v139:=Tryd.zeroValue158
 g3:=by kernel_rfl
 g4:=by kernel_rfl }
def Tryd.lays260_ren:Go.Shelf.Ren:=⟨fun | 260=>104 | n=>n,fun | 9=>9 | 21=>21 | 3=>3 | 4=>4 | 5=>5 | 105=>127 | 119=>155 | 0=>0 | 46=>149 | 139=>158 | 138=>157 | n=>n,fun | 3=>0 | 4=>1 | n=>n⟩
theorem Tryd.lays260:Go.Proofs.Lays.n260 Tryd.prog Tryd.lays260_ren:={
 mixed:=by kernel_rfl
 f260:=Tryd.func104.trans (congrArg some (by kernel_rfl))
 t0:=Tryd.underlying0
 a0:=Tryd.isAgg0
 z0:=Tryd.sizeOf0
 v0:=Tryd.zeroValue0
 t3:=Tryd.underlying3
 a3:=Tryd.isAgg3
 z3:=Tryd.sizeOf3
 v3:=Tryd.zeroValue3
 t4:=Tryd.underlying4
 a4:=Tryd.isAgg4
 z4:=Tryd.sizeOf4
 v4:=Tryd.zeroValue4
 t5:=Tryd.underlying5
 a5:=Tryd.isAgg5
 z5:=Tryd.sizeOf5
 v5:=Tryd.zeroValue5
 t9:=Tryd.underlying9
 a9:=Tryd.isAgg9
 z9:=Tryd.sizeOf9
 v9:=Tryd.zeroValue9
 t21:=Tryd.underlying21
 a21:=Tryd.isAgg21
 z21:=Tryd.sizeOf21
 v21:=Tryd.zeroValue21
 t46:=Tryd.underlying149
 a46:=Tryd.isAgg149
 z46:=Tryd.sizeOf149
 v46:=Tryd.zeroValue149
 t119:=Tryd.underlying155
 a119:=Tryd.isAgg155
 z119:=Tryd.sizeOf155
 t138:=Tryd.underlying157
 a138:=Tryd.isAgg157
 z138:=Tryd.sizeOf157
 v138:=Tryd.zeroValue157
 t139:=Tryd.underlying158
 a139:=Tryd.isAgg158
 z139:=Tryd.sizeOf158
 v139:=Tryd.zeroValue158
 g3:=by kernel_rfl
 g4:=by kernel_rfl }
end Go.Proofs
namespace Go.Proofs.YtpgjilomblpcpaaDoor
open Go.EA Go.ChangeShapes Go.WideShapes Go.ChangeAt Go.RowKit Go.Lib
open Go.ChangeMaps (open_string shut_string)
def eaN (f:FuncId):Option Nat:=match f with
 |3=>some 263
 |4=>some 264
 |5=>some 265
 |6=>some 266
 |7=>some 267
 |8=>some 268
 |9=>some 269
 |10=>some 270
 |11=>some 271
 |12=>some 272
 |13=>some 273
 |14=>some 274
 |15=>some 275
 |16=>some 276
 |17=>some 277
 |18=>some 278
 |19=>some 279
 |20=>some 280
 |21=>some 281
 |22=>some 282
 |23=>some 283
 |24=>some 284
 |25=>some 285
 |26=>some 286
 |27=>some 287
 |28=>some 288
 |29=>some 289
 |30=>some 290
 |31=>some 291
 |32=>some 17
 |33=>some 292
 |34=>some 293
 |35=>some 294
 |36=>some 295
 |37=>some 296
 |38=>some 297
 |39=>some 298
 |40=>some 299
 |41=>some 300
 |42=>some 301
 |43=>some 302
 |44=>some 303
 |45=>some 304
 |46=>some 305
 |47=>some 65
 |48=>some 306
 |49=>some 307
 |50=>some 308
 |51=>some 309
 |52=>some 310
 |53=>some 311
 |54=>some 312
 |55=>some 19
 |56=>some 313
 |57=>some 314
 |58=>some 315
 |59=>some 316
 |60=>some 317
 |61=>some 45
 |62=>some 318
 |63=>some 319
 |64=>some 320
 |65=>some 321
 |66=>some 20
 |67=>some 21
 |68=>some 322
 |69=>some 323
 |70=>some 56
 |71=>some 324
 |72=>some 325
 |73=>some 79
 |74=>some 326
 |75=>some 327
 |76=>some 251
 |77=>some 328
 |78=>some 329
 |79=>some 330
 |80=>some 46
 |81=>some 331
 |82=>some 332
 |83=>some 333
 |84=>some 334
 |85=>some 335
 |86=>some 68
 |87=>some 69
 |88=>some 336
 |89=>some 337
 |90=>some 338
 |91=>some 339
 |92=>some 340
 |93=>some 252
 |94=>some 341
 |95=>some 75
 |96=>some 342
 |97=>some 343
 |98=>some 344
 |99=>some 345
 |100=>some 346
 |101=>some 57
 |102=>some 58
 |103=>some 18
 |104=>some 81
 |105=>some 347
 |106=>some 348
 |107=>some 261
 |108=>some 349
 |109=>some 350
 |110=>some 37
 |111=>some 351
 |112=>some 352
 |113=>some 353
 |114=>some 354
 |115=>some 355
 |116=>some 356
 |117=>some 357
 |118=>some 358
 |119=>some 359
 |120=>some 360
 |121=>some 361
 |122=>some 362
 |123=>some 363
 |124=>some 364
 |125=>some 365
 |126=>some 366
 |127=>some 367
 |128=>some 368
 |129=>some 369
 |142=>some 96
 |143=>some 97
 |144=>some 98
 |145=>some 100
 |_=>none
def eaR (i:Nat):FuncId:=match i with
 |263=>3
 |264=>4
 |265=>5
 |266=>6
 |267=>7
 |268=>8
 |269=>9
 |270=>10
 |271=>11
 |272=>12
 |273=>13
 |274=>14
 |275=>15
 |276=>16
 |277=>17
 |278=>18
 |279=>19
 |280=>20
 |281=>21
 |282=>22
 |283=>23
 |284=>24
 |285=>25
 |286=>26
 |287=>27
 |288=>28
 |289=>29
 |290=>30
 |291=>31
 |17=>32
 |292=>33
 |293=>34
 |294=>35
 |295=>36
 |296=>37
 |297=>38
 |298=>39
 |299=>40
 |300=>41
 |301=>42
 |302=>43
 |303=>44
 |304=>45
 |305=>46
 |65=>47
 |306=>48
 |307=>49
 |308=>50
 |309=>51
 |310=>52
 |311=>53
 |312=>54
 |19=>55
 |313=>56
 |314=>57
 |315=>58
 |316=>59
 |317=>60
 |45=>61
 |318=>62
 |319=>63
 |320=>64
 |321=>65
 |20=>66
 |21=>67
 |322=>68
 |323=>69
 |56=>70
 |324=>71
 |325=>72
 |79=>73
 |326=>74
 |327=>75
 |251=>76
 |328=>77
 |329=>78
 |330=>79
 |46=>80
 |331=>81
 |332=>82
 |333=>83
 |334=>84
 |335=>85
 |68=>86
 |69=>87
 |336=>88
 |337=>89
 |338=>90
 |339=>91
 |340=>92
 |252=>93
 |341=>94
 |75=>95
 |342=>96
 |343=>97
 |344=>98
 |345=>99
 |346=>100
 |57=>101
 |58=>102
 |18=>103
 |81=>104
 |347=>105
 |348=>106
 |261=>107
 |349=>108
 |350=>109
 |37=>110
 |351=>111
 |352=>112
 |353=>113
 |354=>114
 |355=>115
 |356=>116
 |357=>117
 |358=>118
 |359=>119
 |360=>120
 |361=>121
 |362=>122
 |363=>123
 |364=>124
 |365=>125
 |366=>126
 |367=>127
 |368=>128
 |369=>129
 |96=>142
 |97=>143
 |98=>144
 |100=>145
 |_=>0
noncomputable def eaC:RCx:=⟨Tryd.prog,eaN⟩
noncomputable def eaS (W:World):SC:=⟨eaC,eaR,oQ (fun _=>true),Ju W 0 1,0⟩
theorem Xu (W:World):(eaS W).Ok:=⟨fun f i h=>by
 have h:eaN f=some i:=h;unfold eaN at h;split at h <;> cases h <;> rfl⟩
theorem WX (W:World):(eaS W).C.P.follows .mixedOrders=true:=by kernel_rfl
theorem sb (W:World):SB (eaS W):=⟨Xu W,rfl,WX W⟩
theorem enters {P : Program} {f : FuncId} {fn : Func} (h : P.funcs[f]? = some fn) (hn : (fn.name == "runtime.NumGoroutine") = false) (hb : fn.body.isSome = true) (args : Array Value) (w : World) : (callFunc f args).run P w = .ok (.enter f args) w := by
 obtain⟨b,hb⟩:=Option.isSome_iff_exists.1 hb;simp only[callFunc,Sem.run_bind,run_program,Result.andThen_ok];rw[h];simp only[hn,hb];simp
theorem WI (W:World) (args:Array Value) (w:World):(callFunc ((eaS W).re 69) args).run (eaS W).C.P w=.ok (.enter ((eaS W).re 69) args) w:=enters (f:=87) Tryd.func87 (by kernel_rfl) (by kernel_rfl) args w
theorem q69 {W:World}(hU:Lib.Utf8Tabs 0 1 W):aX (eaS W) 69 (aI uF):=Qb rfl (WI W) (ρl:=Tryd.lays197_ren) rfl Tryd.lays197 (Pp rfl hU)
theorem own:ownKnob Tryd.prog.godebug=none:=by kernel_rfl
theorem laidOut:laidOutB Tryd.prog=true:=by kernel_rfl
abbrev Rl : List (String × DataW Unit) := [("unicode/utf8.acceptRanges", Rows.laid_unicode_utf8_acceptRanges), ("unicode/utf8.first", Rows.laid_unicode_utf8_first)]
theorem tabs {W:World}(hL:laidMet Tryd.prog Rl W):Lib.Utf8Tabs 0 1 W:=
 utf8Tabs_of_reads (ρ:=Tryd.lays260_ren) Tryd.lays260 ⟨by kernel_rfl,by kernel_rfl,by kernel_rfl,by kernel_rfl,by kernel_rfl,by kernel_rfl,by kernel_rfl⟩
  (by rw[<- Pinned.utf8First_eq];exact Lib.laidMet.reads hL (.tail _ (.head _)))
  (by have h:Rows.laid_unicode_utf8_acceptRanges=acceptData:=by kernel_rfl
      rw[<- h];exact Lib.laidMet.reads hL (.head _))
noncomputable def qg (os:Os):World:=
 let w0:=World.holding Tryd.prog os ⟨#[],#[],[]⟩
 { w0 with heap:=(w0.heap.modify 0 fun
  |.cells _ t frozen=>.cells ((List.range 256).map fun c=>Value.int .u8 (firstT c)).toArray t frozen
  |o=>o).modify 1 fun
  |.cells _ t frozen=>.cells ((List.range 32).map fun c=>Value.int .u8 (if c % 2=0 then accLo (c / 2) else accHi (c / 2):Nat)).toArray t frozen
  |o=>o }
set_option maxRecDepth 1000000 in
theorem LW (os:Os) (args:Array Value):laidMet Tryd.prog Rl ((qg os).forCall (fun _ _=>0) ⟨#[],args,[]⟩).memory:=
 laidMet_of_run' 8 (by kernel_rfl) (by kernel_rfl)
end Go.Proofs.YtpgjilomblpcpaaDoor
