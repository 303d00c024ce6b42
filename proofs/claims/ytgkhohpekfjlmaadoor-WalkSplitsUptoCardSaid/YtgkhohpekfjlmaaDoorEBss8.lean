/- This seat's program as abstract code; its tables; the calls of laws. Conditions: none. -/
import Derived.Test.YtgkhohpekfjlmaaDoorEMean6
import Derived.Test.YtgkhohpekfjlmaaDoorEK6
import Derived.Lib.ValidU
import Derived.Test.YtgkhohpekfjlmaaDoorEK9
import Derived.Test.YtgkhohpekfjlmaaDoorEOrder
import Derived.Lib.RuneCount
import Derived.Shelf.Unicode.ValidAny
import Derived.Test.YtgkhohpekfjlmaaDoorCards
import Derived.Test.YtgkhohpekfjlmaaDoorTie
import Derived.Test.YtgkhohpekfjlmaaDoorProg
import Derived.Shelf.Small.Strs
import Derived.Shelf.Utf8.RuneCount
import Derived.Shelf.Strings.RuneCount
import Derived.Shelf.Unicode.DecodeSlow
import Derived.Shelf.Unicode.DecodeAny
import Derived.WalkKit
import Derived.ProofKit
import Derived.OpenShut
import Derived.Deep.DeepHandedRow
import Derived.Lib.LaidTab
import Derived.Lib.LaidU8
import Derived.PinnedBridge
import Derived.Carry
import Derived.Test.YtgkhohpekfjlmaaDoorEArgs
set_option linter.unusedVariables false
set_option linter.unusedSimpArgs false
set_option maxRecDepth 100000
namespace Go.Proofs
open Go.Shelf
def Tryd.lays197_ren:Go.Shelf.Ren:=⟨fun | 197=>95 | 260=>103 | n=>n,fun | 9=>9 | 21=>21 | 3=>3 | 4=>4 | 5=>5 | 105=>115 | 119=>163 | 0=>0 | 46=>147 | 139=>166 | 138=>165 | n=>n,fun | 3=>1 | 4=>2 | n=>n⟩
theorem Tryd.lays197:Go.Proofs.Lays.n197 Tryd.prog Tryd.lays197_ren:={
 mixed:=by kernel_rfl
 f197:=Tryd.func95.trans (congrArg some (by kernel_rfl))
 f260:=Tryd.func103.trans (congrArg some (by kernel_rfl))
 t0:=Tryd.underlying0
 a0:=Tryd.isAgg0
 z0:=Tryd.sizeOf0
 v0:=Tryd.zeroValue0
 t3:=Tryd.underlying3
 a3:=Tryd.isAgg3
 z3:=Tryd.sizeOf3
 v3:=Tryd.zeroValue3
 t4:=Tryd.underlying4
 a4:=Tryd.isAgg4
 z4:=Tryd.sizeOf4
 v4:=Tryd.zeroValue4
 t5:=Tryd.underlying5
 a5:=Tryd.isAgg5
 z5:=Tryd.sizeOf5
 v5:=Tryd.zeroValue5
 t9:=Tryd.underlying9
 a9:=Tryd.isAgg9
 z9:=Tryd.sizeOf9
 v9:=Tryd.zeroValue9
 t21:=Tryd.underlying21
 a21:=Tryd.isAgg21
 z21:=Tryd.sizeOf21
 v21:=Tryd.zeroValue21
 t46:=Tryd.underlying147
 a46:=Tryd.isAgg147
 z46:=Tryd.sizeOf147
 v46:=Tryd.zeroValue147
 t105:=Tryd.underlying115
 a105:=Tryd.isAgg115
 z105:=Tryd.sizeOf115
 v105:=Tryd.zeroValue115
 t119:=Tryd.underlying163
 a119:=Tryd.isAgg163
 z119:=Tryd.sizeOf163
 t138:=Tryd.underlying165
 a138:=Tryd.isAgg165
 z138:=Tryd.sizeOf165
 v138:=Tryd.zeroValue165
 t139:=Tryd.underlying166
 a139:=Tryd.isAgg166
 z139:=Tryd.sizeOf166
 v139:=Tryd.zeroValue166
 g3:=by kernel_rfl
 g4:=by kernel_rfl }
def Tryd.lays260_ren:Go.Shelf.Ren:=⟨fun | 260=>103 | n=>n,fun | 9=>9 | 21=>21 | 3=>3 | 4=>4 | 5=>5 | 105=>115 | 119=>163 | 0=>0 | 46=>147 | 139=>166 | 138=>165 | n=>n,fun | 3=>1 | 4=>2 | n=>n⟩
theorem Tryd.lays260:Go.Proofs.Lays.n260 Tryd.prog Tryd.lays260_ren:={
 mixed:=by kernel_rfl
 f260:=Tryd.func103.trans (congrArg some (by kernel_rfl))
 t0:=Tryd.underlying0
 a0:=Tryd.isAgg0
 z0:=Tryd.sizeOf0
 v0:=Tryd.zeroValue0
 t3:=Tryd.underlying3
 a3:=Tryd.isAgg3
 z3:=Tryd.sizeOf3
 v3:=Tryd.zeroValue3
 t4:=Tryd.underlying4
 a4:=Tryd.isAgg4
 z4:=Tryd.sizeOf4
 v4:=Tryd.zeroValue4
 t5:=Tryd.underlying5
 a5:=Tryd.isAgg5
 z5:=Tryd.sizeOf5
 v5:=Tryd.zeroValue5
 t9:=Tryd.underlying9
 a9:=Tryd.isAgg9
 z9:=Tryd.sizeOf9
 v9:=Tryd.zeroValue9
 t21:=Tryd.underlying21
 a21:=Tryd.isAgg21
 z21:=Tryd.sizeOf21
 v21:=Tryd.zeroValue21
 t46:=Tryd.underlying147
 a46:=Tryd.isAgg147
 z46:=Tryd.sizeOf147
 v46:=Tryd.zeroValue147
 t119:=Tryd.underlying163
 a119:=Tryd.isAgg163
 z119:=Tryd.sizeOf163
 t138:=Tryd.underlying165
 a138:=Tryd.isAgg165
 z138:=Tryd.sizeOf165
 v138:=Tryd.zeroValue165
 t139:=Tryd.underlying166
 a139:=Tryd.isAgg166
 z139:=Tryd.sizeOf166
 v139:=Tryd.zeroValue166
 g3:=by kernel_rfl
 g4:=by kernel_rfl }
end Go.Proofs
namespace Go.Proofs.YtgkhohpekfjlmaaDoor
open Go.EA Go.ChangeShapes Go.WideShapes Go.ChangeAt Go.RowKit Go.Lib
open Go.ChangeMaps (open_string shut_string)
def eaN (f:FuncId):Option Nat:=match f with
 |3=>some 481
 |4=>some 482
 |5=>some 483
 |6=>some 484
 |7=>some 485
 |8=>some 486
 |9=>some 487
 |10=>some 488
 |11=>some 489
 |12=>some 490
 |13=>some 491
 |14=>some 492
 |15=>some 493
 |16=>some 494
 |17=>some 495
 |18=>some 496
 |19=>some 497
 |20=>some 498
 |21=>some 300
 |22=>some 32
 |23=>some 303
 |24=>some 65
 |25=>some 305
 |26=>some 499
 |27=>some 278
 |28=>some 291
 |29=>some 500
 |30=>some 501
 |31=>some 502
 |32=>some 280
 |33=>some 19
 |34=>some 290
 |35=>some 503
 |36=>some 504
 |37=>some 505
 |38=>some 506
 |39=>some 507
 |40=>some 508
 |41=>some 509
 |42=>some 296
 |43=>some 324
 |44=>some 79
 |45=>some 325
 |46=>some 66
 |47=>some 61
 |48=>some 62
 |49=>some 311
 |50=>some 312
 |51=>some 317
 |52=>some 17
 |53=>some 510
 |54=>some 289
 |55=>some 313
 |56=>some 46
 |57=>some 511
 |58=>some 284
 |59=>some 512
 |60=>some 513
 |61=>some 286
 |62=>some 33
 |63=>some 302
 |64=>some 514
 |65=>some 318
 |66=>some 342
 |67=>some 321
 |68=>some 343
 |69=>some 76
 |70=>some 80
 |71=>some 329
 |72=>some 330
 |73=>some 299
 |74=>some 45
 |75=>some 314
 |76=>some 316
 |77=>some 331
 |78=>some 332
 |79=>some 333
 |80=>some 57
 |81=>some 58
 |82=>some 53
 |83=>some 54
 |84=>some 55
 |85=>some 56
 |86=>some 336
 |87=>some 337
 |88=>some 298
 |89=>some 252
 |90=>some 82
 |91=>some 83
 |92=>some 346
 |93=>some 21
 |94=>some 68
 |95=>some 69
 |96=>some 334
 |97=>some 335
 |98=>some 18
 |99=>some 74
 |100=>some 75
 |101=>some 20
 |102=>some 261
 |103=>some 81
 |104=>some 37
 |117=>some 96
 |118=>some 97
 |119=>some 98
 |120=>some 282
 |121=>some 99
 |122=>some 100
 |_=>none
def eaR (i:Nat):FuncId:=match i with
 |481=>3
 |482=>4
 |483=>5
 |484=>6
 |485=>7
 |486=>8
 |487=>9
 |488=>10
 |489=>11
 |490=>12
 |491=>13
 |492=>14
 |493=>15
 |494=>16
 |495=>17
 |496=>18
 |497=>19
 |498=>20
 |300=>21
 |32=>22
 |303=>23
 |65=>24
 |305=>25
 |499=>26
 |278=>27
 |291=>28
 |500=>29
 |501=>30
 |502=>31
 |280=>32
 |19=>33
 |290=>34
 |503=>35
 |504=>36
 |505=>37
 |506=>38
 |507=>39
 |508=>40
 |509=>41
 |296=>42
 |324=>43
 |79=>44
 |325=>45
 |66=>46
 |61=>47
 |62=>48
 |311=>49
 |312=>50
 |317=>51
 |17=>52
 |510=>53
 |289=>54
 |313=>55
 |46=>56
 |511=>57
 |284=>58
 |512=>59
 |513=>60
 |286=>61
 |33=>62
 |302=>63
 |514=>64
 |318=>65
 |342=>66
 |321=>67
 |343=>68
 |76=>69
 |80=>70
 |329=>71
 |330=>72
 |299=>73
 |45=>74
 |314=>75
 |316=>76
 |331=>77
 |332=>78
 |333=>79
 |57=>80
 |58=>81
 |53=>82
 |54=>83
 |55=>84
 |56=>85
 |336=>86
 |337=>87
 |298=>88
 |252=>89
 |82=>90
 |83=>91
 |346=>92
 |21=>93
 |68=>94
 |69=>95
 |334=>96
 |335=>97
 |18=>98
 |74=>99
 |75=>100
 |20=>101
 |261=>102
 |81=>103
 |37=>104
 |96=>117
 |97=>118
 |98=>119
 |282=>120
 |99=>121
 |100=>122
 |_=>0
noncomputable def eaC:RCx:=⟨Tryd.prog,eaN⟩
noncomputable def eaS (W:World):SC:=⟨eaC,eaR,oZ (fun _=>true),OW W 1 2,0⟩
theorem ZX (W:World):(eaS W).Ok:=⟨fun f i h=>by
 have h:eaN f=some i:=h;unfold eaN at h;split at h <;> cases h <;> rfl⟩
theorem Zf (W:World):(eaS W).C.P.follows .mixedOrders=true:=by kernel_rfl
theorem sb (W:World):SB (eaS W):=⟨ZX W,rfl,Zf W⟩
theorem enters {P : Program} {f : FuncId} {fn : Func} (h : P.funcs[f]? = some fn) (hn : (fn.name == "runtime.NumGoroutine") = false) (hb : fn.body.isSome = true) (args : Array Value) (w : World) : (callFunc f args).run P w = .ok (.enter f args) w := by
 obtain⟨b,hb⟩:=Option.isSome_iff_exists.1 hb;simp only[callFunc,Sem.run_bind,run_program,Result.andThen_ok];rw[h];simp only[hn,hb];simp
theorem YI (W:World) (args:Array Value) (w:World):(callFunc ((eaS W).re 69) args).run (eaS W).C.P w=.ok (.enter ((eaS W).re 69) args) w:=enters (f:=95) Tryd.func95 (by kernel_rfl) (by kernel_rfl) args w
theorem q69 {W:World}(hU:Lib.Utf8Tabs 1 2 W):aN (eaS W) 69 (az tF):=RP rfl (YI W) (ρl:=Tryd.lays197_ren) rfl Tryd.lays197 (SH rfl hU)
theorem own:ownKnob Tryd.prog.godebug=none:=by kernel_rfl
theorem laidOut:laidOutB Tryd.prog=true:=by kernel_rfl
abbrev UA : List (String × DataW Unit) := [("unicode/utf8.acceptRanges", Rows.laid_unicode_utf8_acceptRanges), ("unicode/utf8.first", Rows.laid_unicode_utf8_first)]
theorem tabs {W:World}(hL:laidMet Tryd.prog UA W):Lib.Utf8Tabs 1 2 W:=
 utf8Tabs_of_reads (ρ:=Tryd.lays260_ren) Tryd.lays260 ⟨by kernel_rfl,by kernel_rfl,by kernel_rfl,by kernel_rfl,by kernel_rfl,by kernel_rfl,by kernel_rfl⟩
  (by rw[<- Pinned.utf8First_eq];exact Lib.laidMet.reads hL (.tail _ (.head _)))
  (by have h:Rows.laid_unicode_utf8_acceptRanges=acceptData:=by kernel_rfl
      rw[<- h];exact Lib.laidMet.reads hL (.head _))
noncomputable def pY (os:Os):World:=
 let w0:=World.holding Tryd.prog os ⟨#[],#[],[]⟩
 { w0 with heap:=(w0.heap.modify 1 fun
  |.cells _ t frozen=>.cells ((List.range 256).map fun c=>Value.int .u8 (firstT c)).toArray t frozen
  |o=>o).modify 2 fun
  |.cells _ t frozen=>.cells ((List.range 32).map fun c=>Value.int .u8 (if c % 2=0 then accLo (c / 2) else accHi (c / 2):Nat)).toArray t frozen
  |o=>o }
set_option maxRecDepth 1000000 in
theorem Ka (os:Os) (args:Array Value):laidMet Tryd.prog UA ((pY os).forCall (fun _ _=>0) ⟨#[],args,[]⟩).memory:=
 laidMet_of_run' 8 (by kernel_rfl) (by kernel_rfl)
end Go.Proofs.YtgkhohpekfjlmaaDoor
