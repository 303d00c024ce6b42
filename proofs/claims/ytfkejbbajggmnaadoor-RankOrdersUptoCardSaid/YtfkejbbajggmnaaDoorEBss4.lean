/- This seat's program as abstract code; its tables; the calls of laws. Conditions: none. -/
import Derived.Test.YtfkejbbajggmnaaDoorEOrder
import Derived.Test.YtfkejbbajggmnaaDoorENorm2
import Derived.Test.YtfkejbbajggmnaaDoorEMean3
import Derived.Test.YtfkejbbajggmnaaDoorEK6
import Derived.Lib.ValidU
import Derived.Test.YtfkejbbajggmnaaDoorEK9
import Derived.Lib.RuneCount
import Derived.Shelf.Unicode.ValidAny
import Derived.Test.YtfkejbbajggmnaaDoorCards
import Derived.Test.YtfkejbbajggmnaaDoorTie
import Derived.Test.YtfkejbbajggmnaaDoorProg
import Derived.Shelf.Small.Strs
import Derived.Shelf.Utf8.RuneCount
import Derived.Shelf.Strings.RuneCount
import Derived.Shelf.Unicode.DecodeSlow
import Derived.Shelf.Unicode.DecodeAny
import Derived.WalkKit
import Derived.ProofKit
import Derived.OpenShut
import Derived.Deep.DeepHandedRow
import Derived.Lib.LaidTab
import Derived.Lib.LaidU8
import Derived.PinnedBridge
import Derived.Carry
import Derived.Test.YtfkejbbajggmnaaDoorEArgs
set_option linter.unusedVariables false
set_option linter.unusedSimpArgs false
set_option maxRecDepth 100000
namespace Go.Proofs
open Go.Shelf
def Tryd.lays197_ren:Go.Shelf.Ren:=⟨fun | 197=>50 | 260=>63 | n=>n,fun | 9=>9 | 21=>21 | 3=>3 | 4=>4 | 5=>5 | 105=>76 | 119=>104 | 0=>0 | 46=>81 | 139=>107 | 138=>106 | n=>n,fun | 3=>0 | 4=>1 | n=>n⟩
theorem Tryd.lays197:Go.Proofs.Lays.n197 Tryd.prog Tryd.lays197_ren:={
  mixed:=by kernel_rfl
  f197:=Tryd.func50.trans (congrArg some (by kernel_rfl))
  f260:=Tryd.func63.trans (congrArg some (by kernel_rfl))
  t0:=Tryd.underlying0
  a0:=Tryd.isAgg0
  z0:=Tryd.sizeOf0
  v0:=Tryd.zeroValue0
  t3:=Tryd.underlying3
  a3:=Tryd.isAgg3
  z3:=Tryd.sizeOf3
  v3:=Tryd.zeroValue3
  t4:=Tryd.underlying4
  a4:=Tryd.isAgg4
  z4:=Tryd.sizeOf4
  v4:=Tryd.zeroValue4
  t5:=Tryd.underlying5
  a5:=Tryd.isAgg5
  z5:=Tryd.sizeOf5
  v5:=Tryd.zeroValue5
  t9:=Tryd.underlying9
  a9:=Tryd.isAgg9
  z9:=Tryd.sizeOf9
  v9:=Tryd.zeroValue9
  t21:=Tryd.underlying21
  a21:=Tryd.isAgg21
  z21:=Tryd.sizeOf21
  v21:=Tryd.zeroValue21
  t46:=Tryd.underlying81
  a46:=Tryd.isAgg81
  z46:=Tryd.sizeOf81
  v46:=Tryd.zeroValue81
  t105:=Tryd.underlying76
  a105:=Tryd.isAgg76
  z105:=Tryd.sizeOf76
  v105:=Tryd.zeroValue76
  t119:=Tryd.underlying104
  a119:=Tryd.isAgg104
  z119:=Tryd.sizeOf104
  t138:=Tryd.underlying106
  a138:=Tryd.isAgg106
  z138:=Tryd.sizeOf106
  v138:=Tryd.zeroValue106
  t139:=Tryd.underlying107
  a139:=Tryd.isAgg107
  z139:=Tryd.sizeOf107
  v139:=Tryd.zeroValue107
  g3:=by kernel_rfl
  g4:=by kernel_rfl }
def Tryd.lays260_ren:Go.Shelf.Ren:=⟨fun | 260=>63 | n=>n,fun | 9=>9 | 21=>21 | 3=>3 | 4=>4 | 5=>5 | 105=>76 | 119=>104 | 0=>0 | 46=>81 | 139=>107 | 138=>106 | n=>n,fun | 3=>0 | 4=>1 | n=>n⟩
theorem Tryd.lays260:Go.Proofs.Lays.n260 Tryd.prog Tryd.lays260_ren:={
  mixed:=by kernel_rfl
  f260:=Tryd.func63.trans (congrArg some (by kernel_rfl))
  t0:=Tryd.underlying0
  a0:=Tryd.isAgg0
  z0:=Tryd.sizeOf0
  v0:=Tryd.zeroValue0
  t3:=Tryd.underlying3
  a3:=Tryd.isAgg3
  z3:=Tryd.sizeOf3
  v3:=Tryd.zeroValue3
  t4:=Tryd.underlying4
  a4:=Tryd.isAgg4
  z4:=Tryd.sizeOf4
  v4:=Tryd.zeroValue4
  t5:=Tryd.underlying5
  a5:=Tryd.isAgg5
  z5:=Tryd.sizeOf5
  v5:=Tryd.zeroValue5
  t9:=Tryd.underlying9
  a9:=Tryd.isAgg9
  z9:=Tryd.sizeOf9
  v9:=Tryd.zeroValue9
  t21:=Tryd.underlying21
  a21:=Tryd.isAgg21
  z21:=Tryd.sizeOf21
  v21:=Tryd.zeroValue21
  t46:=Tryd.underlying81
  a46:=Tryd.isAgg81
  z46:=Tryd.sizeOf81
  v46:=Tryd.zeroValue81
  t119:=Tryd.underlying104
  a119:=Tryd.isAgg104
  z119:=Tryd.sizeOf104
  t138:=Tryd.underlying106
  a138:=Tryd.isAgg106
  z138:=Tryd.sizeOf106
  v138:=Tryd.zeroValue106
  t139:=Tryd.underlying107
  a139:=Tryd.isAgg107
  z139:=Tryd.sizeOf107
  v139:=Tryd.zeroValue107
  g3:=by kernel_rfl
  g4:=by kernel_rfl }
end Go.Proofs
namespace Go.Proofs.YtfkejbbajggmnaaDoor
open Go.EA Go.ChangeShapes Go.WideShapes Go.ChangeAt Go.RowKit Go.Lib
open Go.ChangeMaps (open_string shut_string)
def eaN (f:FuncId):Option Nat:=match f with
  | 3=>some 370
  | 4=>some 371
  | 5=>some 372
  | 6=>some 373
  | 7=>some 374
  | 8=>some 375
  | 9=>some 376
  | 10=>some 377
  | 11=>some 378
  | 12=>some 379
  | 13=>some 380
  | 14=>some 381
  | 15=>some 382
  | 16=>some 383
  | 17=>some 384
  | 18=>some 385
  | 19=>some 386
  | 20=>some 387
  | 21=>some 388
  | 22=>some 389
  | 23=>some 390
  | 24=>some 391
  | 25=>some 392
  | 26=>some 393
  | 27=>some 394
  | 28=>some 20
  | 29=>some 21
  | 30=>some 395
  | 31=>some 396
  | 32=>some 397
  | 33=>some 251
  | 34=>some 328
  | 35=>some 252
  | 36=>some 398
  | 37=>some 17
  | 38=>some 19
  | 39=>some 399
  | 40=>some 400
  | 41=>some 401
  | 42=>some 345
  | 43=>some 261
  | 44=>some 45
  | 45=>some 46
  | 46=>some 402
  | 47=>some 403
  | 48=>some 350
  | 49=>some 68
  | 50=>some 69
  | 51=>some 57
  | 52=>some 58
  | 53=>some 404
  | 54=>some 405
  | 55=>some 406
  | 56=>some 407
  | 57=>some 408
  | 58=>some 409
  | 59=>some 410
  | 60=>some 411
  | 61=>some 360
  | 62=>some 361
  | 63=>some 81
  | 64=>some 412
  | 65=>some 364
  | 66=>some 365
  | 67=>some 413
  | 68=>some 414
  | 69=>some 415
  | 82=>some 96
  | 83=>some 97
  | 84=>some 98
  | 85=>some 100
  | _=>none
def eaR (i:Nat):FuncId:=match i with
  | 370=>3
  | 371=>4
  | 372=>5
  | 373=>6
  | 374=>7
  | 375=>8
  | 376=>9
  | 377=>10
  | 378=>11
  | 379=>12
  | 380=>13
  | 381=>14
  | 382=>15
  | 383=>16
  | 384=>17
  | 385=>18
  | 386=>19
  | 387=>20
  | 388=>21
  | 389=>22
  | 390=>23
  | 391=>24
  | 392=>25
  | 393=>26
  | 394=>27
  | 20=>28
  | 21=>29
  | 395=>30
  | 396=>31
  | 397=>32
  | 251=>33
  | 328=>34
  | 252=>35
  | 398=>36
  | 17=>37
  | 19=>38
  | 399=>39
  | 400=>40
  | 401=>41
  | 345=>42
  | 261=>43
  | 45=>44
  | 46=>45
  | 402=>46
  | 403=>47
  | 350=>48
  | 68=>49
  | 69=>50
  | 57=>51
  | 58=>52
  | 404=>53
  | 405=>54
  | 406=>55
  | 407=>56
  | 408=>57
  | 409=>58
  | 410=>59
  | 411=>60
  | 360=>61
  | 361=>62
  | 81=>63
  | 412=>64
  | 364=>65
  | 365=>66
  | 413=>67
  | 414=>68
  | 415=>69
  | 96=>82
  | 97=>83
  | 98=>84
  | 100=>85
  | _=>0
noncomputable def eaC:RCx:=⟨Tryd.prog,eaN⟩
noncomputable def eaS (W:World):SC:=⟨eaC,eaR,drawAlts (fun _=>true),fxOf W 0 1,0⟩
theorem eaOk (W:World):(eaS W).Ok:=⟨fun f i h=>by
  have h:eaN f=some i:=h
  unfold eaN at h
  split at h <;> cases h <;> rfl⟩
theorem eaMix (W:World):(eaS W).C.P.follows .mixedOrders=true:=by kernel_rfl
theorem sb (W:World):SB (eaS W):=⟨eaOk W,rfl,eaMix W⟩
theorem enters {P : Program} {f : FuncId} {fn : Func} (h : P.funcs[f]? = some fn) (hn : (fn.name == "runtime.NumGoroutine") = false) (hb : fn.body.isSome = true) (args : Array Value) (w : World) : (callFunc f args).run P w = .ok (.enter f args) w := by
  obtain ⟨b,hb⟩:=Option.isSome_iff_exists.1 hb
  simp only [callFunc,Sem.run_bind,run_program,Result.andThen_ok]
  rw [h]
  simp only [hn,hb]
  simp
theorem ent69 (W:World) (args:Array Value) (w:World):(callFunc ((eaS W).re 69) args).run (eaS W).C.P w=.ok (.enter ((eaS W).re 69) args) w:=enters (f:=50) Tryd.func50 (by kernel_rfl) (by kernel_rfl) args w
theorem q69 {W:World} (hU:Lib.Utf8Tabs 0 1 W):PrOk (eaS W) 69 (pureP gDec):=pDec_ok rfl (ent69 W) (ρl:=Tryd.lays197_ren) rfl Tryd.lays197 (tabs_of rfl hU)
theorem own:ownKnob Tryd.prog.godebug=none:=by kernel_rfl
theorem laidOut:laidOutB Tryd.prog=true:=by kernel_rfl
abbrev laid2 : List (String × DataW Unit) := [("unicode/utf8.acceptRanges", Rows.laid_unicode_utf8_acceptRanges), ("unicode/utf8.first", Rows.laid_unicode_utf8_first)]
theorem tabs {W:World} (hL:laidMet Tryd.prog laid2 W):Lib.Utf8Tabs 0 1 W:=
  utf8Tabs_of_reads (ρ:=Tryd.lays260_ren) Tryd.lays260 ⟨by kernel_rfl,by kernel_rfl,by kernel_rfl,by kernel_rfl,by kernel_rfl,by kernel_rfl,by kernel_rfl⟩
    (by rw [← Pinned.utf8First_eq];exact Lib.laidMet.reads hL (.tail _ (.head _)))
    (by have h:Rows.laid_unicode_utf8_acceptRanges=acceptData:=by kernel_rfl
        rw [← h];exact Lib.laidMet.reads hL (.head _))
noncomputable def laidWorld (os:Os):World:=
  let w0:=World.holding Tryd.prog os ⟨#[],#[],[]⟩
  { w0 with heap:=(w0.heap.modify 0 fun
      | .cells _ t frozen=>.cells ((List.range 256).map fun c=>Value.int .u8 (firstT c)).toArray t frozen
      | o=>o).modify 1 fun
      | .cells _ t frozen=>.cells ((List.range 32).map fun c=>Value.int .u8 (if c % 2=0 then accLo (c / 2) else accHi (c / 2):Nat)).toArray t frozen
      | o=>o }
set_option maxRecDepth 1000000 in
theorem laid_met (os:Os) (args:Array Value):laidMet Tryd.prog laid2 ((laidWorld os).forCall (fun _ _=>0) ⟨#[],args,[]⟩).memory:=
  laidMet_of_run' 8 (by kernel_rfl) (by kernel_rfl)
end Go.Proofs.YtfkejbbajggmnaaDoor
