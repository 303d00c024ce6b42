/- This seat's program as abstract code; its tables; the calls of laws. Conditions: none. -/
import Derived.Test.YtmfjbaepgfdfpaaDoorEPrim2
import Derived.Test.YtmfjbaepgfdfpaaDoorEK6
import Derived.Test.YtmfjbaepgfdfpaaDoorCards
import Derived.Test.YtmfjbaepgfdfpaaDoorTie
import Derived.Test.YtmfjbaepgfdfpaaDoorProg
import Derived.Shelf.Small.Strs
import Derived.Shelf.Utf8.RuneCount
import Derived.Shelf.Strings.RuneCount
import Derived.Shelf.Unicode.DecodeSlow
import Derived.Shelf.Unicode.DecodeAny
import Derived.Shelf.Unicode.ValidAny
import Derived.WalkKit
import Derived.ProofKit
import Derived.OpenShut
import Derived.Deep.DeepHandedRow
import Derived.Lib.LaidTab
import Derived.Lib.LaidU8
import Derived.PinnedBridge
import Derived.Carry
import Derived.Test.YtmfjbaepgfdfpaaDoorEArgs
set_option linter.unusedVariables false
set_option linter.unusedSimpArgs false
set_option maxRecDepth 100000
namespace Go.Proofs
open Go.Shelf
def Tryd.lays197_ren:Go.Shelf.Ren:=⟨fun | 197=>73 | 260=>83 | n=>n,fun | 9=>9 | 21=>21 | 3=>3 | 4=>4 | 5=>5 | 105=>97 | 119=>104 | 0=>0 | 46=>108 | 139=>107 | 138=>106 | n=>n,fun | 3=>0 | 4=>1 | n=>n⟩
theorem Tryd.lays197:Go.Proofs.Lays.n197 Tryd.prog Tryd.lays197_ren:={
  mixed:=by kernel_rfl
  f197:=Tryd.func73.trans (congrArg some (by kernel_rfl))
  f260:=Tryd.func83.trans (congrArg some (by kernel_rfl))
  t0:=Tryd.underlying0
  a0:=Tryd.isAgg0
  z0:=Tryd.sizeOf0
  v0:=Tryd.zeroValue0
  t3:=Tryd.underlying3
  a3:=Tryd.isAgg3
  z3:=Tryd.sizeOf3
  v3:=Tryd.zeroValue3
  t4:=Tryd.underlying4
  a4:=Tryd.isAgg4
  z4:=Tryd.sizeOf4
  v4:=Tryd.zeroValue4
  t5:=Tryd.underlying5
  a5:=Tryd.isAgg5
  z5:=Tryd.sizeOf5
  v5:=Tryd.zeroValue5
  t9:=Tryd.underlying9
  a9:=Tryd.isAgg9
  z9:=Tryd.sizeOf9
  v9:=Tryd.zeroValue9
  t21:=Tryd.underlying21
  a21:=Tryd.isAgg21
  z21:=Tryd.sizeOf21
  v21:=Tryd.zeroValue21
  t46:=Tryd.underlying108
  a46:=Tryd.isAgg108
  z46:=Tryd.sizeOf108
  v46:=Tryd.zeroValue108
  t105:=Tryd.underlying97
  a105:=Tryd.isAgg97
  z105:=Tryd.sizeOf97
  v105:=Tryd.zeroValue97
  t119:=Tryd.underlying104
  a119:=Tryd.isAgg104
  z119:=Tryd.sizeOf104
  t138:=Tryd.underlying106
  a138:=Tryd.isAgg106
  z138:=Tryd.sizeOf106
  v138:=Tryd.zeroValue106
  t139:=Tryd.underlying107
  a139:=Tryd.isAgg107
  z139:=Tryd.sizeOf107
  v139:=Tryd.zeroValue107
  g3:=by kernel_rfl
  g4:=by kernel_rfl }
def Tryd.lays260_ren:Go.Shelf.Ren:=⟨fun | 260=>83 | n=>n,fun | 9=>9 | 21=>21 | 3=>3 | 4=>4 | 5=>5 | 105=>97 | 119=>104 | 0=>0 | 46=>108 | 139=>107 | 138=>106 | n=>n,fun | 3=>0 | 4=>1 | n=>n⟩
theorem Tryd.lays260:Go.Proofs.Lays.n260 Tryd.prog Tryd.lays260_ren:={
  mixed:=by kernel_rfl
  f260:=Tryd.func83.trans (congrArg some (by kernel_rfl))
  t0:=Tryd.underlying0
  a0:=Tryd.isAgg0
  z0:=Tryd.sizeOf0
  v0:=Tryd.zeroValue0
  t3:=Tryd.underlying3
  a3:=Tryd.isAgg3
  z3:=Tryd.sizeOf3
  v3:=Tryd.zeroValue3
  t4:=Tryd.underlying4
  a4:=Tryd.isAgg4
  z4:=Tryd.sizeOf4
  v4:=Tryd.zeroValue4
  t5:=Tryd.underlying5
  a5:=Tryd.isAgg5
  z5:=Tryd.sizeOf5
  v5:=Tryd.zeroValue5
  t9:=Tryd.underlying9
  a9:=Tryd.isAgg9
  z9:=Tryd.sizeOf9
  v9:=Tryd.zeroValue9
  t21:=Tryd.underlying21
  a21:=Tryd.isAgg21
  z21:=Tryd.sizeOf21
  v21:=Tryd.zeroValue21
  t46:=Tryd.underlying108
  a46:=Tryd.isAgg108
  z46:=Tryd.sizeOf108
  v46:=Tryd.zeroValue108
  t119:=Tryd.underlying104
  a119:=Tryd.isAgg104
  z119:=Tryd.sizeOf104
  t138:=Tryd.underlying106
  a138:=Tryd.isAgg106
  z138:=Tryd.sizeOf106
  v138:=Tryd.zeroValue106
  t139:=Tryd.underlying107
  a139:=Tryd.isAgg107
  z139:=Tryd.sizeOf107
  v139:=Tryd.zeroValue107
  g3:=by kernel_rfl
  g4:=by kernel_rfl }
def Tryd.lays196_ren:Go.Shelf.Ren:=⟨fun | 196=>64 | 259=>80 | n=>n,fun | 0=>0 | 3=>3 | 4=>4 | 5=>5 | 9=>9 | 12=>12 | 46=>108 | 53=>111 | 119=>104 | 138=>106 | 139=>107 | n=>n,fun | 3=>0 | 4=>1 | n=>n⟩
theorem Tryd.lays196:Go.Proofs.Lays.n196 Tryd.prog Tryd.lays196_ren:={
  mixed:=by kernel_rfl
  f196:=Tryd.func64.trans (congrArg some (by kernel_rfl))
  f259:=Tryd.func80.trans (congrArg some (by kernel_rfl))
  t0:=Tryd.underlying0
  a0:=Tryd.isAgg0
  z0:=Tryd.sizeOf0
  v0:=Tryd.zeroValue0
  t3:=Tryd.underlying3
  a3:=Tryd.isAgg3
  z3:=Tryd.sizeOf3
  v3:=Tryd.zeroValue3
  t4:=Tryd.underlying4
  a4:=Tryd.isAgg4
  z4:=Tryd.sizeOf4
  v4:=Tryd.zeroValue4
  t5:=Tryd.underlying5
  a5:=Tryd.isAgg5
  z5:=Tryd.sizeOf5
  v5:=Tryd.zeroValue5
  t9:=Tryd.underlying9
  a9:=Tryd.isAgg9
  z9:=Tryd.sizeOf9
  v9:=Tryd.zeroValue9
  t12:=Tryd.underlying12
  a12:=Tryd.isAgg12
  z12:=Tryd.sizeOf12
  v12:=Tryd.zeroValue12
  t46:=Tryd.underlying108
  a46:=Tryd.isAgg108
  z46:=Tryd.sizeOf108
  v46:=Tryd.zeroValue108
  t53:=Tryd.underlying111
  a53:=Tryd.isAgg111
  z53:=Tryd.sizeOf111
  v53:=Tryd.zeroValue111
  t119:=Tryd.underlying104
  a119:=Tryd.isAgg104
  z119:=Tryd.sizeOf104
  t138:=Tryd.underlying106
  a138:=Tryd.isAgg106
  z138:=Tryd.sizeOf106
  v138:=Tryd.zeroValue106
  t139:=Tryd.underlying107
  a139:=Tryd.isAgg107
  z139:=Tryd.sizeOf107
  v139:=Tryd.zeroValue107
  g3:=by kernel_rfl
  g4:=by kernel_rfl }
def Tryd.lays195_ren:Go.Shelf.Ren:=⟨fun | 195=>65 | n=>n,fun | 9=>9 | 3=>3 | 0=>0 | 4=>4 | n=>n,fun | n=>n⟩
theorem Tryd.lays195:Go.Proofs.Lays.n195 Tryd.prog Tryd.lays195_ren:={
  mixed:=by kernel_rfl
  f195:=Tryd.func65.trans (congrArg some (by kernel_rfl))
  t0:=Tryd.underlying0
  a0:=Tryd.isAgg0
  z0:=Tryd.sizeOf0
  v0:=Tryd.zeroValue0
  t3:=Tryd.underlying3
  a3:=Tryd.isAgg3
  z3:=Tryd.sizeOf3
  v3:=Tryd.zeroValue3
  t4:=Tryd.underlying4
  a4:=Tryd.isAgg4
  z4:=Tryd.sizeOf4
  v4:=Tryd.zeroValue4
  t9:=Tryd.underlying9
  a9:=Tryd.isAgg9
  z9:=Tryd.sizeOf9
  v9:=Tryd.zeroValue9 }
end Go.Proofs
namespace Go.Proofs.YtmfjbaepgfdfpaaDoor
open Go.EA Go.ChangeShapes Go.WideShapes Go.ChangeAt Go.RowKit Go.Lib
open Go.ChangeMaps (open_string shut_string)
def eaN (f:FuncId):Option Nat:=match f with
  | 3=>some 200
  | 4=>some 201
  | 5=>some 202
  | 6=>some 203
  | 7=>some 204
  | 8=>some 205
  | 9=>some 206
  | 10=>some 207
  | 11=>some 208
  | 12=>some 209
  | 13=>some 210
  | 14=>some 211
  | 15=>some 212
  | 16=>some 213
  | 17=>some 214
  | 18=>some 215
  | 19=>some 216
  | 20=>some 217
  | 21=>some 218
  | 22=>some 20
  | 23=>some 17
  | 24=>some 219
  | 25=>some 220
  | 26=>some 221
  | 27=>some 222
  | 28=>some 223
  | 29=>some 224
  | 30=>some 225
  | 31=>some 226
  | 32=>some 227
  | 33=>some 228
  | 34=>some 229
  | 35=>some 230
  | 36=>some 231
  | 37=>some 232
  | 38=>some 233
  | 39=>some 234
  | 40=>some 235
  | 41=>some 236
  | 42=>some 237
  | 43=>some 238
  | 44=>some 239
  | 45=>some 240
  | 46=>some 241
  | 47=>some 242
  | 48=>some 45
  | 49=>some 243
  | 50=>some 244
  | 51=>some 245
  | 52=>some 56
  | 53=>some 51
  | 54=>some 246
  | 55=>some 247
  | 56=>some 248
  | 57=>some 57
  | 58=>some 249
  | 59=>some 250
  | 60=>some 251
  | 61=>some 252
  | 62=>some 253
  | 63=>some 254
  | 64=>some 38
  | 65=>some 43
  | 66=>some 19
  | 67=>some 255
  | 68=>some 256
  | 69=>some 257
  | 70=>some 258
  | 71=>some 21
  | 72=>some 68
  | 73=>some 69
  | 74=>some 259
  | 75=>some 75
  | 76=>some 34
  | 77=>some 55
  | 78=>some 260
  | 79=>some 261
  | 80=>some 60
  | 81=>some 46
  | 82=>some 262
  | 83=>some 81
  | 84=>some 58
  | 97=>some 96
  | 98=>some 97
  | 99=>some 98
  | 100=>some 100
  | _=>none
def eaR (i:Nat):FuncId:=match i with
  | 200=>3
  | 201=>4
  | 202=>5
  | 203=>6
  | 204=>7
  | 205=>8
  | 206=>9
  | 207=>10
  | 208=>11
  | 209=>12
  | 210=>13
  | 211=>14
  | 212=>15
  | 213=>16
  | 214=>17
  | 215=>18
  | 216=>19
  | 217=>20
  | 218=>21
  | 20=>22
  | 17=>23
  | 219=>24
  | 220=>25
  | 221=>26
  | 222=>27
  | 223=>28
  | 224=>29
  | 225=>30
  | 226=>31
  | 227=>32
  | 228=>33
  | 229=>34
  | 230=>35
  | 231=>36
  | 232=>37
  | 233=>38
  | 234=>39
  | 235=>40
  | 236=>41
  | 237=>42
  | 238=>43
  | 239=>44
  | 240=>45
  | 241=>46
  | 242=>47
  | 45=>48
  | 243=>49
  | 244=>50
  | 245=>51
  | 56=>52
  | 51=>53
  | 246=>54
  | 247=>55
  | 248=>56
  | 57=>57
  | 249=>58
  | 250=>59
  | 251=>60
  | 252=>61
  | 253=>62
  | 254=>63
  | 38=>64
  | 43=>65
  | 19=>66
  | 255=>67
  | 256=>68
  | 257=>69
  | 258=>70
  | 21=>71
  | 68=>72
  | 69=>73
  | 259=>74
  | 75=>75
  | 34=>76
  | 55=>77
  | 260=>78
  | 261=>79
  | 60=>80
  | 46=>81
  | 262=>82
  | 81=>83
  | 58=>84
  | 96=>97
  | 97=>98
  | 98=>99
  | 100=>100
  | _=>0
noncomputable def eaC:RCx:=⟨Tryd.prog,eaN⟩
noncomputable def eaS (W:World):SC:=⟨eaC,eaR,drawAlts (fun _=>true),fxOf W 0 1⟩
theorem eaOk (W:World):(eaS W).Ok:=⟨fun f i h=>by
  have h:eaN f=some i:=h
  unfold eaN at h
  split at h <;> cases h <;> rfl⟩
theorem eaMix (W:World):(eaS W).C.P.follows .mixedOrders=true:=by kernel_rfl
theorem sb (W:World):SB (eaS W):=⟨eaOk W,rfl,eaMix W⟩
theorem enters {P : Program} {f : FuncId} {fn : Func} (h : P.funcs[f]? = some fn) (hn : (fn.name == "runtime.NumGoroutine") = false) (hb : fn.body.isSome = true) (args : Array Value) (w : World) : (callFunc f args).run P w = .ok (.enter f args) w := by
  obtain ⟨b,hb⟩:=Option.isSome_iff_exists.1 hb
  simp only [callFunc,Sem.run_bind,run_program,Result.andThen_ok]
  rw [h]
  simp only [hn,hb]
  simp
theorem ent69 (W:World) (args:Array Value) (w:World):(callFunc ((eaS W).re 69) args).run (eaS W).C.P w=.ok (.enter ((eaS W).re 69) args) w:=enters (f:=73) Tryd.func73 (by kernel_rfl) (by kernel_rfl) args w
theorem q69 {W:World} (hU:Lib.Utf8Tabs 0 1 W):PrOk (eaS W) 69 (pureP gDec):=pDec_ok (ent69 W) (ρl:=Tryd.lays197_ren) rfl Tryd.lays197 (tabs_of rfl hU)
theorem ent38 (W:World) (args:Array Value) (w:World):(callFunc ((eaS W).re 38) args).run (eaS W).C.P w=.ok (.enter ((eaS W).re 38) args) w:=enters (f:=64) Tryd.func64 (by kernel_rfl) (by kernel_rfl) args w
theorem q38 {W:World} (hU:Lib.Utf8Tabs 0 1 W):PrOk (eaS W) 38 (pureP G38):=pr38 rfl (ent38 W) (ρl:=Tryd.lays196_ren) rfl Tryd.lays196 (tabs_of rfl hU)
theorem ent43 (W:World) (args:Array Value) (w:World):(callFunc ((eaS W).re 43) args).run (eaS W).C.P w=.ok (.enter ((eaS W).re 43) args) w:=enters (f:=65) Tryd.func65 (by kernel_rfl) (by kernel_rfl) args w
theorem q43 (W:World):PrOk (eaS W) 43 (pureP G43):=pr43 (ent43 W) fun s w hs=>Any.utf8_RuneCountInString Tryd.lays195 s w hs
theorem own:ownKnob Tryd.prog.godebug=none:=by kernel_rfl
theorem laidOut:laidOutB Tryd.prog=true:=by kernel_rfl
abbrev laid2 : List (String × DataW Unit) := [("unicode/utf8.acceptRanges", Rows.laid_unicode_utf8_acceptRanges), ("unicode/utf8.first", Rows.laid_unicode_utf8_first)]
theorem tabs {W:World} (hL:laidMet Tryd.prog laid2 W):Lib.Utf8Tabs 0 1 W:=
  utf8Tabs_of_reads (ρ:=Tryd.lays260_ren) Tryd.lays260 ⟨by kernel_rfl,by kernel_rfl,by kernel_rfl,by kernel_rfl,by kernel_rfl,by kernel_rfl,by kernel_rfl⟩
    (by rw [← Pinned.utf8First_eq];exact Lib.laidMet.reads hL (.tail _ (.head _)))
    (by have h:Rows.laid_unicode_utf8_acceptRanges=acceptData:=by kernel_rfl
        rw [← h];exact Lib.laidMet.reads hL (.head _))
noncomputable def laidWorld (os:Os):World:=
  let w0:=World.holding Tryd.prog os ⟨#[],#[],[]⟩
  { w0 with heap:=(w0.heap.modify 0 fun
      | .cells _ t frozen=>.cells ((List.range 256).map fun c=>Value.int .u8 (firstT c)).toArray t frozen
      | o=>o).modify 1 fun
      | .cells _ t frozen=>.cells ((List.range 32).map fun c=>Value.int .u8 (if c % 2=0 then accLo (c / 2) else accHi (c / 2):Nat)).toArray t frozen
      | o=>o }
set_option maxRecDepth 1000000 in
theorem laid_met (os:Os) (args:Array Value):laidMet Tryd.prog laid2 ((laidWorld os).forCall (fun _ _=>0) ⟨#[],args,[]⟩).memory:=
  laidMet_of_run' 8 (by kernel_rfl) (by kernel_rfl)
end Go.Proofs.YtmfjbaepgfdfpaaDoor
