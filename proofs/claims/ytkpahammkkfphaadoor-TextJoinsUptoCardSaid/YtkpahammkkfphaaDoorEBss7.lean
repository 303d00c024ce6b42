/- This seat's program as abstract code; its tables; the calls of laws. Conditions: none. -/
import Derived.Test.YtkpahammkkfphaaDoorEPrim2
import Derived.Test.YtkpahammkkfphaaDoorEK6
import Derived.Test.YtkpahammkkfphaaDoorCards
import Derived.Test.YtkpahammkkfphaaDoorTie
import Derived.Test.YtkpahammkkfphaaDoorProg
import Derived.Shelf.Small.Strs
import Derived.Shelf.Utf8.RuneCount
import Derived.Shelf.Strings.RuneCount
import Derived.Shelf.Unicode.DecodeSlow
import Derived.Shelf.Unicode.DecodeAny
import Derived.Shelf.Unicode.ValidAny
import Derived.WalkKit
import Derived.ProofKit
import Derived.OpenShut
import Derived.Deep.DeepHandedRow
import Derived.Lib.LaidTab
import Derived.Lib.LaidU8
import Derived.PinnedBridge
import Derived.Carry
import Derived.Test.YtkpahammkkfphaaDoorEArgs
set_option linter.unusedVariables false
set_option linter.unusedSimpArgs false
set_option maxRecDepth 100000
namespace Go.Proofs
open Go.Shelf
def Tryd.lays197_ren:Go.Shelf.Ren:=⟨fun | 197=>41 | 260=>50 | n=>n,fun | 9=>9 | 21=>21 | 3=>3 | 4=>4 | 5=>5 | 105=>69 | 119=>75 | 0=>0 | 46=>64 | 139=>78 | 138=>77 | n=>n,fun | 3=>0 | 4=>1 | n=>n⟩
theorem Tryd.lays197:Go.Proofs.Lays.n197 Tryd.prog Tryd.lays197_ren:={
 mixed:=by kernel_rfl
 f197:=Tryd.func41.trans (congrArg some (by kernel_rfl))
 f260:=Tryd.func50.trans (congrArg some (by kernel_rfl))
 t0:=Tryd.underlying0
 a0:=Tryd.isAgg0
 z0:=Tryd.sizeOf0
 v0:=Tryd.zeroValue0
 t3:=Tryd.underlying3
 a3:=Tryd.isAgg3
 z3:=Tryd.sizeOf3
 v3:=Tryd.zeroValue3
 t4:=Tryd.underlying4
 a4:=Tryd.isAgg4
 z4:=Tryd.sizeOf4
 v4:=Tryd.zeroValue4
 t5:=Tryd.underlying5
 a5:=Tryd.isAgg5
 z5:=Tryd.sizeOf5
 v5:=Tryd.zeroValue5
 t9:=Tryd.underlying9
 a9:=Tryd.isAgg9
 z9:=Tryd.sizeOf9
 v9:=Tryd.zeroValue9
 t21:=Tryd.underlying21
 a21:=Tryd.isAgg21
 z21:=Tryd.sizeOf21
 v21:=Tryd.zeroValue21
 t46:=Tryd.underlying64
 a46:=Tryd.isAgg64
 z46:=Tryd.sizeOf64
 v46:=Tryd.zeroValue64
 t105:=Tryd.underlying69
 a105:=Tryd.isAgg69
 z105:=Tryd.sizeOf69
 v105:=Tryd.zeroValue69
 t119:=Tryd.underlying75
 a119:=Tryd.isAgg75
 z119:=Tryd.sizeOf75
 t138:=Tryd.underlying77
 a138:=Tryd.isAgg77
 z138:=Tryd.sizeOf77
 v138:=Tryd.zeroValue77
 t139:=Tryd.underlying78
 a139:=Tryd.isAgg78
 z139:=Tryd.sizeOf78
 v139:=Tryd.zeroValue78
 g3:=by kernel_rfl
 g4:=by kernel_rfl }
def Tryd.lays260_ren:Go.Shelf.Ren:=⟨fun | 260=>50 | n=>n,fun | 9=>9 | 21=>21 | 3=>3 | 4=>4 | 5=>5 | 105=>69 | 119=>75 | 0=>0 | 46=>64 | 139=>78 | 138=>77 | n=>n,fun | 3=>0 | 4=>1 | n=>n⟩
theorem Tryd.lays260:Go.Proofs.Lays.n260 Tryd.prog Tryd.lays260_ren:={
 mixed:=by kernel_rfl
 f260:=Tryd.func50.trans (congrArg some (by kernel_rfl))
 t0:=Tryd.underlying0
 a0:=Tryd.isAgg0
 z0:=Tryd.sizeOf0
 v0:=Tryd.zeroValue0
 t3:=Tryd.underlying3
 a3:=Tryd.isAgg3
 z3:=Tryd.sizeOf3
 v3:=Tryd.zeroValue3
 t4:=Tryd.underlying4
 a4:=Tryd.isAgg4
 z4:=Tryd.sizeOf4
 v4:=Tryd.zeroValue4
 t5:=Tryd.underlying5
 a5:=Tryd.isAgg5
 z5:=Tryd.sizeOf5
 v5:=Tryd.zeroValue5
 t9:=Tryd.underlying9
 a9:=Tryd.isAgg9
 z9:=Tryd.sizeOf9
 v9:=Tryd.zeroValue9
 t21:=Tryd.underlying21
 a21:=Tryd.isAgg21
 z21:=Tryd.sizeOf21
 v21:=Tryd.zeroValue21
 t46:=Tryd.underlying64
 a46:=Tryd.isAgg64
 z46:=Tryd.sizeOf64
 v46:=Tryd.zeroValue64
 t119:=Tryd.underlying75
 a119:=Tryd.isAgg75
 z119:=Tryd.sizeOf75
 t138:=Tryd.underlying77
 a138:=Tryd.isAgg77
 z138:=Tryd.sizeOf77
 v138:=Tryd.zeroValue77
 t139:=Tryd.underlying78
 a139:=Tryd.isAgg78
 z139:=Tryd.sizeOf78
 v139:=Tryd.zeroValue78
 g3:=by kernel_rfl
 g4:=by kernel_rfl }
def Tryd.lays196_ren:Go.Shelf.Ren:=⟨fun | 196=>25 | 259=>38 | n=>n,fun | 0=>0 | 3=>3 | 4=>4 | 5=>5 | 9=>9 | 12=>12 | 46=>64 | 53=>85 | 119=>75 | 138=>77 | 139=>78 | n=>n,fun | 3=>0 | 4=>1 | n=>n⟩
theorem Tryd.lays196:Go.Proofs.Lays.n196 Tryd.prog Tryd.lays196_ren:={
 mixed:=by kernel_rfl
 f196:=Tryd.func25.trans (congrArg some (by kernel_rfl))
 f259:=Tryd.func38.trans (congrArg some (by kernel_rfl))
 t0:=Tryd.underlying0
 a0:=Tryd.isAgg0
 z0:=Tryd.sizeOf0
 v0:=Tryd.zeroValue0
 t3:=Tryd.underlying3
 a3:=Tryd.isAgg3
 z3:=Tryd.sizeOf3
 v3:=Tryd.zeroValue3
 t4:=Tryd.underlying4
 a4:=Tryd.isAgg4
 z4:=Tryd.sizeOf4
 v4:=Tryd.zeroValue4
 t5:=Tryd.underlying5
 a5:=Tryd.isAgg5
 z5:=Tryd.sizeOf5
 v5:=Tryd.zeroValue5
 t9:=Tryd.underlying9
 a9:=Tryd.isAgg9
 z9:=Tryd.sizeOf9
 v9:=Tryd.zeroValue9
 t12:=Tryd.underlying12
 a12:=Tryd.isAgg12
 z12:=Tryd.sizeOf12
 v12:=Tryd.zeroValue12
 t46:=Tryd.underlying64
 a46:=Tryd.isAgg64
 z46:=Tryd.sizeOf64
 v46:=Tryd.zeroValue64
 t53:=Tryd.underlying85
 a53:=Tryd.isAgg85
 z53:=Tryd.sizeOf85
 v53:=Tryd.zeroValue85
 t119:=Tryd.underlying75
 a119:=Tryd.isAgg75
 z119:=Tryd.sizeOf75
 t138:=Tryd.underlying77
 a138:=Tryd.isAgg77
 z138:=Tryd.sizeOf77
 v138:=Tryd.zeroValue77
 t139:=Tryd.underlying78
 a139:=Tryd.isAgg78
 z139:=Tryd.sizeOf78
 v139:=Tryd.zeroValue78
 g3:=by kernel_rfl
 g4:=by kernel_rfl }
end Go.Proofs
namespace Go.Proofs.YtkpahammkkfphaaDoor
open Go.EA Go.ChangeShapes Go.WideShapes Go.ChangeAt Go.RowKit Go.Lib
open Go.ChangeMaps (open_string shut_string)
def eaN (f:FuncId):Option Nat:=match f with
 |3=>some 10
 |4=>some 14
 |5=>some 15
 |6=>some 26
 |7=>some 28
 |8=>some 39
 |9=>some 40
 |10=>some 41
 |11=>some 42
 |12=>some 27
 |13=>some 29
 |14=>some 22
 |15=>some 32
 |16=>some 44
 |17=>some 19
 |18=>some 51
 |19=>some 36
 |20=>some 52
 |21=>some 61
 |22=>some 62
 |23=>some 63
 |24=>some 31
 |25=>some 38
 |26=>some 50
 |27=>some 45
 |28=>some 35
 |29=>some 64
 |30=>some 65
 |31=>some 66
 |32=>some 67
 |33=>some 46
 |34=>some 34
 |35=>some 57
 |36=>some 73
 |37=>some 76
 |38=>some 60
 |39=>some 72
 |40=>some 68
 |41=>some 69
 |42=>some 55
 |43=>some 59
 |44=>some 77
 |45=>some 78
 |46=>some 79
 |47=>some 80
 |48=>some 58
 |49=>some 82
 |50=>some 81
 |51=>some 83
 |64=>some 96
 |65=>some 97
 |66=>some 98
 |67=>some 99
 |68=>some 100
 |_=>none
def eaR (i:Nat):FuncId:=match i with
 |10=>3
 |14=>4
 |15=>5
 |26=>6
 |28=>7
 |39=>8
 |40=>9
 |41=>10
 |42=>11
 |27=>12
 |29=>13
 |22=>14
 |32=>15
 |44=>16
 |19=>17
 |51=>18
 |36=>19
 |52=>20
 |61=>21
 |62=>22
 |63=>23
 |31=>24
 |38=>25
 |50=>26
 |45=>27
 |35=>28
 |64=>29
 |65=>30
 |66=>31
 |67=>32
 |46=>33
 |34=>34
 |57=>35
 |73=>36
 |76=>37
 |60=>38
 |72=>39
 |68=>40
 |69=>41
 |55=>42
 |59=>43
 |77=>44
 |78=>45
 |79=>46
 |80=>47
 |58=>48
 |82=>49
 |81=>50
 |83=>51
 |96=>64
 |97=>65
 |98=>66
 |99=>67
 |100=>68
 |_=>0
noncomputable def eaC:RCx:=⟨Tryd.prog,eaN,(some (53,5))⟩
noncomputable def eaS (W:World):SC:=⟨eaC,eaR,lh (fun _=>true),Dn W 0 1,0⟩
theorem Mm (W:World):(eaS W).Ok:=⟨fun f i h=>by
 have h:eaN f=some i:=h;unfold eaN at h;split at h <;> cases h <;> rfl⟩
theorem KL (W:World):(eaS W).C.P.follows .mixedOrders=true:=by kernel_rfl
theorem sb (W:World):SB (eaS W):=⟨Mm W,rfl,KL W⟩
theorem enters {P : Program} {f : FuncId} {fn : Func} (h : P.funcs[f]? = some fn) (hn : (fn.name == "runtime.NumGoroutine") = false) (hb : fn.body.isSome = true) (args : Array Value) (w : World) : (callFunc f args).run P w = .ok (.enter f args) w := by
 obtain⟨b,hb⟩:=Option.isSome_iff_exists.1 hb;simp only[callFunc,Sem.run_bind,run_program,Result.andThen_ok];rw[h];simp only[hn,hb];simp
theorem Ll (W:World) (args:Array Value) (w:World):(callFunc ((eaS W).re 69) args).run (eaS W).C.P w=.ok (.enter ((eaS W).re 69) args) w:=enters (f:=41) Tryd.func41 (by kernel_rfl) (by kernel_rfl) args w
theorem q69 {W:World}(hU:Lib.Utf8Tabs 0 1 W):aP (eaS W) 69 (aC FQ):=FU rfl (Ll W) (ρl:=Tryd.lays197_ren) rfl Tryd.lays197 (yI rfl hU)
theorem Lg (W:World) (args:Array Value) (w:World):(callFunc ((eaS W).re 38) args).run (eaS W).C.P w=.ok (.enter ((eaS W).re 38) args) w:=enters (f:=25) Tryd.func25 (by kernel_rfl) (by kernel_rfl) args w
theorem q38 {W:World}(hU:Lib.Utf8Tabs 0 1 W):aP (eaS W) 38 (aC G38):=LZ rfl rfl (Lg W) (ρl:=Tryd.lays196_ren) rfl Tryd.lays196 (yI rfl hU)
theorem own:ownKnob Tryd.prog.godebug=none:=by kernel_rfl
theorem laidOut:laidOutB Tryd.prog=true:=by kernel_rfl
abbrev Il : List (String × DataW Unit) := [("unicode/utf8.acceptRanges", Rows.laid_unicode_utf8_acceptRanges), ("unicode/utf8.first", Rows.laid_unicode_utf8_first)]
theorem tabs {W:World}(hL:laidMet Tryd.prog Il W):Lib.Utf8Tabs 0 1 W:=
 utf8Tabs_of_reads (ρ:=Tryd.lays260_ren) Tryd.lays260 ⟨by kernel_rfl,by kernel_rfl,by kernel_rfl,by kernel_rfl,by kernel_rfl,by kernel_rfl,by kernel_rfl⟩
  (by rw[<- Pinned.utf8First_eq];exact Lib.laidMet.reads hL (.tail _ (.head _)))
  (by have h:Rows.laid_unicode_utf8_acceptRanges=acceptData:=by kernel_rfl
      rw[<- h];exact Lib.laidMet.reads hL (.head _))
noncomputable def mo (os:Os):World:=
 let w0:=World.holding Tryd.prog os ⟨#[],#[],[]⟩
 { w0 with heap:=(w0.heap.modify 0 fun
  |.cells _ t frozen=>.cells ((List.range 256).map fun c=>Value.int .u8 (firstT c)).toArray t frozen
  |o=>o).modify 1 fun
  |.cells _ t frozen=>.cells ((List.range 32).map fun c=>Value.int .u8 (if c % 2=0 then accLo (c / 2) else accHi (c / 2):Nat)).toArray t frozen
  |o=>o }
set_option maxRecDepth 1000000 in
theorem EL (os:Os) (args:Array Value):laidMet Tryd.prog Il ((mo os).forCall (fun _ _=>0) ⟨#[],args,[]⟩).memory:=
 laidMet_of_run' 8 (by kernel_rfl) (by kernel_rfl)
end Go.Proofs.YtkpahammkkfphaaDoor
