/- Sorting by a function, laid in this seat's program: what turns a row. Conditions: none. (Printed by a program of this project's own.) -/
import Derived.Test.YtpgjilomblpcpaaDoorEBss3
import Derived.Test.YtpgjilomblpcpaaDoorESo2
import Derived.Shelf.SlLaysF0
set_option linter.unusedVariables false
set_option linter.unusedSimpArgs false
set_option maxRecDepth 100000
namespace Go.Proofs
open Go.Shelf
def Tryd.sortW_ren:Go.Shelf.Ren:=⟨fun | 6=>98 | 15=>109 | 14=>108 | 28=>120 | 29=>121 | 20=>111 | 21=>113 | 22=>114 | 23=>115 | 24=>116 | 25=>117 | 26=>118 | 27=>119 | 46=>123 | 47=>124 | 48=>125 | 49=>126 | 50=>127 | 57=>129 | n=>n,fun | 22=>22 | 24=>54 | 25=>115 | 3=>3 | 39=>149 | 0=>0 | 53=>141 | 55=>168 | 4=>4 | 46=>161 | 45=>160 | 50=>47 | 5=>5 | 9=>9 | 66=>169 | 70=>118 | 76=>174 | 77=>175 | n=>n,fun n=>n⟩
theorem Tryd.sortW:Go.Proofs.SlLaysF0.n6 Tryd.prog Tryd.sortW_ren:={
  mixed:=by kernel_rfl
  f6 := ⟨"slices.SortFunc[[]errata/api.Word,errata/api.Word]", by kernel_rfl, Tryd.func98.trans (congrArg some (by kernel_rfl))⟩
  f14 := ⟨"slices.pdqsortCmpFunc[errata/api.Word]", by kernel_rfl, Tryd.func108.trans (congrArg some (by kernel_rfl))⟩
  f15:=Tryd.func109.trans (congrArg some (by kernel_rfl))
  f20 := ⟨"slices.insertionSortCmpFunc[errata/api.Word]", by kernel_rfl, Tryd.func111.trans (congrArg some (by kernel_rfl))⟩
  f21 := ⟨"slices.heapSortCmpFunc[errata/api.Word]", by kernel_rfl, Tryd.func113.trans (congrArg some (by kernel_rfl))⟩
  f22 := ⟨"slices.breakPatternsCmpFunc[errata/api.Word]", by kernel_rfl, Tryd.func114.trans (congrArg some (by kernel_rfl))⟩
  f23 := ⟨"slices.choosePivotCmpFunc[errata/api.Word]", by kernel_rfl, Tryd.func115.trans (congrArg some (by kernel_rfl))⟩
  f24 := ⟨"slices.reverseRangeCmpFunc[errata/api.Word]", by kernel_rfl, Tryd.func116.trans (congrArg some (by kernel_rfl))⟩
  f25 := ⟨"slices.partialInsertionSortCmpFunc[errata/api.Word]", by kernel_rfl, Tryd.func117.trans (congrArg some (by kernel_rfl))⟩
  f26 := ⟨"slices.partitionEqualCmpFunc[errata/api.Word]", by kernel_rfl, Tryd.func118.trans (congrArg some (by kernel_rfl))⟩
  f27 := ⟨"slices.partitionCmpFunc[errata/api.Word]", by kernel_rfl, Tryd.func119.trans (congrArg some (by kernel_rfl))⟩
  f28:=Tryd.func120.trans (congrArg some (by kernel_rfl))
  f29:=Tryd.func121.trans (congrArg some (by kernel_rfl))
  f46 := ⟨"slices.siftDownCmpFunc[errata/api.Word]", by kernel_rfl, Tryd.func123.trans (congrArg some (by kernel_rfl))⟩
  f47:=Tryd.func124.trans (congrArg some (by kernel_rfl))
  f48:=Tryd.func125.trans (congrArg some (by kernel_rfl))
  f49 := ⟨"slices.medianAdjacentCmpFunc[errata/api.Word]", by kernel_rfl, Tryd.func126.trans (congrArg some (by kernel_rfl))⟩
  f50 := ⟨"slices.medianCmpFunc[errata/api.Word]", by kernel_rfl, Tryd.func127.trans (congrArg some (by kernel_rfl))⟩
  f57 := ⟨"slices.order2CmpFunc[errata/api.Word]", by kernel_rfl, Tryd.func129.trans (congrArg some (by kernel_rfl))⟩
  t0:=Tryd.underlying0
  a0:=Tryd.isAgg0
  z0:=Tryd.sizeOf0
  v0:=Tryd.zeroValue0
  t3:=Tryd.underlying3
  a3:=Tryd.isAgg3
  z3:=Tryd.sizeOf3
  v3:=Tryd.zeroValue3
  t4:=Tryd.underlying4
  a4:=Tryd.isAgg4
  z4:=Tryd.sizeOf4
  v4:=Tryd.zeroValue4
  t5:=Tryd.underlying5
  a5:=Tryd.isAgg5
  z5:=Tryd.sizeOf5
  v5:=Tryd.zeroValue5
  t9:=Tryd.underlying9
  a9:=Tryd.isAgg9
  z9:=Tryd.sizeOf9
  v9:=Tryd.zeroValue9
  t22:=Tryd.underlying22
  a22:=Tryd.isAgg22
  z22:=Tryd.sizeOf22
  v22:=Tryd.zeroValue22
  t25:=Tryd.underlying115
  a25:=Tryd.isAgg115
  z25:=Tryd.sizeOf115
  v25:=Tryd.zeroValue115
  t39:=Tryd.underlying149
  a39:=Tryd.isAgg149
  z39:=Tryd.sizeOf149
  v39:=Tryd.zeroValue149
  t45:=Tryd.underlying160
  a45:=Tryd.isAgg160
  z45:=Tryd.sizeOf160
  v45:=Tryd.zeroValue160
  t46:=Tryd.underlying161
  a46:=Tryd.isAgg161
  z46:=Tryd.sizeOf161
  v46:=Tryd.zeroValue161
  t50:=Tryd.underlying47
  a50:=Tryd.isAgg47
  z50:=Tryd.sizeOf47
  v50:=Tryd.zeroValue47
  t53:=Tryd.underlying141
  a53:=Tryd.isAgg141
  z53:=Tryd.sizeOf141
  v53:=Tryd.zeroValue141
  t55:=Tryd.underlying168
  a55:=Tryd.isAgg168
  z55:=Tryd.sizeOf168
  v55:=Tryd.zeroValue168
  t66:=Tryd.underlying169
  a66:=Tryd.isAgg169
  z66:=Tryd.sizeOf169
  v66:=Tryd.zeroValue169
  t70:=Tryd.underlying118
  a70:=Tryd.isAgg118
  z70:=Tryd.sizeOf118
  v70:=Tryd.zeroValue118
  t76:=Tryd.underlying174
  a76:=Tryd.isAgg174
  z76:=Tryd.sizeOf174
  v76:=Tryd.zeroValue174
  t77:=Tryd.underlying175
  a77:=Tryd.isAgg175
  z77:=Tryd.sizeOf175
  v77:=Tryd.zeroValue175 }
end Go.Proofs
namespace Go.Proofs.YtpgjilomblpcpaaDoor
open Go.EA Go.EA.F Go.Sort
noncomputable def eaSd (W:World) (d:Nat):SC:=⟨eaC,eaR,drawAlts (fun _=>true),fxOf W 0 1,d⟩
theorem sbd (W:World) (d:Nat):SB (eaSd W d):=⟨⟨(eaOk W).1⟩,rfl,eaMix W⟩
theorem hasd345 (W:World) (d:Nat):(eaSd W d).has 345 f345:=⟨Tryd.f99,Tryd.func99,by kernel_rfl,by kernel_rfl⟩
theorem hasd328 (W:World) (d:Nat):(eaSd W d).has 328 f328:=⟨Tryd.f77,Tryd.func77,by kernel_rfl,by kernel_rfl⟩
theorem hasd321 (W:World) (d:Nat):(eaSd W d).has 321 f321:=⟨Tryd.f65,Tryd.func65,by kernel_rfl,by kernel_rfl⟩
theorem hasd252 (W:World) (d:Nat):(eaSd W d).has 252 f252:=⟨Tryd.f93,Tryd.func93,by kernel_rfl,by kernel_rfl⟩
theorem hasd251 (W:World) (d:Nat):(eaSd W d).has 251 f251:=⟨Tryd.f76,Tryd.func76,by kernel_rfl,by kernel_rfl⟩
theorem hasd261 (W:World) (d:Nat):(eaSd W d).has 261 f261:=⟨Tryd.f107,Tryd.func107,by kernel_rfl,by kernel_rfl⟩
theorem hasd327 (W:World) (d:Nat):(eaSd W d).has 327 f327:=⟨Tryd.f75,Tryd.func75,by kernel_rfl,by kernel_rfl⟩
theorem entd327 (W:World) (d:Nat) (args:Array Value) (w:World):(callFunc ((eaSd W d).re 327) args).run (eaSd W d).C.P w=.ok (.enter ((eaSd W d).re 327) args) w:=enters (f:=75) Tryd.func75 (by kernel_rfl) (by kernel_rfl) args w
theorem ent344 (W:World) (args:Array Value) (w:World):(callFunc ((eaS W).re 344) args).run (eaS W).C.P w=.ok (.enter ((eaS W).re 344) args) w:=enters (f:=98) Tryd.func98 (by kernel_rfl) (by kernel_rfl) args w
theorem cmp327 (x y:Wd) (V:World):Calls Tryd.prog 75 (#[.agg (encV WdT x).toArray,.agg (encV WdT y).toArray]++#[]) V fun e w'=>e=.returned (.int .i64 (cfB x y))∧∃ q os',w'=grow (V.drewN q) os':=by
  have q321:=pr321 (sbd V V.drawn) (pr252 (sbd V V.drawn) (hasd261 V V.drawn) (hasd252 V V.drawn)) (hasd321 V V.drawn)
  have q328:=pr328 (sbd V V.drawn) (pr345 (sbd V V.drawn) (hasd345 V V.drawn)) (hasd328 V V.drawn)
  have hp:=pr327 (sbd V V.drawn) q328 q321 (pr251 (sbd V V.drawn) (hasd251 V V.drawn)) (hasd327 V V.drawn)
  have h:=calls_of_pr (S:=eaSd V V.drawn) hp (entd327 V V.drawn) (conG_eq P327_inj (x.1,x.2,y.1,y.2)) trivial (W:=V) fxOf_heap rfl
    (vs:=[.agg (encV WdT x).toArray,.agg (encV WdT y).toArray]) (All2.cons ⟨_,rfl,All2.cons rfl (All2.cons rfl All2.nil)⟩ (All2.cons ⟨_,rfl,All2.cons rfl (All2.cons rfl All2.nil)⟩ All2.nil))
  have h:Calls Tryd.prog 75 (#[.agg (encV WdT x).toArray,.agg (encV WdT y).toArray]++#[]) V _:=h
  refine h.mono fun e w' hr=>?_
  obtain ⟨u,ρ',n',rfl,hu,hg⟩:=hr
  have hu:u=.int .i64 (cfB x y):=hu
  rw [hu]
  exact ⟨rfl,hg⟩
theorem u344 {W:World} (hU:Lib.Utf8Tabs 0 1 W):MutOk (eaS W) 344 C344:=
  mut_sort (S:=eaS W) (t:=WdT) (g:=327) (lt:=ltB) (d0:=([],0)) simp_wd (ent344 W)
    (fun w blk off cap d hH hb hs=>AnyQ.slices_SortFunc Tryd.sortW 2 Tryd.isAgg54 Tryd.sizeOf54 (encV WdT) (encV_len WdT) (fun x v hv=>by
      obtain ⟨u,hu,rfl⟩:=List.mem_map.1 hv
      exact valL_one (simp_wd x u hu)) cfB ltB_swo 75 #[] blk off cap d w (entd327 w 0) (fun m os dk _ x y=>cmp327 x y _) hH hb hs)
    (fun p cap w=>AnyF.slices_SortFunc_none Tryd.sortW p cap _ w) M344_fits
end Go.Proofs.YtpgjilomblpcpaaDoor
