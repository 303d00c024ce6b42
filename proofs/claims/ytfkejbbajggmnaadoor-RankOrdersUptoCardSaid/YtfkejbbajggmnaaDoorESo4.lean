/- Sorting by a function, growing of nothing, laid in this seat's program: what turns a row, what makes one. Conditions: none. (Printed by a program of this project's own.) -/
import Derived.Test.YtfkejbbajggmnaaDoorEBss4
import Derived.Test.YtfkejbbajggmnaaDoorESo2
import Derived.Test.YtfkejbbajggmnaaDoorERc1
import Derived.Shelf.SlLaysF0
import Derived.Shelf.Spec.SlicesGrow
set_option linter.unusedVariables false
set_option linter.unusedSimpArgs false
set_option maxRecDepth 100000
namespace Go.Proofs
open Go.Shelf
def Tryd.sortW_ren:Go.Shelf.Ren:=⟨fun | 6=>40 | 15=>48 | 14=>47 | 28=>61 | 29=>62 | 20=>53 | 21=>54 | 22=>55 | 23=>56 | 24=>57 | 25=>58 | 26=>59 | 27=>60 | 46=>64 | 47=>65 | 48=>66 | 49=>67 | 50=>68 | 57=>69 | n=>n,fun | 22=>22 | 24=>32 | 25=>51 | 3=>3 | 39=>81 | 0=>0 | 53=>95 | 55=>97 | 4=>4 | 46=>88 | 45=>87 | 50=>92 | 5=>5 | 9=>9 | 66=>98 | 70=>102 | 76=>108 | 77=>109 | n=>n,fun n=>n⟩
theorem Tryd.sortW:Go.Proofs.SlLaysF0.n6 Tryd.prog Tryd.sortW_ren:={
  mixed:=by kernel_rfl
  f6 := ⟨"slices.SortFunc[[]errata/api.Cand,errata/api.Cand]", by kernel_rfl, Tryd.func40.trans (congrArg some (by kernel_rfl))⟩
  f14 := ⟨"slices.pdqsortCmpFunc[errata/api.Cand]", by kernel_rfl, Tryd.func47.trans (congrArg some (by kernel_rfl))⟩
  f15:=Tryd.func48.trans (congrArg some (by kernel_rfl))
  f20 := ⟨"slices.insertionSortCmpFunc[errata/api.Cand]", by kernel_rfl, Tryd.func53.trans (congrArg some (by kernel_rfl))⟩
  f21 := ⟨"slices.heapSortCmpFunc[errata/api.Cand]", by kernel_rfl, Tryd.func54.trans (congrArg some (by kernel_rfl))⟩
  f22 := ⟨"slices.breakPatternsCmpFunc[errata/api.Cand]", by kernel_rfl, Tryd.func55.trans (congrArg some (by kernel_rfl))⟩
  f23 := ⟨"slices.choosePivotCmpFunc[errata/api.Cand]", by kernel_rfl, Tryd.func56.trans (congrArg some (by kernel_rfl))⟩
  f24 := ⟨"slices.reverseRangeCmpFunc[errata/api.Cand]", by kernel_rfl, Tryd.func57.trans (congrArg some (by kernel_rfl))⟩
  f25 := ⟨"slices.partialInsertionSortCmpFunc[errata/api.Cand]", by kernel_rfl, Tryd.func58.trans (congrArg some (by kernel_rfl))⟩
  f26 := ⟨"slices.partitionEqualCmpFunc[errata/api.Cand]", by kernel_rfl, Tryd.func59.trans (congrArg some (by kernel_rfl))⟩
  f27 := ⟨"slices.partitionCmpFunc[errata/api.Cand]", by kernel_rfl, Tryd.func60.trans (congrArg some (by kernel_rfl))⟩
  f28:=Tryd.func61.trans (congrArg some (by kernel_rfl))
  f29:=Tryd.func62.trans (congrArg some (by kernel_rfl))
  f46 := ⟨"slices.siftDownCmpFunc[errata/api.Cand]", by kernel_rfl, Tryd.func64.trans (congrArg some (by kernel_rfl))⟩
  f47:=Tryd.func65.trans (congrArg some (by kernel_rfl))
  f48:=Tryd.func66.trans (congrArg some (by kernel_rfl))
  f49 := ⟨"slices.medianAdjacentCmpFunc[errata/api.Cand]", by kernel_rfl, Tryd.func67.trans (congrArg some (by kernel_rfl))⟩
  f50 := ⟨"slices.medianCmpFunc[errata/api.Cand]", by kernel_rfl, Tryd.func68.trans (congrArg some (by kernel_rfl))⟩
  f57 := ⟨"slices.order2CmpFunc[errata/api.Cand]", by kernel_rfl, Tryd.func69.trans (congrArg some (by kernel_rfl))⟩
  t0:=Tryd.underlying0
  a0:=Tryd.isAgg0
  z0:=Tryd.sizeOf0
  v0:=Tryd.zeroValue0
  t3:=Tryd.underlying3
  a3:=Tryd.isAgg3
  z3:=Tryd.sizeOf3
  v3:=Tryd.zeroValue3
  t4:=Tryd.underlying4
  a4:=Tryd.isAgg4
  z4:=Tryd.sizeOf4
  v4:=Tryd.zeroValue4
  t5:=Tryd.underlying5
  a5:=Tryd.isAgg5
  z5:=Tryd.sizeOf5
  v5:=Tryd.zeroValue5
  t9:=Tryd.underlying9
  a9:=Tryd.isAgg9
  z9:=Tryd.sizeOf9
  v9:=Tryd.zeroValue9
  t22:=Tryd.underlying22
  a22:=Tryd.isAgg22
  z22:=Tryd.sizeOf22
  v22:=Tryd.zeroValue22
  t25:=Tryd.underlying51
  a25:=Tryd.isAgg51
  z25:=Tryd.sizeOf51
  v25:=Tryd.zeroValue51
  t39:=Tryd.underlying81
  a39:=Tryd.isAgg81
  z39:=Tryd.sizeOf81
  v39:=Tryd.zeroValue81
  t45:=Tryd.underlying87
  a45:=Tryd.isAgg87
  z45:=Tryd.sizeOf87
  v45:=Tryd.zeroValue87
  t46:=Tryd.underlying88
  a46:=Tryd.isAgg88
  z46:=Tryd.sizeOf88
  v46:=Tryd.zeroValue88
  t50:=Tryd.underlying92
  a50:=Tryd.isAgg92
  z50:=Tryd.sizeOf92
  v50:=Tryd.zeroValue92
  t53:=Tryd.underlying95
  a53:=Tryd.isAgg95
  z53:=Tryd.sizeOf95
  v53:=Tryd.zeroValue95
  t55:=Tryd.underlying97
  a55:=Tryd.isAgg97
  z55:=Tryd.sizeOf97
  v55:=Tryd.zeroValue97
  t66:=Tryd.underlying98
  a66:=Tryd.isAgg98
  z66:=Tryd.sizeOf98
  v66:=Tryd.zeroValue98
  t70:=Tryd.underlying102
  a70:=Tryd.isAgg102
  z70:=Tryd.sizeOf102
  v70:=Tryd.zeroValue102
  t76:=Tryd.underlying108
  a76:=Tryd.isAgg108
  z76:=Tryd.sizeOf108
  v76:=Tryd.zeroValue108
  t77:=Tryd.underlying109
  a77:=Tryd.isAgg109
  z77:=Tryd.sizeOf109
  v77:=Tryd.zeroValue109 }
end Go.Proofs
namespace Go.Proofs.YtfkejbbajggmnaaDoor
open Go.EA Go.EA.F Go.Sort
noncomputable def eaSd (W:World) (d:Nat):SC:=⟨eaC,eaR,drawAlts (fun _=>true),fxOf W 0 1,d⟩
theorem sbd (W:World) (d:Nat):SB (eaSd W d):=⟨⟨(eaOk W).1⟩,rfl,eaMix W⟩
theorem hasd328 (W:World) (d:Nat):(eaSd W d).has 328 f328:=⟨Tryd.f34,Tryd.func34,by kernel_rfl,by kernel_rfl⟩
theorem hasd252 (W:World) (d:Nat):(eaSd W d).has 252 f252:=⟨Tryd.f35,Tryd.func35,by kernel_rfl,by kernel_rfl⟩
theorem hasd251 (W:World) (d:Nat):(eaSd W d).has 251 f251:=⟨Tryd.f33,Tryd.func33,by kernel_rfl,by kernel_rfl⟩
theorem hasd345 (W:World) (d:Nat):(eaSd W d).has 345 f345:=⟨Tryd.f42,Tryd.func42,by kernel_rfl,by kernel_rfl⟩
theorem hasd261 (W:World) (d:Nat):(eaSd W d).has 261 f261:=⟨Tryd.f43,Tryd.func43,by kernel_rfl,by kernel_rfl⟩
theorem hasd392 (W:World) (d:Nat):(eaSd W d).has 392 f392:=⟨Tryd.f25,Tryd.func25,by kernel_rfl,by kernel_rfl⟩
theorem entd392 (W:World) (d:Nat) (args:Array Value) (w:World):(callFunc ((eaSd W d).re 392) args).run (eaSd W d).C.P w=.ok (.enter ((eaSd W d).re 392) args) w:=enters (f:=25) Tryd.func25 (by kernel_rfl) (by kernel_rfl) args w
theorem ent400 (W:World) (args:Array Value) (w:World):(callFunc ((eaS W).re 400) args).run (eaS W).C.P w=.ok (.enter ((eaS W).re 400) args) w:=enters (f:=40) Tryd.func40 (by kernel_rfl) (by kernel_rfl) args w
theorem cmp392 (x y:Cd) (V:World):Calls Tryd.prog 25 (#[.agg (encV CdT x).toArray,.agg (encV CdT y).toArray]++#[]) V fun e w'=>e=.returned (.int .i64 (cfC x y))∧∃ q os',w'=grow (V.drewN q) os':=by
  have q252:=pr252 (sbd V V.drawn) (hasd261 V V.drawn) (hasd252 V V.drawn)
  have q328:=pr328 (sbd V V.drawn) (pr345 (sbd V V.drawn) (hasd345 V V.drawn)) (hasd328 V V.drawn)
  have hp:=pr392 (sbd V V.drawn) q328 q252 (pr251 (sbd V V.drawn) (hasd251 V V.drawn)) (hasd392 V V.drawn)
  have h:=calls_of_pr (S:=eaSd V V.drawn) hp (entd392 V V.drawn) (conG_eq P392_inj (x.1,x.2.1,x.2.2,y.1,y.2.1,y.2.2)) trivial (W:=V) fxOf_heap rfl
    (vs:=[.agg (encV CdT x).toArray,.agg (encV CdT y).toArray]) (All2.cons ⟨_,rfl,All2.cons rfl (All2.cons rfl (All2.cons rfl All2.nil))⟩ (All2.cons ⟨_,rfl,All2.cons rfl (All2.cons rfl (All2.cons rfl All2.nil))⟩ All2.nil))
  have h:Calls Tryd.prog 25 (#[.agg (encV CdT x).toArray,.agg (encV CdT y).toArray]++#[]) V _:=h
  refine h.mono fun e w' hr=>?_
  obtain ⟨u,ρ',n',rfl,hu,hg⟩:=hr
  have hu:u=.int .i64 (cfC x y):=hu
  rw [hu]
  exact ⟨rfl,hg⟩
theorem u400 {W:World} (hU:Lib.Utf8Tabs 0 1 W):MutOk (eaS W) 400 C400:=
  mut_sort (S:=eaS W) (t:=CdT) (g:=392) (lt:=ltC) (d0:=([],0,0)) simp_cd (ent400 W)
    (fun w blk off cap d hH hb hs=>AnyQ.slices_SortFunc Tryd.sortW 3 Tryd.isAgg32 Tryd.sizeOf32 (encV CdT) (encV_len CdT) (fun x v hv=>by
      obtain ⟨u,hu,rfl⟩:=List.mem_map.1 hv
      exact valL_one (simp_cd x u hu)) cfC ltC_swo 25 #[] blk off cap d w (entd392 w 0) (fun m os dk _ x y=>cmp392 x y _) hH hb hs)
    (fun p cap w=>AnyF.slices_SortFunc_none Tryd.sortW p cap _ w) M400_fits
end Go.Proofs.YtfkejbbajggmnaaDoor
