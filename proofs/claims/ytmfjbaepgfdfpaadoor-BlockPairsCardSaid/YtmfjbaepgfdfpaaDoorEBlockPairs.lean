/- 'BlockPairs' returns true for every two texts, each argument reading afterwards as it read before; it holds where the two tables of Go's library that the row lists are laid as the card says, and under no other condition. -/
import Derived.Test.YtmfjbaepgfdfpaaDoorEBwBlockPairs
set_option linter.unusedVariables false
set_option linter.unusedSimpArgs false
set_option maxRecDepth 100000
namespace Go.Proofs.YtmfjbaepgfdfpaaDoor.blockPairs
open Go.EA Go.EA.F Go.ChangeShapes Go.WideShapes Go.ChangeAt Go.RowKit Go.Lib
open Go.ChangeMaps (open_string shut_string)
theorem walk (W:World) (hU:Lib.Utf8Tabs 0 1 W) (s:ByteArray) (t:ByteArray)  : Calls Tryd.prog 9 #[.string s,.string t] W fun e w'=>e=.returned (.bool true)∧Below W.heap.size W w':=by
  have h:=w206 (sb W) (q225 hU) (q226 hU) (q227 hU) (q228 hU) (has206 W) s.data.toList t.data.toList
  refine Calls.mono (calls_of h (fxOf_heap) (vs:=[.string s,.string t]) (All2.cons rfl (All2.cons rfl (All2.nil)))) ?_
  rintro e w' ⟨u,ρ',n',rfl,hu,hb⟩
  have hu:u=.bool true:=hu
  subst hu
  exact ⟨rfl,hb⟩
theorem contract (H:Type) (enc:TypeId×Value→H) (W:World) (base:Nat) (args:Array Value) (ds gs:List (DataW H)) (before:List MemPlace)
    (hval:∀ (j:Nat) t v,Tryd.f9.params[j]?=some t→args[j]?=some v→Value.okWide Tryd.prog W .any base t v)
    (hW:DataW.Whole enc Tryd.prog Tryd.f9.params.toList Rows.blockPairsSpec.vars false W args.toList ds gs before) (hL:laidMetH Tryd.prog Rows.blockPairsRow.laid W) :
    Calls Tryd.prog 9 args W fun e W'=>∃ v,e=.returned v∧Rows.blockPairsSpec.post enc Tryd.prog Tryd.f9 false true false false W args v W':=by
  have hW':=hW
  obtain ⟨p,q,hA0,hV,rfl,hfz,hnd⟩:=hW
  have hA:DataW.TrodAll enc Tryd.prog W 0 (fun _=>true) true Tryd.f9.params.toList args.toList ds p:=hA0
  rw [Tryd.params9] at hA hval
  obtain ⟨v0,vs0,d0,ds0,p0,q0,hargs0,rfl,rfl,h0,r0⟩:=trodAll_cons hA
  obtain ⟨v1,vs1,d1,ds1,p1,q1,hargs1,rfl,rfl,h1,r1⟩:=trodAll_cons r0
  obtain ⟨rfl,rfl,rfl⟩:=trodAll_nil r1
  obtain rfl:args=#[v0,v1]:=by cases args;simp_all
  obtain ⟨rfl,rfl⟩:=trodVars_none hV
  obtain ⟨s,rfl,rfl,rfl,ws⟩:=open_string Tryd.underlying9 (hval 0 9 v0 rfl rfl) h0
  obtain ⟨t,rfl,rfl,rfl,wt⟩:=open_string Tryd.underlying9 (hval 1 9 v1 rfl rfl) h1
  clear hA0
  simp only [List.append_nil] at hW'
  refine (walk W (tabs hL) s t).mono fun e W' ⟨he,hg⟩=>?_
  subst he
  refine ⟨_,rfl,_,_,_,[],[],[],hW',?_,?_,?_,hg.frame _,fun h=>by cases h⟩
  · exact trodAll_mk1 (shut_bool Tryd.underlying4 _)
  · exact trodAll_mk2 (shut_string Tryd.underlying9 ws) (shut_string Tryd.underlying9 wt)
  · rfl
set_option maxRecDepth 1000000 in
theorem lifted (os:Os) (started:os.Started) (H:Type) (enc:TypeId×Value→H) (F:Stop.Interp) :
    ReturnsInHanded {} Tryd.checked os 9 .any ((OpenSpec.ofChange Rows.blockPairsSpec).preRow enc Tryd.prog Tryd.f9 Rows.blockPairsRow.domain false Rows.blockPairsRow.laid) (((OpenSpec.ofChange Rows.blockPairsSpec).at F).post enc Tryd.prog Tryd.f9 false true false false):=by
  have hx:(DataW.whole enc Tryd.prog ((laidWorld os).forCall (fun _ _=>0) ⟨#[],#[.string .empty,.string .empty],[]⟩).memory Tryd.f9.params.toList Rows.blockPairsSpec.vars false #[Value.string .empty,.string .empty].toList 8).map (fun x=>(x.1,x.2.1))=some ([.lit (.string []),.lit (.string [])],[]):=by kernel_rfl
  obtain ⟨⟨x1,x2,x3⟩,hx,hx1⟩:=Option.map_eq_some_iff.1 hx
  simp only [Prod.mk.injEq] at hx1
  obtain ⟨rfl,rfl⟩:=hx1
  refine returnsInHanded_of_row (C:=Tryd.checked) (s:=OpenSpec.ofChange Rows.blockPairsSpec) own started (by kernel_rfl) Tryd.func9
    (witness_row_at (enc:=enc) (C:=Tryd.checked) false (laidWorld os) #[.string .empty,.string .empty] rfl (by kernel_rfl) (by kernel_rfl) (by kernel_rfl)
      (OpenSpec.preRow_of_cond 8 hx (by kernel_rfl) (fun k hk=>by cases hk) (by kernel_rfl) (laid_met os _))) ?_
  intro W base args ds gs before hval hW _ _ _ hL _ _
  exact contract H enc W base args ds gs before hval hW hL
theorem said:Rows.BlockPairsSaid:=
  OpenClaim.holds_of_cond 9 Tryd.f9 rfl rfl rfl rfl rfl rfl rfl ⟨rfl,rfl,rfl,rfl,rfl⟩ rfl rfl rfl rfl rfl (by kernel_rfl) Tryd.func9 (by kernel_rfl)
    (of_decide_eq_true (by kernel_rfl)) (by unfold Func.isWrapper;first | (rw [if_pos (by decide +kernel)];kernel_rfl) | (rw [if_neg (by decide +kernel)];exact ⟨rfl,rfl⟩))
    (fun os started H enc _ F=>by rw [OpenClaim.pre_eq_preRow];exact lifted os started H enc F)
theorem plain (f : FuncId) (fn : Func) (hf : Tryd.pinned.checked.prog.funcNamed "errata/erratalaw05.BlockPairs" = some f) (hfn : Tryd.pinned.checked.prog.funcs[f]? = some fn) :
    false=Tryd.pinned.checked.prog.looks []∧∀ (j:Nat) t,fn.params[j]?=some t→Tryd.pinned.checked.prog.wantsStandIn t=false:=by
  obtain rfl : f = 9 := Option.some.inj ((show Tryd.prog.funcNamed "errata/erratalaw05.BlockPairs" = some 9 by kernel_rfl).symm.trans hf) |>.symm
  obtain rfl:fn=Tryd.f9:=(Option.some.inj (Tryd.func9.symm.trans hfn)).symm
  refine ⟨by kernel_rfl,fun j t ht=>?_⟩
  rw [Tryd.params9] at ht
  have ht:=Array.mem_of_getElem? ht
  have:t=9:=by simpa using ht
  subst this
  exact (show Tryd.prog.wantsStandIn 9=false by kernel_rfl)
theorem card:Rows.BlockPairsCardSaid:=
  Claim7.holds_tied_plain_at .later [] _ _ _ _ said (fun _ h=>by cases h) (by kernel_rfl) (fun _ h=>by cases h) blockPairs_row_tie rfl ⟨rfl,rfl⟩ (by kernel_rfl) rfl plain (by kernel_rfl)
#print axioms card
end Go.Proofs.YtmfjbaepgfdfpaaDoor.blockPairs
