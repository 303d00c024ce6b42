/- 'BlockSteps' returns true for every row of steps, the argument reading afterwards as it read before; it holds where the two tables of Go's library that the row lists are laid as the card says, and under no other condition. -/
import Derived.Test.YtmfjbaepgfdfpaaDoorEBwBlockSteps
import Derived.Test.YtmfjbaepgfdfpaaDoorEArgs2
set_option linter.unusedVariables false
set_option linter.unusedSimpArgs false
set_option maxRecDepth 100000
namespace Go.Proofs.YtmfjbaepgfdfpaaDoor.blockSteps
open Go.EA Go.EA.F Go.ChangeShapes Go.WideShapes Go.ChangeAt Go.RowKit Go.Lib
open Go.ChangeMaps (open_string shut_string)
theorem walk (W:World) (hU:Lib.Utf8Tabs 0 1 W) (s:Value) (z0:List (Int×Int×Int)) (y0:VRel (eaS W) (rho0 W) 0 (.one (.vrow (tyF [.int .i64,.int .i32,.int .i32]).size (List.map (tyF [.int .i64,.int .i32,.int .i32]).enc z0))) s)  : Calls Tryd.prog 13 #[s] W fun e w'=>e=.returned (.bool true)∧Below W.heap.size W w':=by
  have h:=w210 (sb W) (q225 hU) (q229 hU) (q231 hU) (q232 hU) (q233 hU) (q228 hU) (has210 W) z0
  refine Calls.mono (calls_of h (fxOf_heap) (vs:=[s]) (All2.cons y0 (All2.nil))) ?_
  rintro e w' ⟨u,ρ',n',rfl,hu,hb⟩
  have hu:u=.bool true:=hu
  subst hu
  exact ⟨rfl,hb⟩
theorem contract (H:Type) (enc:TypeId×Value→H) (W:World) (base:Nat) (args:Array Value) (ds gs:List (DataW H)) (before:List MemPlace)
    (hval:∀ (j:Nat) t v,Tryd.f13.params[j]?=some t→args[j]?=some v→Value.okWide Tryd.prog W .any base t v)
    (hW:DataW.Whole enc Tryd.prog Tryd.f13.params.toList Rows.blockStepsSpec.vars false W args.toList ds gs before) (hL:laidMetH Tryd.prog Rows.blockStepsRow.laid W) :
    Calls Tryd.prog 13 args W fun e W'=>∃ v,e=.returned v∧Rows.blockStepsSpec.post enc Tryd.prog Tryd.f13 false true false false W args v W':=by
  have hW':=hW
  obtain ⟨p,q,hA0,hV,rfl,hfz,hnd⟩:=hW
  have hA:DataW.TrodAll enc Tryd.prog W 0 (fun _=>true) true Tryd.f13.params.toList args.toList ds p:=hA0
  rw [Tryd.params13] at hA hval
  obtain ⟨v0,vs0,d0,ds0,p0,q0,hargs0,rfl,rfl,h0,r0⟩:=trodAll_cons hA
  obtain ⟨rfl,rfl,rfl⟩:=trodAll_nil r0
  obtain rfl:args=#[v0]:=by cases args;simp_all
  obtain ⟨rfl,rfl⟩:=trodVars_none hV
  have lt0:∀ x∈p0,x.block < W.heap.size:=fun x hx=>by simpa using hW'.lt x (by simp [hx])
  obtain ⟨z0,y0⟩:=open_flat (S:=eaS W) (ks:=[.int .i64,.int .i32,.int .i32]) Tryd.underlying23 (by kernel_rfl) (hval 0 23 v0 rfl rfl) h0
  clear hA0
  simp only [List.append_nil] at hW'
  refine (walk W (tabs hL) v0 z0 y0).mono fun e W' ⟨he,hg⟩=>?_
  subst he
  refine ⟨_,rfl,_,_,_,[],p0,[],hW',?_,?_,?_,hg.frame _,fun h=>by cases h⟩
  · exact trodAll_mk1 (shut_bool Tryd.underlying4 _)
  · exact trodAll_mk1 (Below.trod laidOut (by kernel_rfl) (of_decide_eq_true (by kernel_rfl)) h0 hg lt0)
  · rfl
set_option maxRecDepth 1000000 in
theorem lifted (os:Os) (started:os.Started) (H:Type) (enc:TypeId×Value→H) (F:Stop.Interp) :
    ReturnsInHanded {} Tryd.checked os 13 .any ((OpenSpec.ofChange Rows.blockStepsSpec).preRow enc Tryd.prog Tryd.f13 Rows.blockStepsRow.domain false Rows.blockStepsRow.laid) (((OpenSpec.ofChange Rows.blockStepsSpec).at F).post enc Tryd.prog Tryd.f13 false true false false):=by
  have hx:(DataW.whole enc Tryd.prog ((laidWorld os).forCall (fun _ _=>0) ⟨#[],#[.slice none 0 0],[]⟩).memory Tryd.f13.params.toList Rows.blockStepsSpec.vars false #[Value.slice none 0 0].toList 8).map (fun x=>(x.1,x.2.1))=some ([.nil],[]):=by kernel_rfl
  obtain ⟨⟨x1,x2,x3⟩,hx,hx1⟩:=Option.map_eq_some_iff.1 hx
  simp only [Prod.mk.injEq] at hx1
  obtain ⟨rfl,rfl⟩:=hx1
  refine returnsInHanded_of_row (C:=Tryd.checked) (s:=OpenSpec.ofChange Rows.blockStepsSpec) own started (by kernel_rfl) Tryd.func13
    (witness_row_at (enc:=enc) (C:=Tryd.checked) false (laidWorld os) #[.slice none 0 0] rfl (by kernel_rfl) (by kernel_rfl) (by kernel_rfl)
      (OpenSpec.preRow_of_cond 8 hx (by kernel_rfl) (fun k hk=>by cases hk) (by kernel_rfl) (laid_met os _))) ?_
  intro W base args ds gs before hval hW _ _ _ hL _ _
  exact contract H enc W base args ds gs before hval hW hL
theorem said:Rows.BlockStepsSaid:=
  OpenClaim.holds_of_cond 13 Tryd.f13 rfl rfl rfl rfl rfl rfl rfl ⟨rfl,rfl,rfl,rfl,rfl⟩ rfl rfl rfl rfl rfl (by kernel_rfl) Tryd.func13 (by kernel_rfl)
    (of_decide_eq_true (by kernel_rfl)) (by unfold Func.isWrapper;first | (rw [if_pos (by decide +kernel)];kernel_rfl) | (rw [if_neg (by decide +kernel)];exact ⟨rfl,rfl⟩))
    (fun os started H enc _ F=>by rw [OpenClaim.pre_eq_preRow];exact lifted os started H enc F)
theorem plain (f : FuncId) (fn : Func) (hf : Tryd.pinned.checked.prog.funcNamed "errata/erratalaw05.BlockSteps" = some f) (hfn : Tryd.pinned.checked.prog.funcs[f]? = some fn) :
    false=Tryd.pinned.checked.prog.looks []∧∀ (j:Nat) t,fn.params[j]?=some t→Tryd.pinned.checked.prog.wantsStandIn t=false:=by
  obtain rfl : f = 13 := Option.some.inj ((show Tryd.prog.funcNamed "errata/erratalaw05.BlockSteps" = some 13 by kernel_rfl).symm.trans hf) |>.symm
  obtain rfl:fn=Tryd.f13:=(Option.some.inj (Tryd.func13.symm.trans hfn)).symm
  refine ⟨by kernel_rfl,fun j t ht=>?_⟩
  rw [Tryd.params13] at ht
  have ht:=Array.mem_of_getElem? ht
  have:t=23:=by simpa using ht
  subst this
  exact (show Tryd.prog.wantsStandIn 23=false by kernel_rfl)
theorem card:Rows.BlockStepsCardSaid:=
  Claim7.holds_tied_plain_at .later [] _ _ _ _ said (fun _ h=>by cases h) (by kernel_rfl) (fun _ h=>by cases h) blockSteps_row_tie rfl ⟨rfl,rfl⟩ (by kernel_rfl) rfl plain (by kernel_rfl)
#print axioms card
end Go.Proofs.YtmfjbaepgfdfpaaDoor.blockSteps
