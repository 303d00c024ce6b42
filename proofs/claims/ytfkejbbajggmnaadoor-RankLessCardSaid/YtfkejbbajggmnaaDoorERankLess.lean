/- 'RankLess' returns true for every three candidates, each argument reading afterwards as it read before; it holds where the two tables of Go's library that the row lists are laid as the card says, and under no other condition. -/
import Derived.Test.YtfkejbbajggmnaaDoorEBwRankLess
import Derived.Test.YtfkejbbajggmnaaDoorEK13
set_option linter.unusedVariables false
set_option linter.unusedSimpArgs false
set_option maxRecDepth 100000
namespace Go.Proofs.YtfkejbbajggmnaaDoor.rankLess
open Go.EA Go.EA.F Go.ChangeShapes Go.WideShapes Go.ChangeAt Go.RowKit Go.Lib
open Go.ChangeMaps (open_string shut_string)
theorem walk (W:World) (hU:Lib.Utf8Tabs 0 1 W) (s:Value) (z0:List UInt8×Int×Int) (y0:VRel (eaS W) (rho0 W) 0 (.agg ((tyF [.str,.int .i64,.int .i64]).enc z0)) s) (t:Value) (z1:List UInt8×Int×Int) (y1:VRel (eaS W) (rho0 W) 0 (.agg ((tyF [.str,.int .i64,.int .i64]).enc z1)) t) (u:Value) (z2:List UInt8×Int×Int) (y2:VRel (eaS W) (rho0 W) 0 (.agg ((tyF [.str,.int .i64,.int .i64]).enc z2)) u)  : Calls Tryd.prog 4 #[s,t,u] W fun e w'=>e=.returned (.bool true)∧Below W.heap.size W w':=by
  have h:=w371 (sb W) (q377 hU) (q381 hU) (has371 W) z0.1 z0.2.1 z0.2.2 z1.1 z1.2.1 z1.2.2 z2.1 z2.2.1 z2.2.2
  refine Calls.mono (calls_of h (fxOf_heap) (vs:=[s,t,u]) (All2.cons y0 (All2.cons y1 (All2.cons y2 (All2.nil))))) ?_
  rintro e w' ⟨u,ρ',n',rfl,hu,hb⟩
  have hu:u=.bool true:=hu
  subst hu
  exact ⟨rfl,hb⟩
theorem contract (H:Type) (enc:TypeId×Value→H) (W:World) (base:Nat) (args:Array Value) (ds gs:List (DataW H)) (before:List MemPlace)
    (hval:∀ (j:Nat) t v,Tryd.f4.params[j]?=some t→args[j]?=some v→Value.okWide Tryd.prog W .any base t v)
    (hW:DataW.Whole enc Tryd.prog Tryd.f4.params.toList Rows.rankLessSpec.vars false W args.toList ds gs before) (hL:laidMetH Tryd.prog Rows.rankLessRow.laid W) :
    Calls Tryd.prog 4 args W fun e W'=>∃ v,e=.returned v∧Rows.rankLessSpec.post enc Tryd.prog Tryd.f4 false true false false W args v W':=by
  have hW':=hW
  obtain ⟨p,q,hA0,hV,rfl,hfz,hnd⟩:=hW
  have hA:DataW.TrodAll enc Tryd.prog W 0 (fun _=>true) true Tryd.f4.params.toList args.toList ds p:=hA0
  rw [Tryd.params4] at hA hval
  obtain ⟨v0,vs0,d0,ds0,p0,q0,hargs0,rfl,rfl,h0,r0⟩:=trodAll_cons hA
  obtain ⟨v1,vs1,d1,ds1,p1,q1,hargs1,rfl,rfl,h1,r1⟩:=trodAll_cons r0
  obtain ⟨v2,vs2,d2,ds2,p2,q2,hargs2,rfl,rfl,h2,r2⟩:=trodAll_cons r1
  obtain ⟨rfl,rfl,rfl⟩:=trodAll_nil r2
  obtain rfl:args=#[v0,v1,v2]:=by cases args;simp_all
  obtain ⟨rfl,rfl⟩:=trodVars_none hV
  have lt0:∀ x∈p0,x.block < W.heap.size:=fun x hx=>by simpa using hW'.lt x (by simp [hx])
  obtain ⟨z0,y0,rfl⟩:=open_agg (S:=eaS W) (ks:=[.str,.int .i64,.int .i64]) (by kernel_rfl) (hval 0 32 v0 rfl rfl) h0
  have lt1:∀ x∈p1,x.block < W.heap.size:=fun x hx=>by simpa using hW'.lt x (by simp [hx])
  obtain ⟨z1,y1,rfl⟩:=open_agg (S:=eaS W) (ks:=[.str,.int .i64,.int .i64]) (by kernel_rfl) (hval 1 32 v1 rfl rfl) h1
  have lt2:∀ x∈p2,x.block < W.heap.size:=fun x hx=>by simpa using hW'.lt x (by simp [hx])
  obtain ⟨z2,y2,rfl⟩:=open_agg (S:=eaS W) (ks:=[.str,.int .i64,.int .i64]) (by kernel_rfl) (hval 2 32 v2 rfl rfl) h2
  clear hA0
  simp only [List.append_nil] at hW'
  refine (walk W (tabs hL) v0 z0 y0 v1 z1 y1 v2 z2 y2).mono fun e W' ⟨he,hg⟩=>?_
  subst he
  refine ⟨_,rfl,_,_,_,[],(p0++(p1++p2)),[],hW',?_,?_,?_,hg.frame _,fun h=>by cases h⟩
  · exact trodAll_mk1 (shut_bool Tryd.underlying4 _)
  · exact trodAll_mk3 (Below.trod laidOut (by kernel_rfl) (of_decide_eq_true (by kernel_rfl)) h0 hg lt0) (Below.trod laidOut (by kernel_rfl) (of_decide_eq_true (by kernel_rfl)) h1 hg lt1) (Below.trod laidOut (by kernel_rfl) (of_decide_eq_true (by kernel_rfl)) h2 hg lt2)
  · rfl
set_option maxRecDepth 1000000 in
theorem lifted (os:Os) (started:os.Started) (H:Type) (enc:TypeId×Value→H) (F:Stop.Interp) :
    ReturnsInHanded {} Tryd.checked os 4 .any ((OpenSpec.ofChange Rows.rankLessSpec).preRow enc Tryd.prog Tryd.f4 Rows.rankLessRow.domain false Rows.rankLessRow.laid) (((OpenSpec.ofChange Rows.rankLessSpec).at F).post enc Tryd.prog Tryd.f4 false true false false):=by
  have hx:(DataW.whole enc Tryd.prog ((laidWorld os).forCall (fun _ _=>0) ⟨#[],#[.agg #[.string .empty,.int .i64 0,.int .i64 0],.agg #[.string .empty,.int .i64 0,.int .i64 0],.agg #[.string .empty,.int .i64 0,.int .i64 0]],[]⟩).memory Tryd.f4.params.toList Rows.rankLessSpec.vars false #[Value.agg #[.string .empty,.int .i64 0,.int .i64 0],.agg #[.string .empty,.int .i64 0,.int .i64 0],.agg #[.string .empty,.int .i64 0,.int .i64 0]].toList 8).map (fun x=>(x.1,x.2.1))=some ([.agg [.lit (.string []),.lit (.int .i64 0),.lit (.int .i64 0)],.agg [.lit (.string []),.lit (.int .i64 0),.lit (.int .i64 0)],.agg [.lit (.string []),.lit (.int .i64 0),.lit (.int .i64 0)]],[]):=by kernel_rfl
  obtain ⟨⟨x1,x2,x3⟩,hx,hx1⟩:=Option.map_eq_some_iff.1 hx
  simp only [Prod.mk.injEq] at hx1
  obtain ⟨rfl,rfl⟩:=hx1
  refine returnsInHanded_of_row (C:=Tryd.checked) (s:=OpenSpec.ofChange Rows.rankLessSpec) own started (by kernel_rfl) Tryd.func4
    (witness_row_at (enc:=enc) (C:=Tryd.checked) false (laidWorld os) #[.agg #[.string .empty,.int .i64 0,.int .i64 0],.agg #[.string .empty,.int .i64 0,.int .i64 0],.agg #[.string .empty,.int .i64 0,.int .i64 0]] rfl (by kernel_rfl) (by kernel_rfl) (by kernel_rfl)
      (OpenSpec.preRow_of_cond 8 hx (by kernel_rfl) (fun k hk=>by cases hk) (by kernel_rfl) (laid_met os _))) ?_
  intro W base args ds gs before hval hW _ _ _ hL _ _
  exact contract H enc W base args ds gs before hval hW hL
theorem said:Rows.RankLessSaid:=
  OpenClaim.holds_of_cond 4 Tryd.f4 rfl rfl rfl rfl rfl rfl rfl ⟨rfl,rfl,rfl,rfl,rfl⟩ rfl rfl rfl rfl rfl (by kernel_rfl) Tryd.func4 (by kernel_rfl)
    (of_decide_eq_true (by kernel_rfl)) (by unfold Func.isWrapper;first | (rw [if_pos (by decide +kernel)];kernel_rfl) | (rw [if_neg (by decide +kernel)];exact ⟨rfl,rfl⟩))
    (fun os started H enc _ F=>by rw [OpenClaim.pre_eq_preRow];exact lifted os started H enc F)
theorem plain (f : FuncId) (fn : Func) (hf : Tryd.pinned.checked.prog.funcNamed "errata/erratalaw15.RankLess" = some f) (hfn : Tryd.pinned.checked.prog.funcs[f]? = some fn) :
    false=Tryd.pinned.checked.prog.looks []∧∀ (j:Nat) t,fn.params[j]?=some t→Tryd.pinned.checked.prog.wantsStandIn t=false:=by
  obtain rfl : f = 4 := Option.some.inj ((show Tryd.prog.funcNamed "errata/erratalaw15.RankLess" = some 4 by kernel_rfl).symm.trans hf) |>.symm
  obtain rfl:fn=Tryd.f4:=(Option.some.inj (Tryd.func4.symm.trans hfn)).symm
  refine ⟨by kernel_rfl,fun j t ht=>?_⟩
  rw [Tryd.params4] at ht
  have ht:=Array.mem_of_getElem? ht
  have:t=32:=by simpa using ht
  subst this
  exact (show Tryd.prog.wantsStandIn 32=false by kernel_rfl)
theorem card:Rows.RankLessCardSaid:=
  Claim7.holds_tied_plain_at .later [] _ _ _ _ said (fun _ h=>by cases h) (by kernel_rfl) (fun _ h=>by cases h) rankLess_row_tie rfl ⟨rfl,rfl⟩ (by kernel_rfl) rfl plain (by kernel_rfl)
#print axioms card
end Go.Proofs.YtfkejbbajggmnaaDoor.rankLess
