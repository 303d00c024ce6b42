/- 'RankParts' returns true for every two rows of candidates and every two numbers that are together at most of the size that the statement says, each argument reading afterwards as it read before; it holds where the two tables of Go's library that the row lists are laid as the card says, and under no other condition. -/
import Derived.Test.YtfkejbbajggmnaaDoorEBwRankParts
import Derived.Test.YtfkejbbajggmnaaDoorEK13
set_option linter.unusedVariables false
set_option linter.unusedSimpArgs false
set_option maxRecDepth 100000
namespace Go.Proofs.YtfkejbbajggmnaaDoor.rankParts
open Go.EA Go.EA.F Go.ChangeShapes Go.WideShapes Go.ChangeAt Go.RowKit Go.Lib
open Go.ChangeMaps (open_string shut_string)
theorem bulkG_mem {H:Type}:∀ {ds:List (DataW H)} {y:DataW H},y∈ds→Rows.uptoBulk y≤Rows.uptoBulkAll ds
  | d::ds,y,h=>by
    simp only [Rows.uptoBulkAll]
    rcases List.mem_cons.1 h with rfl | h
    · omega
    · have:=bulkG_mem h;omega
theorem bulkG_pos {H:Type} (d:DataW H):1≤Rows.uptoBulk d:=by
  cases d with
  | lit x=>cases x <;> simp [Rows.uptoBulk]
  | _=>simp [Rows.uptoBulk]
theorem bulkG_len {H:Type}:∀ (ds:List (DataW H)),ds.length≤Rows.uptoBulkAll ds
  | []=>by simp
  | d::ds=>by
    have h1:=bulkG_pos d
    have h2:=bulkG_len ds
    simp only [Rows.uptoBulkAll,List.length_cons];omega
theorem bulkG {H:Type}:Bulk (H:=H) Rows.uptoBulk:=⟨fun s=>by simp [Rows.uptoBulk],fun ds d h=>by have:=bulkG_mem h;simp only [Rows.uptoBulk];omega,fun ds r=>by have:=bulkG_len ds;simp only [Rows.uptoBulk];omega,fun ds r d h=>by have:=bulkG_mem h;simp only [Rows.uptoBulk];omega⟩
theorem walk (W:World) (hU:Lib.Utf8Tabs 0 1 W) (s:Value) (z0:(List ((List UInt8)×(Int)×(Int)))×(List ((List UInt8)×(Int)×(Int)))×(Int)×(Int)) (y0:VRel (eaS W) (rho0 W) 0 (.agg ((.pair (.row (.pair (.str) (.pair (.int .i64) (.int .i64)))) (.pair (.row (.pair (.str) (.pair (.int .i64) (.int .i64)))) (.pair (.int .u8) (.int .u8))):Ty).enc z0)) s)   (g0:SmT 1048576 (.pair (.row (.pair (.str) (.pair (.int .i64) (.int .i64)))) (.pair (.row (.pair (.str) (.pair (.int .i64) (.int .i64)))) (.pair (.int .u8) (.int .u8))):Ty) z0):Calls Tryd.prog 7 #[s] W fun e w'=>e=.returned (.bool true)∧Below W.heap.size W w':=by
  have h:=w374 (sb W) (q377 hU) (q378 hU) (q379 hU) (q384 hU) (q380 hU) (has374 W) z0.1 z0.2.1 z0.2.2.1 z0.2.2.2 g0.1.1 (fun x hx=>(g0.1.2 x hx).1) g0.2.1.1 (fun x hx=>(g0.2.1.2 x hx).1) (bounds_u8 g0.2.2.1) (bounds_u8 g0.2.2.2)
  refine Calls.mono (calls_of h (fxOf_heap) (vs:=[s]) (All2.cons y0 (All2.nil))) ?_
  rintro e w' ⟨u,ρ',n',rfl,hu,hb⟩
  have hu:u=.bool true:=hu
  subst hu
  exact ⟨rfl,hb⟩
theorem contract (H:Type) (enc:TypeId×Value→H) (W:World) (base:Nat) (args:Array Value) (ds gs:List (DataW H)) (before:List MemPlace)
    (hval:∀ (j:Nat) t v,Tryd.f7.params[j]?=some t→args[j]?=some v→Value.okWide Tryd.prog W .any base t v)
    (hW:DataW.Whole enc Tryd.prog Tryd.f7.params.toList Rows.rankPartsSpec.vars false W args.toList ds gs before) (hs:Rows.uptoSmall H (ds++gs)=true) (hL:laidMetH Tryd.prog Rows.rankPartsUptoRow.laid W) :
    Calls Tryd.prog 7 args W fun e W'=>∃ v,e=.returned v∧Rows.rankPartsSpec.post enc Tryd.prog Tryd.f7 false true false false W args v W':=by
  have hW':=hW
  obtain ⟨p,q,hA0,hV,rfl,hfz,hnd⟩:=hW
  have hA:DataW.TrodAll enc Tryd.prog W 0 (fun _=>true) true Tryd.f7.params.toList args.toList ds p:=hA0
  rw [Tryd.params7] at hA hval
  obtain ⟨v0,vs0,d0,ds0,p0,q0,hargs0,rfl,rfl,h0,r0⟩:=trodAll_cons hA
  obtain ⟨rfl,rfl,rfl⟩:=trodAll_nil r0
  obtain rfl:args=#[v0]:=by cases args;simp_all
  obtain ⟨rfl,rfl⟩:=trodVars_none hV
  have lt0:∀ x∈p0,x.block < W.heap.size:=fun x hx=>by simpa using hW'.lt x (by simp [hx])
  obtain ⟨z0,y0,sm0⟩:=open_st (S:=eaS W) (n:=8) (T:=(.pair (.row (.pair (.str) (.pair (.int .i64) (.int .i64)))) (.pair (.row (.pair (.str) (.pair (.int .i64) (.int .i64)))) (.pair (.int .u8) (.int .u8))):Ty)) bulkG Tryd.underlying41 (by kernel_rfl) (hval 0 41 v0 rfl rfl) h0
  clear hA0
  simp only [List.append_nil] at hW'
  have hs2:Rows.uptoBulk d0+0≤1048576:=of_decide_eq_true hs
  refine (walk W (tabs hL) v0 z0 y0 (SmT.mono (by omega) _ sm0)).mono fun e W' ⟨he,hg⟩=>?_
  subst he
  refine ⟨_,rfl,_,_,_,[],p0,[],hW',?_,?_,?_,hg.frame _,fun h=>by cases h⟩
  · exact trodAll_mk1 (shut_bool Tryd.underlying4 _)
  · exact trodAll_mk1 (Below.trod laidOut (by kernel_rfl) (of_decide_eq_true (by kernel_rfl)) h0 hg lt0)
  · rfl
set_option maxRecDepth 1000000 in
theorem lifted (os:Os) (started:os.Started) (H:Type) (enc:TypeId×Value→H) (F:Stop.Interp) :
    ReturnsInHanded {} Tryd.checked os 7 .any ((Rows.OpenSpec.upto Rows.rankPartsSpec).preRow enc Tryd.prog Tryd.f7 Rows.rankPartsUptoRow.domain false Rows.rankPartsUptoRow.laid) (((Rows.OpenSpec.upto Rows.rankPartsSpec).at F).post enc Tryd.prog Tryd.f7 false true false false):=by
  have hx:(DataW.whole enc Tryd.prog ((laidWorld os).forCall (fun _ _=>0) ⟨#[],#[.agg #[.slice none 0 0,.slice none 0 0,.int .u8 0,.int .u8 0]],[]⟩).memory Tryd.f7.params.toList Rows.rankPartsSpec.vars false #[Value.agg #[.slice none 0 0,.slice none 0 0,.int .u8 0,.int .u8 0]].toList 8).map (fun x=>(x.1,x.2.1))=some ([.agg [.nil,.nil,.lit (.int .u8 0),.lit (.int .u8 0)]],[]):=by kernel_rfl
  obtain ⟨⟨x1,x2,x3⟩,hx,hx1⟩:=Option.map_eq_some_iff.1 hx
  simp only [Prod.mk.injEq] at hx1
  obtain ⟨rfl,rfl⟩:=hx1
  refine returnsInHanded_of_row (C:=Tryd.checked) (s:=Rows.OpenSpec.upto Rows.rankPartsSpec) own started (by kernel_rfl) Tryd.func7
    (witness_row_at (enc:=enc) (C:=Tryd.checked) false (laidWorld os) #[.agg #[.slice none 0 0,.slice none 0 0,.int .u8 0,.int .u8 0]] rfl (by kernel_rfl) (by kernel_rfl) (by kernel_rfl)
      (OpenSpec.preRow_of_cond 8 hx (by kernel_rfl) (fun k hk=>by cases hk;rfl) (by kernel_rfl) (laid_met os _))) ?_
  intro W base args ds gs before hval hW _ hk _ hL _ _
  exact contract H enc W base args ds gs before hval hW (hk _ rfl) hL
theorem said:Rows.RankPartsUptoSaid:=
  OpenClaim.holds_of_cond 7 Tryd.f7 rfl rfl rfl rfl rfl rfl rfl ⟨rfl,rfl,rfl,rfl,rfl⟩ rfl rfl rfl rfl rfl (by kernel_rfl) Tryd.func7 (by kernel_rfl)
    (of_decide_eq_true (by kernel_rfl)) (by unfold Func.isWrapper;first | (rw [if_pos (by decide +kernel)];kernel_rfl) | (rw [if_neg (by decide +kernel)];exact ⟨rfl,rfl⟩))
    (fun os started H enc _ F=>by rw [OpenClaim.pre_eq_preRow];exact lifted os started H enc F)
theorem plain (f : FuncId) (fn : Func) (hf : Tryd.pinned.checked.prog.funcNamed "errata/erratalaw15.RankParts" = some f) (hfn : Tryd.pinned.checked.prog.funcs[f]? = some fn) :
    false=Tryd.pinned.checked.prog.looks []∧∀ (j:Nat) t,fn.params[j]?=some t→Tryd.pinned.checked.prog.wantsStandIn t=false:=by
  obtain rfl : f = 7 := Option.some.inj ((show Tryd.prog.funcNamed "errata/erratalaw15.RankParts" = some 7 by kernel_rfl).symm.trans hf) |>.symm
  obtain rfl:fn=Tryd.f7:=(Option.some.inj (Tryd.func7.symm.trans hfn)).symm
  refine ⟨by kernel_rfl,fun j t ht=>?_⟩
  rw [Tryd.params7] at ht
  have ht:=Array.mem_of_getElem? ht
  have:t=41:=by simpa using ht
  subst this
  exact (show Tryd.prog.wantsStandIn 41=false by kernel_rfl)
theorem card:Rows.RankPartsUptoCardSaid:=
  Claim7.holds_tied_plain_at .later [] _ _ _ _ said (fun _ h=>by cases h) (by kernel_rfl) (fun _ h=>by cases h) rankPartsUpto_row_tie rfl ⟨rfl,rfl⟩ (by kernel_rfl) rfl plain (by kernel_rfl)
#print axioms card
end Go.Proofs.YtfkejbbajggmnaaDoor.rankParts
