/- 'WalkMore' returns true for every row of words, every two texts and every number that are together at most of the size that the statement says, the argument reading afterwards as it read before; it holds where the two tables of Go's library that the row lists are laid as the card says, and under no other condition. -/
import Derived.Test.YtgkhohpekfjlmaaDoorEBwWalkMore
import Derived.Test.YtgkhohpekfjlmaaDoorEK13
set_option linter.unusedVariables false
set_option linter.unusedSimpArgs false
set_option maxRecDepth 100000
namespace Go.Proofs.YtgkhohpekfjlmaaDoor.walkMore
open Go.EA Go.EA.F Go.ChangeShapes Go.WideShapes Go.ChangeAt Go.RowKit Go.Lib
open Go.ChangeMaps (open_string shut_string)
theorem pR {H:Type}:∀{ds:List (DataW H)}{y:DataW H},y∈ds->Rows.uptoBulk y<=Rows.uptoBulkAll ds
 | d::ds,y,h=>by
   simp only[Rows.uptoBulkAll];rcases List.mem_cons.1 h with rfl | h
   .omega
   .have:=pR h;omega
theorem IG {H:Type}(d:DataW H):1<=Rows.uptoBulk d:=by
 cases d with
 |lit x=>cases x <;> simp[Rows.uptoBulk]
 |_=>simp[Rows.uptoBulk]
theorem vY {H:Type}:∀(ds:List (DataW H)),ds.length<=Rows.uptoBulkAll ds
 |[]=>by simp
 | d::ds=>by
   have h1:=IG d;have h2:=vY ds;simp only[Rows.uptoBulkAll,zM];omega
theorem Xe {H:Type}:Om (H:=H) Rows.uptoBulk:=⟨fun s=>by simp[Rows.uptoBulk],fun ds d h=>by have:=pR h;simp only[Rows.uptoBulk];omega,fun ds r=>by have:=vY ds;simp only[Rows.uptoBulk];omega,fun ds r d h=>by have:=pR h;simp only[Rows.uptoBulk];omega⟩
theorem walk (W:World) (hU:Lib.Utf8Tabs 1 2 W) (s:Value) (z0:(List ((List UInt8)×(Int)))×(List UInt8)×(List UInt8)×(Int)) (y0:bf (eaS W) (qQ W) 0 (.agg ((.pair (.row (.pair (.str) (.int .i64))) (.pair (.str) (.pair (.str) (.int .u8))):Ty).enc z0)) s)   (g0:SmT 1048576 (.pair (.row (.pair (.str) (.int .i64))) (.pair (.str) (.pair (.str) (.int .u8))):Ty) z0):Calls Tryd.prog 5 #[s] W fun e w'=>e=.returned (.bool true)/\Below W.heap.size W w':=by
 have h:=Zf (sb W) (Vk hU) (Vj hU) (Uw hU) (TU hU) (TK hU) (VO W) z0.1 z0.2.1 z0.2.2.1 z0.2.2.2 g0.1.1 (fun x hx=>(g0.1.2 x hx).1) g0.2.1 g0.2.2.1 (bounds_u8 g0.2.2.2);refine Calls.mono (Ju h (Hu) (vs:=[s]) (ah.cons y0 (ah.nil))) ?_;rintro e w' ⟨u,ρ',n',rfl,hu,hb⟩;have hu:u=.bool true:=hu;subst hu;exact⟨rfl,hb⟩
theorem contract (H:Type) (enc:TypeId×Value->H) (W:World) (base:Nat) (args:Array Value) (ds gs:List (DataW H)) (before:List MemPlace)
 (hval:∀(j:Nat) t v,Tryd.f5.params[j]?=some t->args[j]?=some v->Value.okWide Tryd.prog W .any base t v)
 (hW:DataW.Whole enc Tryd.prog Tryd.f5.params.toList Rows.walkMoreSpec.vars false W args.toList ds gs before) (hs:Rows.uptoSmall H (ds++gs)=true) (hL:laidMetH Tryd.prog Rows.walkMoreUptoRow.laid W) :
 Calls Tryd.prog 5 args W fun e W'=>∃v,e=.returned v/\Rows.walkMoreSpec.post enc Tryd.prog Tryd.f5 false true false false W args v W':=by
 have hW':=hW;obtain⟨p,q,hA0,hV,rfl,hfz,hnd⟩:=hW;have hA:DataW.TrodAll enc Tryd.prog W 0 (fun _=>true) true Tryd.f5.params.toList args.toList ds p:=hA0;rw[Tryd.params5] at hA hval;obtain⟨v0,vs0,d0,ds0,p0,q0,hargs0,rfl,rfl,h0,r0⟩:=trodAll_cons hA;obtain⟨rfl,rfl,rfl⟩:=trodAll_nil r0;obtain rfl:args=#[v0]:=by cases args;simp_all
 obtain⟨rfl,rfl⟩:=trodVars_none hV;have lt0:∀x∈p0,x.block<W.heap.size:=fun x hx=>by simpa using hW'.lt x (by simp[hx])
 obtain⟨z0,y0,sm0⟩:=Py (S:=eaS W) (n:=8) (T:=(.pair (.row (.pair (.str) (.int .i64))) (.pair (.str) (.pair (.str) (.int .u8))):Ty)) Xe Tryd.underlying46 (by kernel_rfl) (hval 0 46 v0 rfl rfl) h0;clear hA0;simp only[List.append_nil] at hW';have hs2:Rows.uptoBulk d0+0<=1048576:=of_decide_eq_true hs;refine(walk W (tabs hL) v0 z0 y0 (SmT.mono (by omega) _ sm0)).mono fun e W' ⟨he,hg⟩=>?_
 subst he;refine⟨_,rfl,_,_,_,[],p0,[],hW',?_,?_,?_,hg.frame _,fun h=>by cases h⟩
 .exact trodAll_mk1 (shut_bool Tryd.underlying4 _)
 .exact trodAll_mk1 (Below.trod laidOut (by kernel_rfl) (of_decide_eq_true (by kernel_rfl)) h0 hg lt0)
 .rfl
set_option maxRecDepth 1000000 in
theorem lifted (os:Os) (started:os.Started) (H:Type) (enc:TypeId×Value->H) (F:Stop.Interp) :
 ReturnsInHanded {} Tryd.checked os 5 .any ((Rows.OpenSpec.upto Rows.walkMoreSpec).preRow enc Tryd.prog Tryd.f5 Rows.walkMoreUptoRow.domain false Rows.walkMoreUptoRow.laid) (((Rows.OpenSpec.upto Rows.walkMoreSpec).at F).post enc Tryd.prog Tryd.f5 false true false false):=by
 have hx:(DataW.whole enc Tryd.prog ((qc os).forCall (fun _ _=>0) ⟨#[],#[.agg #[.slice none 0 0,.string .empty,.string .empty,.int .u8 0]],[]⟩).memory Tryd.f5.params.toList Rows.walkMoreSpec.vars false #[Value.agg #[.slice none 0 0,.string .empty,.string .empty,.int .u8 0]].toList 8).map (fun x=>(x.1,x.2.1))=some ([.agg [.nil,.lit (.string []),.lit (.string []),.lit (.int .u8 0)]],[]):=by kernel_rfl
 obtain⟨⟨x1,x2,x3⟩,hx,hx1⟩:=zD.1 hx;simp only[zF] at hx1;obtain⟨rfl,rfl⟩:=hx1;refine returnsInHanded_of_row (C:=Tryd.checked) (s:=Rows.OpenSpec.upto Rows.walkMoreSpec) own started (by kernel_rfl) Tryd.func5
  (witness_row_at (enc:=enc) (C:=Tryd.checked) false (qc os) #[.agg #[.slice none 0 0,.string .empty,.string .empty,.int .u8 0]] rfl (by kernel_rfl) (by kernel_rfl) (by kernel_rfl)
   (OpenSpec.preRow_of_cond 8 hx (by kernel_rfl) (fun k hk=>by cases hk;rfl) (by kernel_rfl) (IZ os _))) ?_
 intro W base args ds gs before hval hW _ hk _ hL _ _;exact contract H enc W base args ds gs before hval hW (hk _ rfl) hL
theorem said:Rows.WalkMoreUptoSaid:=
 OpenClaim.holds_of_cond 5 Tryd.f5 rfl rfl rfl rfl rfl rfl rfl ⟨rfl,rfl,rfl,rfl,rfl⟩ rfl rfl rfl rfl rfl (by kernel_rfl) Tryd.func5 (by kernel_rfl)
  (of_decide_eq_true (by kernel_rfl)) (by unfold Func.isWrapper;first | (rw[if_pos (by decide +kernel)];kernel_rfl) | (rw[if_neg (by decide +kernel)];exact⟨rfl,rfl⟩))
  (fun os started H enc _ F=>by rw[OpenClaim.pre_eq_preRow];exact lifted os started H enc F)
theorem plain (f : FuncId) (fn : Func) (hf : Tryd.pinned.checked.prog.funcNamed "errata/erratalaw11.WalkMore" = some f) (hfn : Tryd.pinned.checked.prog.funcs[f]? = some fn) :
 false=Tryd.pinned.checked.prog.looks []/\∀(j:Nat) t,fn.params[j]?=some t->Tryd.pinned.checked.prog.wantsStandIn t=false:=by
 obtain rfl : f = 5 := Option.some.inj ((show Tryd.prog.funcNamed "errata/erratalaw11.WalkMore" = some 5 by kernel_rfl).symm.trans hf) |>.symm
 obtain rfl:fn=Tryd.f5:=(Option.some.inj (Tryd.func5.symm.trans hfn)).symm;refine⟨by kernel_rfl,fun j t ht=>?_⟩;rw[Tryd.params5] at ht;have ht:=Array.mem_of_getElem? ht;have:t=46:=by simpa using ht
 subst this;exact(show Tryd.prog.wantsStandIn 46=false by kernel_rfl)
theorem card:Rows.WalkMoreUptoCardSaid:=
 Claim7.holds_tied_plain_at .later [] _ _ _ _ said (fun _ h=>by cases h) (by kernel_rfl) (fun _ h=>by cases h) walkMoreUpto_row_tie rfl ⟨rfl,rfl⟩ (by kernel_rfl) rfl plain (by kernel_rfl)
#print axioms card
end Go.Proofs.YtgkhohpekfjlmaaDoor.walkMore
