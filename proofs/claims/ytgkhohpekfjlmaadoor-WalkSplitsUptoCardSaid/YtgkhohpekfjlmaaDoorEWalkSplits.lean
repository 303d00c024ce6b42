/- 'WalkSplits' returns true for every row of words and every two texts that are together at most of the size that the statement says, each argument reading afterwards as it read before; it holds where the two tables of Go's library that the row lists are laid as the card says, and under no other condition. -/
import Derived.Test.YtgkhohpekfjlmaaDoorEBwWalkSplits
import Derived.Test.YtgkhohpekfjlmaaDoorEK13
set_option linter.unusedVariables false
set_option linter.unusedSimpArgs false
set_option maxRecDepth 100000
namespace Go.Proofs.YtgkhohpekfjlmaaDoor.walkSplits
open Go.EA Go.EA.F Go.ChangeShapes Go.WideShapes Go.ChangeAt Go.RowKit Go.Lib
open Go.ChangeMaps (open_string shut_string)
theorem Ox {H:Type}(d:DataW H):1<=Rows.uptoBulk d:=by
 cases d with
 |lit x=>cases x <;> simp[Rows.uptoBulk]
 |_=>simp[Rows.uptoBulk]
theorem AL {H:Type}:∀(ds:List (DataW H)),ds.length<=Rows.uptoBulkAll ds
 |[]=>by simp
 | d::ds=>by
   have h1:=Ox d;have h2:=AL ds;simp only[Rows.uptoBulkAll,zM];omega
theorem Rt {H:Type}{α:Type}{d:DataW H}{zs:List α}(h:zs=[]\/∃ds r,d=.slice ds r/\ds.length=zs.length):zs.length<=Rows.uptoBulk d:=by
 rcases h with rfl | ⟨ds,r,rfl,h⟩
 .simp
 .have:=AL ds;simp only[Rows.uptoBulk];omega
theorem wh {H:Type}:∀{ds:List (DataW H)}{y:DataW H},y∈ds->Rows.uptoBulk y<=Rows.uptoBulkAll ds
 | d::ds,y,h=>by
   simp only[Rows.uptoBulkAll];rcases List.mem_cons.1 h with rfl | h
   .omega
   .have:=wh h;omega
theorem CX {H:Type}{α:Type}{d:DataW H}{zs:List α}{f:α->DataW H}(h:zs=[]\/∃ds r,d=.slice ds r/\ds=zs.map f):zs.length<=Rows.uptoBulk d/\∀x∈zs,Rows.uptoBulk (f x)<=Rows.uptoBulk d:=by
 refine⟨Rt (h.imp id fun⟨ds,r,h1,h2⟩=>⟨ds,r,h1,by rw[h2,zR]⟩),fun x hx=>?_⟩;rcases h with rfl | ⟨ds,r,rfl,rfl⟩
 .cases hx
 .have:=wh (List.mem_map_of_mem (f:=f) hx);simp only[Rows.uptoBulk];omega
theorem walk (W:World) (hU:Lib.Utf8Tabs 1 2 W) (s:Value) (z0:List (List UInt8×Int)) (y0:bf (eaS W) (vE W) 0 (.one (.vrow (tyF [.str,.int .i64]).size (List.map (tyF [.str,.int .i64]).enc z0))) s) (t:ByteArray) (u:ByteArray) (lt:t.data.toList.length<=1048576) (lu:u.data.toList.length<=1048576)  (m0:z0.length<=1048576) (k0_0:∀x∈z0,x.1.length<=1048576):Calls Tryd.prog 8 #[s,.string t,.string u] W fun e w'=>e=.returned (.bool true)/\Below W.heap.size W w':=by
 have h:=aaf (sb W) (Vf hU) (UK hU) (XG hU) (Iy hU) (VH W) (VJ W) z0 t.data.toList u.data.toList m0 k0_0 lt lu;refine Calls.mono (OL h (Jh) (vs:=[s,.string t,.string u]) (ah.cons y0 (ah.cons rfl (ah.cons rfl (ah.nil))))) ?_;rintro e w' ⟨u,ρ',n',rfl,hu,hb⟩;have hu:u=.bool true:=hu;subst hu;exact⟨rfl,hb⟩
theorem contract (H:Type) (enc:TypeId×Value->H) (W:World) (base:Nat) (args:Array Value) (ds gs:List (DataW H)) (before:List MemPlace)
 (hval:∀(j:Nat) t v,Tryd.f8.params[j]?=some t->args[j]?=some v->Value.okWide Tryd.prog W .any base t v)
 (hW:DataW.Whole enc Tryd.prog Tryd.f8.params.toList Rows.walkSplitsSpec.vars false W args.toList ds gs before) (hs:Rows.uptoSmall H (ds++gs)=true) (hL:laidMetH Tryd.prog Rows.walkSplitsUptoRow.laid W) :
 Calls Tryd.prog 8 args W fun e W'=>∃v,e=.returned v/\Rows.walkSplitsSpec.post enc Tryd.prog Tryd.f8 false true false false W args v W':=by
 have hW':=hW;obtain⟨p,q,hA0,hV,rfl,hfz,hnd⟩:=hW;have hA:DataW.TrodAll enc Tryd.prog W 0 (fun _=>true) true Tryd.f8.params.toList args.toList ds p:=hA0;rw[Tryd.params8] at hA hval;obtain⟨v0,vs0,d0,ds0,p0,q0,hargs0,rfl,rfl,h0,r0⟩:=trodAll_cons hA;obtain⟨v1,vs1,d1,ds1,p1,q1,hargs1,rfl,rfl,h1,r1⟩:=trodAll_cons r0;obtain⟨v2,vs2,d2,ds2,p2,q2,hargs2,rfl,rfl,h2,r2⟩:=trodAll_cons r1;obtain⟨rfl,rfl,rfl⟩:=trodAll_nil r2;obtain rfl:args=#[v0,v1,v2]:=by cases args;simp_all
 obtain⟨rfl,rfl⟩:=trodVars_none hV;have lt0:∀x∈p0,x.block<W.heap.size:=fun x hx=>by simpa using hW'.lt x (by simp[hx])
 obtain⟨z0,y0⟩:=Du (S:=eaS W) (ks:=[.str,.int .i64]) Tryd.underlying22 (by kernel_rfl) (hval 0 22 v0 rfl rfl) h0;have yl0:z0.length<=Rows.uptoBulk d0:=(CX y0.2).1;have yk0_0:∀x∈z0,x.1.length<=Rows.uptoBulk d0:=fun x hx=>by
  have h:(x.1.length+1)+(1+0)+1<=Rows.uptoBulk d0:=(CX y0.2).2 x hx;omega
 have y0:=y0.1;obtain⟨t,rfl,rfl,rfl,wt⟩:=open_string Tryd.underlying9 (hval 1 9 v1 rfl rfl) h1;obtain⟨u,rfl,rfl,rfl,wu⟩:=open_string Tryd.underlying9 (hval 2 9 v2 rfl rfl) h2;clear hA0;simp only[List.append_nil] at hW';have hs2:Rows.uptoBulk d0+((t.data.toList.length+1)+((u.data.toList.length+1)+0))<=1048576:=of_decide_eq_true hs;refine(walk W (tabs hL) v0 z0 y0 t u (by omega) (by omega) (Nat.le_trans yl0 (by omega)) (fun x hx=>Nat.le_trans (yk0_0 x hx) (by omega))).mono fun e W' ⟨he,hg⟩=>?_
 subst he;refine⟨_,rfl,_,_,_,[],(p0++([]++[])),[],hW',?_,?_,?_,hg.frame _,fun h=>by cases h⟩
 .exact trodAll_mk1 (shut_bool Tryd.underlying4 _)
 .exact trodAll_mk3 (Below.trod laidOut (by kernel_rfl) (of_decide_eq_true (by kernel_rfl)) h0 hg lt0) (shut_string Tryd.underlying9 wt) (shut_string Tryd.underlying9 wu)
 .rfl
set_option maxRecDepth 1000000 in
theorem lifted (os:Os) (started:os.Started) (H:Type) (enc:TypeId×Value->H) (F:Stop.Interp) :
 ReturnsInHanded {} Tryd.checked os 8 .any ((Rows.OpenSpec.upto Rows.walkSplitsSpec).preRow enc Tryd.prog Tryd.f8 Rows.walkSplitsUptoRow.domain false Rows.walkSplitsUptoRow.laid) (((Rows.OpenSpec.upto Rows.walkSplitsSpec).at F).post enc Tryd.prog Tryd.f8 false true false false):=by
 have hx:(DataW.whole enc Tryd.prog ((pY os).forCall (fun _ _=>0) ⟨#[],#[.slice none 0 0,.string .empty,.string .empty],[]⟩).memory Tryd.f8.params.toList Rows.walkSplitsSpec.vars false #[Value.slice none 0 0,.string .empty,.string .empty].toList 8).map (fun x=>(x.1,x.2.1))=some ([.nil,.lit (.string []),.lit (.string [])],[]):=by kernel_rfl
 obtain⟨⟨x1,x2,x3⟩,hx,hx1⟩:=zD.1 hx;simp only[zF] at hx1;obtain⟨rfl,rfl⟩:=hx1;refine returnsInHanded_of_row (C:=Tryd.checked) (s:=Rows.OpenSpec.upto Rows.walkSplitsSpec) own started (by kernel_rfl) Tryd.func8
  (witness_row_at (enc:=enc) (C:=Tryd.checked) false (pY os) #[.slice none 0 0,.string .empty,.string .empty] rfl (by kernel_rfl) (by kernel_rfl) (by kernel_rfl)
   (OpenSpec.preRow_of_cond 8 hx (by kernel_rfl) (fun k hk=>by cases hk;rfl) (by kernel_rfl) (Ka os _))) ?_
 intro W base args ds gs before hval hW _ hk _ hL _ _;exact contract H enc W base args ds gs before hval hW (hk _ rfl) hL
theorem said:Rows.WalkSplitsUptoSaid:=
 OpenClaim.holds_of_cond 8 Tryd.f8 rfl rfl rfl rfl rfl rfl rfl ⟨rfl,rfl,rfl,rfl,rfl⟩ rfl rfl rfl rfl rfl (by kernel_rfl) Tryd.func8 (by kernel_rfl)
  (of_decide_eq_true (by kernel_rfl)) (by unfold Func.isWrapper;first | (rw[if_pos (by decide +kernel)];kernel_rfl) | (rw[if_neg (by decide +kernel)];exact⟨rfl,rfl⟩))
  (fun os started H enc _ F=>by rw[OpenClaim.pre_eq_preRow];exact lifted os started H enc F)
theorem plain (f : FuncId) (fn : Func) (hf : Tryd.pinned.checked.prog.funcNamed "errata/erratalaw11.WalkSplits" = some f) (hfn : Tryd.pinned.checked.prog.funcs[f]? = some fn) :
 false=Tryd.pinned.checked.prog.looks []/\∀(j:Nat) t,fn.params[j]?=some t->Tryd.pinned.checked.prog.wantsStandIn t=false:=by
 obtain rfl : f = 8 := Option.some.inj ((show Tryd.prog.funcNamed "errata/erratalaw11.WalkSplits" = some 8 by kernel_rfl).symm.trans hf) |>.symm
 obtain rfl:fn=Tryd.f8:=(Option.some.inj (Tryd.func8.symm.trans hfn)).symm;refine⟨by kernel_rfl,fun j t ht=>?_⟩;rw[Tryd.params8] at ht;have ht:=Array.mem_of_getElem? ht;have:t=22\/t=9:=by simpa using ht
 rcases this with rfl | rfl
 .exact(show Tryd.prog.wantsStandIn 22=false by kernel_rfl)
 .exact(show Tryd.prog.wantsStandIn 9=false by kernel_rfl)
theorem card:Rows.WalkSplitsUptoCardSaid:=
 Claim7.holds_tied_plain_at .later [] _ _ _ _ said (fun _ h=>by cases h) (by kernel_rfl) (fun _ h=>by cases h) walkSplitsUpto_row_tie rfl ⟨rfl,rfl⟩ (by kernel_rfl) rfl plain (by kernel_rfl)
#print axioms card
end Go.Proofs.YtgkhohpekfjlmaaDoor.walkSplits
