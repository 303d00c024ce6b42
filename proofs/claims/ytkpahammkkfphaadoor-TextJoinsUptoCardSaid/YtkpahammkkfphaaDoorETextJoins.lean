/- 'TextJoins' returns true for every text, spans, and other texts that are together at most of the size that the statement says, each argument reading afterwards as it read before; it holds where the two tables of Go's library that the row lists are laid as the card says, and under no other condition. -/
import Derived.Test.YtkpahammkkfphaaDoorEBwTextJoins
import Derived.Test.YtkpahammkkfphaaDoorEK13
set_option linter.unusedVariables false
set_option linter.unusedSimpArgs false
set_option maxRecDepth 100000
namespace Go.Proofs.YtkpahammkkfphaaDoor.textJoins
open Go.EA Go.EA.F Go.ChangeShapes Go.WideShapes Go.ChangeAt Go.RowKit Go.Lib
open Go.ChangeMaps (open_string shut_string)
theorem mf {H:Type}:∀{ds:List (DataW H)}{y:DataW H},y∈ds->Rows.uptoBulk y<=Rows.uptoBulkAll ds
 | d::ds,y,h=>by
   simp only[Rows.uptoBulkAll];rcases List.mem_cons.1 h with rfl | h
   .omega
   .have:=mf h;omega
theorem AL {H:Type}(d:DataW H):1<=Rows.uptoBulk d:=by
 cases d with
 |lit x=>cases x <;> simp[Rows.uptoBulk]
 |_=>simp[Rows.uptoBulk]
theorem rC {H:Type}:∀(ds:List (DataW H)),ds.length<=Rows.uptoBulkAll ds
 |[]=>by simp
 | d::ds=>by
   have h1:=AL d;have h2:=rC ds;simp only[Rows.uptoBulkAll,zM];omega
theorem KO {H:Type}:GZ (H:=H) Rows.uptoBulk:=⟨fun s=>by simp[Rows.uptoBulk],fun ds d h=>by have:=mf h;simp only[Rows.uptoBulk];omega,fun ds r=>by have:=rC ds;simp only[Rows.uptoBulk];omega,fun ds r d h=>by have:=mf h;simp only[Rows.uptoBulk];omega⟩
theorem walk (W:World) (hU:Lib.Utf8Tabs 0 1 W) (s:Value) (z0:(List UInt8)×(List ((Int)×(Int)×(Bool)))×(List (List UInt8))×(Bool)) (y0:aN (eaS W) (nI W) 0 (.agg ((.pair (.str) (.pair (.row (.pair (.int .i64) (.pair (.int .i64) (.bool)))) (.pair (.row (.str)) (.bool))):Ty).enc z0)) s)   (g0:SmT 1048576 (.pair (.str) (.pair (.row (.pair (.int .i64) (.pair (.int .i64) (.bool)))) (.pair (.row (.str)) (.bool))):Ty) z0):Calls Tryd.prog 3 #[s] W fun e w'=>e=.returned (.bool true)/\Below W.heap.size W w':=by
 have h:=w10 (sb W) (q26 hU) (q28 hU) (q39 hU) (q40 hU) (q41 hU) (q42 hU) (Ky W) z0.1 z0.2.1 z0.2.2.1 z0.2.2.2 g0.1 g0.2.1.1 g0.2.2.1.1;refine Calls.mono (EJ h (Br) (vs:=[s]) (ae.cons y0 (ae.nil))) ?_;rintro e w' ⟨u,ρ',n',rfl,hu,hb⟩;have hu:u=.bool true:=hu;subst hu;exact⟨rfl,hb⟩
theorem contract (H:Type) (enc:TypeId×Value->H) (W:World) (base:Nat) (args:Array Value) (ds gs:List (DataW H)) (before:List MemPlace)
 (hval:∀(j:Nat) t v,Tryd.f3.params[j]?=some t->args[j]?=some v->Value.okWide Tryd.prog W .any base t v)
 (hW:DataW.Whole enc Tryd.prog Tryd.f3.params.toList Rows.textJoinsSpec.vars false W args.toList ds gs before) (hs:Rows.uptoSmall H (ds++gs)=true) (hL:laidMetH Tryd.prog Rows.textJoinsUptoRow.laid W) :
 Calls Tryd.prog 3 args W fun e W'=>∃v,e=.returned v/\Rows.textJoinsSpec.post enc Tryd.prog Tryd.f3 false true false false W args v W':=by
 have hW':=hW;obtain⟨p,q,hA0,hV,rfl,hfz,hnd⟩:=hW;have hA:DataW.TrodAll enc Tryd.prog W 0 (fun _=>true) true Tryd.f3.params.toList args.toList ds p:=hA0;rw[Tryd.params3] at hA hval;obtain⟨v0,vs0,d0,ds0,p0,q0,hargs0,rfl,rfl,h0,r0⟩:=trodAll_cons hA;obtain⟨rfl,rfl,rfl⟩:=trodAll_nil r0;obtain rfl:args=#[v0]:=by cases args;simp_all
 obtain⟨rfl,rfl⟩:=trodVars_none hV;have lt0:∀x∈p0,x.block<W.heap.size:=fun x hx=>by simpa using hW'.lt x (by simp[hx])
 obtain⟨z0,y0,sm0⟩:=Gm (S:=eaS W) (n:=8) (T:=(.pair (.str) (.pair (.row (.pair (.int .i64) (.pair (.int .i64) (.bool)))) (.pair (.row (.str)) (.bool))):Ty)) KO Tryd.underlying25 (by kernel_rfl) (hval 0 25 v0 rfl rfl) h0;clear hA0;simp only[List.append_nil] at hW';have hs2:Rows.uptoBulk d0+0<=1048576:=of_decide_eq_true hs;refine(walk W (tabs hL) v0 z0 y0 (SmT.mono (by omega) _ sm0)).mono fun e W' ⟨he,hg⟩=>?_
 subst he;refine⟨_,rfl,_,_,_,[],p0,[],hW',?_,?_,?_,hg.frame _,fun h=>by cases h⟩
 .exact trodAll_mk1 (shut_bool Tryd.underlying4 _)
 .exact trodAll_mk1 (Below.trod laidOut (by kernel_rfl) (of_decide_eq_true (by kernel_rfl)) h0 hg lt0)
 .rfl
set_option maxRecDepth 1000000 in
theorem lifted (os:Os) (started:os.Started) (H:Type) (enc:TypeId×Value->H) (F:Stop.Interp) :
 ReturnsInHanded {} Tryd.checked os 3 .any ((Rows.OpenSpec.upto Rows.textJoinsSpec).preRow enc Tryd.prog Tryd.f3 Rows.textJoinsUptoRow.domain false Rows.textJoinsUptoRow.laid) (((Rows.OpenSpec.upto Rows.textJoinsSpec).at F).post enc Tryd.prog Tryd.f3 false true false false):=by
 have hx:(DataW.whole enc Tryd.prog ((mo os).forCall (fun _ _=>0) ⟨#[],#[.agg #[.string .empty,.slice none 0 0,.slice none 0 0,.bool false]],[]⟩).memory Tryd.f3.params.toList Rows.textJoinsSpec.vars false #[Value.agg #[.string .empty,.slice none 0 0,.slice none 0 0,.bool false]].toList 8).map (fun x=>(x.1,x.2.1))=some ([.agg [.lit (.string []),.nil,.nil,.lit (.bool false)]],[]):=by kernel_rfl
 obtain⟨⟨x1,x2,x3⟩,hx,hx1⟩:=zD.1 hx;simp only[zF] at hx1;obtain⟨rfl,rfl⟩:=hx1;refine returnsInHanded_of_row (C:=Tryd.checked) (s:=Rows.OpenSpec.upto Rows.textJoinsSpec) own started (by kernel_rfl) Tryd.func3
  (witness_row_at (enc:=enc) (C:=Tryd.checked) false (mo os) #[.agg #[.string .empty,.slice none 0 0,.slice none 0 0,.bool false]] rfl (by kernel_rfl) (by kernel_rfl) (by kernel_rfl)
   (OpenSpec.preRow_of_cond 8 hx (by kernel_rfl) (fun k hk=>by cases hk;rfl) (by kernel_rfl) (EL os _))) ?_
 intro W base args ds gs before hval hW _ hk _ hL _ _;exact contract H enc W base args ds gs before hval hW (hk _ rfl) hL
theorem said:Rows.TextJoinsUptoSaid:=
 OpenClaim.holds_of_cond 3 Tryd.f3 rfl rfl rfl rfl rfl rfl rfl ⟨rfl,rfl,rfl,rfl,rfl⟩ rfl rfl rfl rfl rfl (by kernel_rfl) Tryd.func3 (by kernel_rfl)
  (of_decide_eq_true (by kernel_rfl)) (by unfold Func.isWrapper;first | (rw[if_pos (by decide +kernel)];kernel_rfl) | (rw[if_neg (by decide +kernel)];exact⟨rfl,rfl⟩))
  (fun os started H enc _ F=>by rw[OpenClaim.pre_eq_preRow];exact lifted os started H enc F)
theorem plain (f : FuncId) (fn : Func) (hf : Tryd.pinned.checked.prog.funcNamed "errata/erratalaw02.TextJoins" = some f) (hfn : Tryd.pinned.checked.prog.funcs[f]? = some fn) :
 false=Tryd.pinned.checked.prog.looks []/\∀(j:Nat) t,fn.params[j]?=some t->Tryd.pinned.checked.prog.wantsStandIn t=false:=by
 obtain rfl : f = 3 := Option.some.inj ((show Tryd.prog.funcNamed "errata/erratalaw02.TextJoins" = some 3 by kernel_rfl).symm.trans hf) |>.symm
 obtain rfl:fn=Tryd.f3:=(Option.some.inj (Tryd.func3.symm.trans hfn)).symm;refine⟨by kernel_rfl,fun j t ht=>?_⟩;rw[Tryd.params3] at ht;have ht:=Array.mem_of_getElem? ht;have:t=25:=by simpa using ht
 subst this;exact(show Tryd.prog.wantsStandIn 25=false by kernel_rfl)
theorem card:Rows.TextJoinsUptoCardSaid:=
 Claim7.holds_tied_plain_at .later [] _ _ _ _ said (fun _ h=>by cases h) (by kernel_rfl) (fun _ h=>by cases h) textJoinsUpto_row_tie rfl ⟨rfl,rfl⟩ (by kernel_rfl) rfl plain (by kernel_rfl)
#print axioms card
end Go.Proofs.YtkpahammkkfphaaDoor.textJoins
