/- Texts. Conditions: none. -/
import Derived.Test.YtkpahammkkfphaaDoorEK2
import Derived.Test.YtkpahammkkfphaaDoorEK1
import Derived.RangeFuncLeaves
import Derived.LoopNIn
import Derived.RangeFuncCalls
set_option linter.unusedVariables false
set_option linter.unusedSimpArgs false
section
namespace Go.EA
def oZ (F:Fence):Prop:=F=Fence.wide\/∃l,F=Fence.wide.inRound l
theorem oZ.fn {F:Fence}(h:oZ F) (f:FuncId):F.fn f:=by rcases h with rfl | ⟨l,rfl⟩ <;> trivial
theorem oZ.depth {F:Fence}(h:oZ F):F.depth=none:=by rcases h with rfl | ⟨l,rfl⟩ <;> rfl
def DOk (H:Heap) (ρ:Rho) (w:World) (z:Nat) (ds:List Deferred):Prop:=
 ds.Pairwise (fun d e=>∀D E,d.target=.collected D->e.target=.collected E->D≠E)/\
 ∀d∈ds,∃D,d={ target:=.collected D,args:=#[] }/\z<=D/\w.heap[D]?=some (.deferred (some []))/\dB H ρ D
theorem DOk.nil {H:Heap}{ρ:Rho}{w:World}{z:Nat}:DOk H ρ w z []:=⟨List.Pairwise.nil,by simp⟩
theorem DOk.frm {m:Nat}{H H':Heap}{ρ ρ':Rho}{w w':World}{z:Nat}{ds:List Deferred}(h:DOk H ρ w z ds) (f:iQ m H ρ w H' ρ' w'):DOk H' ρ' w' z ds:=
 ⟨h.1,fun d hd=>let ⟨D,h1,h2,h3,h4⟩:=h.2 d hd;let k:=f.keep D (zQ.1 h3).1 h4;⟨D,h1,h2,k.1.trans h3,k.2⟩⟩
theorem DOk.app {m:Nat}{H H':Heap}{ρ ρ':Rho}{w w':World}{z:Nat}{ds es:List Deferred}(h:DOk H ρ w z ds) (f:iQ m H ρ w H' ρ' w') (hz:z<=w.heap.size) (h':DOk H' ρ' w' w.heap.size es):DOk H' ρ' w' z (es++ds):=by
 have hf:=h.frm f;refine⟨List.pairwise_append.2 ⟨h'.1,h.1,fun d hd e he D E h1 h2=>?_⟩,fun d hd=>?_⟩
 .obtain⟨D',hd1,hd2,_⟩:=h'.2 d hd;obtain⟨E',he1,_,he3,_⟩:=h.2 e he;rw[hd1] at h1;rw[he1] at h2;cases h1;cases h2;have:=(zQ.1 he3).1;omega
 .rcases zX.1 hd with h1 | h1
  .obtain⟨D,a,b,c,d⟩:=h'.2 d h1;exact⟨D,a,by omega,c,d⟩
  .exact hf.2 d h1
def nk (S:SC) (H:Heap) (ρ:Rho) (w:World) (v:AV) (H':Heap):Ending->World->Prop:=
 fun e w'=>∃u ρ',e=.returned u/\aJ S H' ρ' w'/\Frm H ρ w H' ρ' w'/\aN S ρ' H'.n v u
def BR (S:SC) (H:Heap) (ρ:Rho) (w:World) (v:AV) (H':Heap) (r:Result Next):Prop:=
 (∃u w',r=.ok (.value u) w'/\nk S H ρ w v H' (.returned u) w') \/
 (∃f args w1 ρ1,r=.ok (.enter f args) w1/\w1=w/\ρ1=ρ/\CallsIn Fence.wide 0 S.C.P f args w (nk S H ρ w v H')) \/
 (∃l f tmps as bd,r=.ok (.round l f tmps as bd) w/\RoundIn Fence.wide 0 S.C.P l f tmps as bd w (nk S H ρ w v H'))
def Ee (S:SC) (call:AV->List AV->Heap->Option (AV×Heap)):Prop:=
 ∀fv xs H v H',call fv xs H=some (v,H')->∀ρ w fval vs,aN S ρ H.n fv fval->ae (aN S ρ H.n) xs vs->aJ S H ρ w->
  ∃d,(Deferred.ofValue fval vs.toArray).run S.C.P w=.ok d w/\BR S H ρ w v H' ((invoke d.target d.args).run S.C.P w)
def dD (S:SC) (m:Nat) (H:Heap) (ρ:Rho) (w:World) (a:Act) (ex:Ex) (T':Tm) (H':Heap) (e:Exit) (a':Act) (w':World):Prop:=
 (match ex with | .normal=>e=.normal | .exit id=>e=.exit id | .ret=>e=.ret)/\
 ∃ρ' ds,eF S ρ' H'.n T' a'.tmps/\a'.tmps.size=a.tmps.size/\aJ S H' ρ' w'/\iQ m H ρ w H' ρ' w'/\a'.defers=ds++a.defers/\DOk H' ρ' w' w.heap.size ds
abbrev Post (S:SC) (H:Heap) (ρ:Rho) (w:World) (a:Act) (ex:Ex) (T':Tm) (H':Heap) (e:Exit) (a':Act) (w':World):Prop:=dD S H.n H ρ w a ex T' H' e a' w'
theorem dD.refl {S:SC}{m:Nat}{H:Heap}{ρ:Rho}{w:World}{a:Act}{T:Tm}(hm:m<=H.n) (hT:eF S ρ H.n T a.tmps) (hH:aJ S H ρ w) (ex:Ex):dD S m H ρ w a ex T H (match ex with | .normal=>.normal | .exit id=>.exit id | .ret=>.ret) a w:=
 ⟨by cases ex <;> rfl,ρ,[],hT,rfl,hH,(Frm.refl _ _ _).weak hm,rfl,DOk.nil⟩
theorem Post.refl {S:SC}{H:Heap}{ρ:Rho}{w:World}{a:Act}{T:Tm}(hT:eF S ρ H.n T a.tmps) (hH:aJ S H ρ w) (ex:Ex):Post S H ρ w a ex T H (match ex with | .normal=>.normal | .exit id=>.exit id | .ret=>.ret) a w:=
 dD.refl (zJ _) hT hH ex
theorem dD.transB {S:SC}{m m':Nat}{H H1 H2:Heap}{ρ ρ1:Rho}{w w1 w2:World}{a a1 a2:Act}{ex:Ex}{T2:Tm}{e:Exit}{ds:List Deferred}
 (hm:m<=m') (hs:a1.tmps.size=a.tmps.size) (f:iQ m H ρ w H1 ρ1 w1) (hd:a1.defers=ds++a.defers) (hok:DOk H1 ρ1 w1 w.heap.size ds) (h:dD S m' H1 ρ1 w1 a1 ex T2 H2 e a2 w2):dD S m H ρ w a ex T2 H2 e a2 w2:=by
 obtain⟨h0,ρ2,es,h1,h2,h3,h4,h5,h6⟩:=h;exact⟨h0,ρ2,es++ds,h1,h2.trans hs,h3,f.transB h4 hm,by rw[h5,hd,zO],hok.app h4 f.sz h6⟩
theorem dD.trans {S:SC}{H H1 H2:Heap}{ρ ρ1:Rho}{w w1 w2:World}{a a1 a2:Act}{ex:Ex}{T2:Tm}{e:Exit}{ds:List Deferred}
 (hs:a1.tmps.size=a.tmps.size) (f:Frm H ρ w H1 ρ1 w1) (hd:a1.defers=ds++a.defers) (hok:DOk H1 ρ1 w1 w.heap.size ds) (h:Post S H1 ρ1 w1 a1 ex T2 H2 e a2 w2):Post S H ρ w a ex T2 H2 e a2 w2:=
 dD.transB f.nn hs f hd hok h
section
variable {S:SC}
theorem iT {nt:Nat}{ops:Array Oper}:∀{l:List Oper}{ais:List AI},gI S.C nt ops l=some ais->∀i:Nat,(∀o,l[i]?=some o->∃ai,ais[i]?=some ai/\yK S.C nt ops o=some ai)/\(l[i]?=none->ais[i]?=none)
 |[],ais,h,i=>by simp[gI] at h;subst h;simp
 | o::r,ais,h,i=>by
   simp only[gI] at h;split at h
   .rename_i ai l' h1 h2;simp at h;subst h;cases i with
    |zero=>exact⟨fun o' ho=>by simp at ho;subst ho;exact⟨ai,rfl,h1⟩,by simp⟩
    |succ i=>simpa using iT h2 i
   .cases h
theorem qi {nt:Nat}{ops:Array Oper}{o:Oper}{g:Option (Nat×Bool)}{ρ:Rho}{n:Nat}{T:Tm}{tmps:Array Value}(hkn:known T g=true) (h:jH ops nt o.guard=some g) (hT:eF S ρ n T tmps) (hsz:tmps.size=nt) :
 Region.wanted o (yielded ops tmps)=wanted T g:=by
 unfold jH at h;unfold Region.wanted;split at h
 .rename_i hg;simp only[zE] at h;subst h;simp[hg,wanted]
 .rename_i j b hg;split at h
  .rename_i d hd;by_cases hlt:d<nt
   .rw[if_pos hlt] at h;simp only[zE] at h;subst h;simp only[hg,wanted,yielded,hd,Option.bind_some];have hlt':d<tmps.size:=by rw[hsz];exact hlt
    rw[Array.getElem?_eq_getElem hlt'];have hr:=hT d _ (Array.getElem?_eq_getElem hlt');generalize tmps[d]=v at hr;cases hTd:T d with
    | one x=>
      rw[hTd] at hr;have hr:=hr.one;cases x <;> simp only[aA] at hr
      case bool y=>subst hr; cases y <;> cases b <;> rfl
      case int k m=>subst hr;rfl
      case str s=>subst hr;rfl
      case ptr=>obtain⟨_,rfl⟩:=hr;rfl
      case nilp=>subst hr;rfl
      case sl=>obtain⟨_,_,_,rfl,_⟩:=hr;rfl
      case slz=>obtain⟨_,rfl⟩:=hr;rfl
      case nils=>subst hr;rfl
      case fn=>obtain⟨_,rfl⟩:=hr;rfl
      case yld=>obtain⟨_,rfl⟩:=hr;rfl
      case nilf=>subst hr;rfl
      case mp=>obtain⟨_,rfl⟩:=hr;rfl
      case nilm=>subst hr;rfl
      case nili=>subst hr;rfl
      case vrow=>simp only[aV] at hr;obtain⟨_,_,rfl,_⟩:=hr;rfl
      case vptr=>simp only[aV] at hr;obtain⟨_,_,_,_,_,rfl,_⟩:=hr;rfl
    |agg cs=>rw[hTd] at hr;obtain⟨arr,rfl,_⟩:=hr;rfl
    | tup vs=>
      rw[hTd] at hr;have hj:(AV.tup vs).isJ=false:=by simpa [known,hTd] using hkn
      obtain⟨arr,rfl,_⟩:=aN.tup hj hr;rfl
   .rw[if_neg hlt] at h;cases h
  .cases h
def aL (ais:List AI) (l:List Nat):List AI:=l.filterMap (ais[·]?)
theorem vO {ρ:Rho}{n:Nat}{T:Tm}{a:Act}{d:Option Nat}{v:AV}{u:Value}(hT:eF S ρ n T a.tmps) (hv:aN S ρ n v u):eF S ρ n (cz T d v) (a.put d u).tmps:=by
 cases d with
 |none=>exact hT
 |some d=>exact hT.put hv
theorem iy (a:Act) (d:Option Nat) (u:Value):(a.put d u).tmps.size=a.tmps.size/\(a.put d u).defers=a.defers:=by
 cases d <;> simp[Act.put]
theorem ny {nt:Nat}{ops:Array Oper}{o:Oper}{ai:AI}(h:yK S.C nt ops o=some ai):ai.dst=o.dst/\aG S.C nt o=some ai.op/\jH ops nt o.guard=some ai.gd:=by
 unfold yK at h;split at h
 .rename_i _ _ _ op g h1 h2 h3;simp only[zE] at h;subst h;exact⟨rfl,h2,h3⟩
 .cases h
theorem Es {bt:Option (TypeId×TypeId)}{t:TypeId}{z:List Lf}{f:Opd}{xs:List Opd}:uo bt t z≠.call f xs:=by
 unfold uo
 repeat' split
 all_goals simp
theorem JW {nt:Nat}{o:Oper}{f:Opd}{xs:List Opd}(h:aG S.C nt o=some (.call f xs)):∃c x,o.op=.call c/\c.callee=.value x/\aX S.C nt x=some f/\fe S.C nt c.args.toList=some xs:=by
 cases ho:o.op <;> simp only[aG,ho] at h
 case call c=>
  refine⟨c,?_⟩;split at h
  .rename_i xs' hxs;split at h
   .rename_i x hx;obtain⟨f',hf,he⟩:=zD.1 h;cases he;exact⟨x,rfl,hx,hf,hxs⟩
   .exfalso;unfold gF at h
    repeat' (split at h)
    all_goals (first | (simp at h;done) | (cases h;done))
   .cases h
  .cases h
 case alloc t=>obtain⟨_,_,h⟩:=zD.1 h;exact absurd h Es
 all_goals (exfalso;repeat' (split at h))
 all_goals (first | (simp at h;done) | (cases h;done))
end
end Go.EA
end
section
namespace Go.EA
def aP (S:SC) (i:Nat) (p:List AV->Heap->Option (AV×Heap)):Prop:=
 ∀xs H v H',p xs H=some (v,H')->∀ρ w vs,ae (aN S ρ H.n) xs vs->aJ S H ρ w->BR S H ρ w v H' ((callFunc (S.re i) vs.toArray).run S.C.P w)
structure SC.Good (S:SC) (X:Cx):Prop where
 ok:S.Ok
 fns : ∀ i af, X.ap i = some af → ∃ fn, S.C.P.funcs[S.re i]? = some fn ∧ Fg S.C S.dr fn = some af ∧ (fn.name == "runtime.NumGoroutine") = false
 prs:∀i p,X.pr i=some p->aP S i p
 draws:∀nt ops ais ls t,S.dr ops ais=some ls->gI S.C nt ops ops.toList=some ais->∃l∈jb ais ls.1,∃σ τ,Region.schedule (S.C.P.follows .mixedOrders) ops t=σ++τ/\(∃τ',aL ais τ=(jc ls).take 1++τ'/\∀T H r,aU (eD X (fun _ _ _=>none)) ((jc ls).drop 1) T H=some r->aU (eD X (fun _ _ _=>none)) τ' T H=some r)/\∀T H r,H.Hd->aU (eD X (fun _ _ _=>none)) l T H=some r->
  aU (eD X (fun _ _ _=>none)) (aL ais σ) T H=some r
section
variable {S:SC}
theorem mZ (ais:List AI):aL ais (List.range ais.length)=ais:=by
 have key:∀(l pre:List AI),(List.range' pre.length l.length).filterMap ((pre++l)[·]?)=l:=by
  intro l
  induction l with
  |nil=>intro pre;simp
  | cons x l ih=>
    intro pre;rw[zM,List.range'_succ,List.filterMap_cons];have h0:(pre++x::l)[pre.length]?=some x:=by simp
    rw[h0];have:=ih (pre++[x]);simp only[zL,zM,List.length_nil,zO,List.cons_append,List.nil_append,Nat.zero_add] at this;rw[this]
 have:=key ais [];simpa [aL,List.range_eq_range'] using this
theorem oD {nt:Nat}{ops:Array Oper}:∀{l:List Oper}{ais:List AI},gI S.C nt ops l=some ais->ais.length=l.length
 |[],ais,h=>by simp[gI] at h;subst h;rfl
 | o::r,ais,h=>by
   simp only[gI] at h;split at h
   .rename_i ai l' h1 h2;simp at h;subst h;simp[oD h2]
   .cases h
theorem aJ.untracked {H:Heap}{ρ:Rho}{w:World}(h:aJ S H ρ w) (ob:Obj):aJ S H ρ (w.alloc ob)/\Frm H ρ w H ρ (w.alloc ob):=by
 refine aJ.mk2 h (fun i hi=>?_) h.ap ⟨by simp,rfl,rfl,rfl,zJ _,fun _ _=>rfl,fun k hk hni=>⟨by rw[heap_alloc,if_neg (by omega)],hni⟩,fun _ _ h=>h,fun _ _ _=>rfl⟩;cases hd:live (H.o i) with
 | false=>
   have:H.o i=.dead:=by revert hd; cases H.o i <;> simp[live]
   rw[this];trivial
 | true=>
   rw[heap_alloc,if_neg (by have:=h.lt' hi hd;omega)];exact h.obj i hi
theorem aJ.shut {H:Heap}{ρ:Rho}{w:World}(h:aJ S H ρ w) {D:Nat}{x y:Option (List Deferred)}(hD:w.heap[D]?=some (.deferred x)) (hnf:S.fx D=none) :
 aJ S H ρ { w with heap:=w.heap.setIfInBounds D (.deferred y) }:=by
 refine⟨fun i hi=>?_,h.ap,fun k ob hk=>⟨?_,(h.fx k ob hk).2⟩,fun k ob hk=>⟨(h.fz k ob hk).1,?_,(h.fz k ob hk).2.2⟩,h.dr⟩
 rotate_left 2
 .show (w.heap.setIfInBounds D _)[k]?=_;rw[Array.getElem?_setIfInBounds_ne ?_]
  .exact(h.fz k ob hk).2.1
  .rintro rfl;obtain⟨⟨C,ty,fr,rfl⟩,h2,_⟩:=h.fz _ _ hk;rw[hD] at h2;cases h2
 rotate_left
 .show (w.heap.setIfInBounds D _)[k]?=_;rw[Array.getElem?_setIfInBounds_ne (by rintro rfl;rw[hnf] at hk;cases hk)];exact(h.fx k ob hk).1
 have ho:=h.obj i hi;show kE S ρ H.n (ρ i) (H.o i) ((w.heap.setIfInBounds D (.deferred y))[(ρ i).g]?);by_cases e:(ρ i).g=D
 .rw[e] at ho ⊢;rw[hD] at ho;cases hx:H.o i with
  |dead=>trivial
  |blk s els o=>rw[hx] at ho;obtain⟨_,C,ty,fr,h1,_⟩:=ho;cases h1
  |map es=>rw[hx] at ho;obtain⟨E,clk,h1,_⟩:=ho;cases h1
  |siter s pos=>rw[hx] at ho;obtain⟨h1,_⟩:=ho;cases h1
  |bld u x=>rw[hx] at ho;obtain⟨_,t,b,_,h1,_⟩:=ho;cases h1
  |loop st pend T ps as bd=>rw[hx] at ho;obtain⟨r,h1,_⟩:=ho;cases h1
 .rw[Array.getElem?_setIfInBounds_ne (fun h=>e h.symm)];exact ho
def rJ (tmps:Array Value):ResultVar->Sem Value
 |.tmp t=>pure (tmps.getD t undef)
 |.cell a t=>do loadVar t (<- asAddr (tmps.getD a undef))
theorem xC (fn:Func) (tmps:Array Value):results fn tmps=(do let vs <- fn.results.mapM (rJ tmps);pure (if h:vs.size=1 then vs[0] else .tuple vs)):=by
 unfold results
 congr 1
theorem ou {H:Heap}{ρ:Rho}{w:World}{nt:Nat}{T:Tm}{tmps:Array Value}(hT:eF S ρ H.n T tmps) (hn:tmps.size=nt) (hH:aJ S H ρ w) :
 ∀{rs:List ResultVar} {as:List dV} {vs:List AV},gy S.C.P nt rs=some as->fB T H as=some vs->
  ∃us,(rs.mapM (rJ tmps)).run S.C.P w=.ok us w/\ae (aN S ρ H.n) vs us
 | [],as,vs,hc,he=>by
   simp[gy] at hc;subst hc;simp[fB] at he;subst he;exact⟨[],by simp,ae.nil⟩
 | r::rs,as,vs,hc,he=>by
   have look:∀t,t<nt->aN S ρ H.n (T t) (tmps.getD t undef):=fun t ht=>by
    refine hT t _ ?_;rw[Array.getD_eq_getD_getElem?,Array.getElem?_eq_getElem (by omega:t<tmps.size)];rfl
   cases r with
   | tmp t=>
     simp only[gy] at hc;split at hc
     .rename_i l hl;by_cases ht:t<nt
      .rw[if_pos ht] at hc;simp only[zE] at hc;subst hc;simp only[fB,pY] at he;split at he
       .rename_i v vs' hv hvs;simp only[zE] at he hv;subst he;subst hv;obtain⟨us,h1,h2⟩:=ou hT hn hH hl hvs;exact⟨_::us,by simp only[List.mapM_cons,rJ,Sem.run_bind,Sem.run_pure,Result.andThen_ok,h1],ae.cons (look t ht) h2⟩
       .cases he
      .rw[if_neg ht] at hc;cases hc
     .cases hc
   | cell ad t=>
     simp only[gy] at hc;split at hc
     .rename_i l g n hl hg hsz;by_cases ht:ad<nt
      .rw[if_pos ht] at hc;simp only[zE] at hc;subst hc;simp only[fB,pY] at he;split at he
       .rename_i v vs' hv hvs;simp only[zE] at he;subst he;split at hv
        .rename_i b i j hTa;have hl2:=look ad ht;rw[hTa] at hl2;obtain⟨hb,had⟩:=hl2.one;obtain⟨u,hu,hru⟩:=Ab (P:=S.C.P) hg hsz hH hb hv;obtain⟨us,h1,h2⟩:=ou hT hn hH hl hvs;refine⟨u::us,?_,ae.cons hru h2⟩;simp only[List.mapM_cons,rJ,Sem.run_bind,Sem.run_pure,Result.andThen_ok,had,asAddr,hu,h1]
        .cases hv
       .cases he
      .rw[if_neg ht] at hc;cases hc
     .cases hc
theorem GV {H:Heap}{ρ:Rho}{w:World}{nt:Nat}{T:Tm}{tmps:Array Value}{fn:Func}{as:List dV}{v:AV}(hT:eF S ρ H.n T tmps) (hn:tmps.size=nt) (hH:aJ S H ρ w)
 (hc:gy S.C.P nt fn.results.toList=some as) (he:iw T H as=some v):∃u,(results fn tmps).run S.C.P w=.ok u w/\aN S ρ H.n v u:=by
 unfold iw at he;have core:∀{vs:List AV},fB T H as=some vs->∃us:List Value,(results fn tmps).run S.C.P w=.ok (if h:us.toArray.size=1 then us.toArray[0] else .tuple us.toArray) w/\ae (aN S ρ H.n) vs us:=by
  intro vs hvs;obtain⟨us,h1,h2⟩:=ou hT hn hH hc hvs;refine⟨us,?_,h2⟩;rw[xC,Array.mapM_eq_mapM_toList];simp only[Sem.run_bind,Sem.run_map];rw[h1];simp[Sem.run_pure]
 split at he
 .rename_i x hvs;simp only[zE] at he;subst he;obtain⟨us,h1,h2⟩:=core hvs;obtain⟨u,us',rfl,hu,ht⟩:=h2.cons_inv;obtain rfl:=ht.nil_inv;exact⟨u,by simpa using h1,hu⟩
 .rename_i vs hnot hvs;split at he
  .rename_i hall;simp only[zE] at he;subst he;obtain⟨us,h1,h2⟩:=core hvs;have hne:us.length≠1:=by
    intro hl;rw[<- h2.1] at hl;obtain⟨x,hx⟩:=List.length_eq_one_iff.1 hl;exact hnot x (by rw[hx])
   refine⟨.tuple us.toArray,by simpa [hne] using h1,.inr ⟨us.toArray,rfl,h2.1,fun i x y hx hy=>?_⟩⟩;have hr:=h2.2 i x y hx (by simpa using hy);have hx':x.isVal=true:=List.all_eq_true.1 hall x (zU hx);cases x with
   |one x=>exact hr
   |agg cs=>exact hr
   |tup vs=>cases hx'
  .cases he
 .cases he
theorem Ap {H:Heap}{ρ:Rho}{z:Nat}(hz:∀k ob,S.fx k=some ob->k<z) {fn:Func}{tmps:Array Value}{R:Ending->World->Prop}:∀(ds:List Deferred) (w:World),aJ S H ρ w->DOk H ρ w z ds->
 (∀w',aJ S H ρ w'->w'.heap.size=w.heap.size->w'.os=w.os->w'.tape=w.tape->w'.output=w.output->(∀k,(k<z\/¬ dB H ρ k)->w'.heap[k]?=w.heap[k]?)->∃v,(results fn tmps).run S.C.P w'=.ok v w'/\R (.returned v) w')->
 LeavesInM Fence.wide 0 S.C.P fn tmps R ds .returning w:=by
 intro ds
 induction ds with
 | nil=>
   intro w hH _ h;obtain⟨v,h1,h2⟩:=h w hH rfl rfl rfl rfl fun _ _=>rfl
   exact⟨v,h1,h2⟩
 | cons d ds ih=>
   intro w hH hd h;obtain⟨D,h1,h2,h3,h4⟩:=hd.2 d (by simp);have hp:=List.pairwise_cons.1 hd.1;refine⟨by simp,.inl ⟨D,{ w with heap:=w.heap.setIfInBounds D (.deferred none) },by rw[h1],?_,?_⟩⟩
   .simp[Instr.takeDeferred,getObj,setObj,Sem.run,h3]
   .refine ih _ (hH.shut h3 (by cases hfx:S.fx D with | none=>rfl | some ob=>have:=hz D ob hfx;omega)) ⟨hp.2,fun e he=>?_⟩ fun w' hw hsz hos htp hout hk=>?_
    .obtain⟨E,e1,e2,e3,e4⟩:=hd.2 e (by simp[he]);refine⟨E,e1,e2,?_,e4⟩;have hne:D≠E:=hp.1 e he D E (by rw[h1]) (by rw[e1]);show (w.heap.setIfInBounds D _)[E]?=_;rw[Array.getElem?_setIfInBounds_ne hne];exact e3
    .refine h w' hw (by rw[hsz];simp) hos htp hout fun k hk'=>?_
     rw[hk k hk'];show (w.heap.setIfInBounds D _)[k]?=_;rw[Array.getElem?_setIfInBounds_ne ?_];rintro rfl;rcases hk' with h | h
     .omega
     .exact h h4
theorem vL {ρ:Rho}{n:Nat}:∀{xs:List AV}{vs:List Value},ae (aN S ρ n) xs vs->∀m,eF S ρ n (jf xs) (vs.toArray++Array.replicate m undef)
 | [],vs,h,m=>by
   obtain rfl:=h.nil_inv;intro k v hk;have:v=undef:=by
    have h1:(#[]++Array.replicate m undef:Array Value)[k]?=some v:=hk;rw[Array.empty_append,Array.getElem?_replicate] at h1;split at h1
    .exact(Option.some.inj h1).symm
    .cases h1
   subst this;exact rQ
 | x::xs,vs,h,m=>by
   obtain⟨u,us,rfl,hu,ht⟩:=h.cons_inv;intro k v hk;cases k with
   | zero=>
     have:v=u:=by
      rw[<- Array.getElem?_toList] at hk;simpa using hk.symm
     subst this;exact hu
   | succ k=>
     refine vL ht m k v ?_;rw[<- Array.getElem?_toList] at hk ⊢;simpa using hk
theorem rF {ρ:Rho}{n:Nat}:∀{ps:List Nat}{xs:List AV}{vs:List Value}{T:Tm}{tmps:Array Value},eF S ρ n T tmps->ae (aN S ρ n) xs vs->xs.length=ps.length->
 eF S ρ n (setPs T ps xs) ((ps.zip vs).foldl (fun tmps (p:Nat×Value)=>tmps.setIfInBounds p.1 p.2) tmps)/\((ps.zip vs).foldl (fun tmps (p:Nat×Value)=>tmps.setIfInBounds p.1 p.2) tmps).size=tmps.size
 | [],xs,vs,T,tmps,hT,hx,hl=>by
   have:xs=[]:=zT (by simpa using hl);subst this;exact⟨hT,rfl⟩
 | p::ps,xs,vs,T,tmps,hT,hx,hl=>by
   cases xs with
   |nil=>simp at hl
   | cons x xs=>
     obtain⟨u,us,rfl,hu,ht⟩:=hx.cons_inv;have:=rF (ps:=ps) (hT.put (d:=p) hu) ht (by simpa using hl);simpa [setPs] using this
end
end Go.EA
end
section
namespace Go.EA
def MC (S:SC) (m:Nat) (ac:AC) (T:Tm) (H:Heap) (Q:Ex->Tm->Heap->Prop):Prop:=
 m<=H.n->∀(c:Code) (nt:Nat),aH S.C nt S.dr c=some ac->∀(F:Fence),oZ F->(F.round.isSome=true->noR ac=true)->∀(ρ:Rho) (a:Act) (w:World),eF S ρ H.n T a.tmps->a.tmps.size=nt->aJ S H ρ w->
  c.wpIn F 0 S.C.P (fun e a' w'=>∃ex T' H',Q ex T' H'/\dD S m H ρ w a ex T' H' e a' w') a w
def MO (S:SC) (m:Nat) (r:List AI) (T:Tm) (H:Heap) (Q:Tm->Heap->Prop):Prop:=
 m<=H.n->∀(ops:Array Oper) (nt:Nat) (ais:List AI) (l:List Nat),gI S.C nt ops ops.toList=some ais->aL ais l=r->∀(F:Fence),oZ F->∀(ρ:Rho) (a:Act) (w:World),eF S ρ H.n T a.tmps->a.tmps.size=nt->aJ S H ρ w->
  wpOpsIn F 0 S.C.P ops (fun e a' w'=>∃T' H',Q T' H'/\dD S m H ρ w a .normal T' H' e a' w') l a w
def lV (S:SC) (H:Heap) (ρ:Rho) (w:World) (Q:AV->Heap->Prop):Ending->World->Prop:=fun e w'=>∃v H',Q v H'/\nk S H ρ w v H' e w'
def Mo (S:SC) (H:Heap) (ρ:Rho) (w:World) (Q:AV->Heap->Prop) (r:Result Next):Prop:=
 (∃u w',r=.ok (.value u) w'/\lV S H ρ w Q (.returned u) w') \/
 (∃f args w1 ρ1,r=.ok (.enter f args) w1/\w1=w/\ρ1=ρ/\CallsIn Fence.wide 0 S.C.P f args w (lV S H ρ w Q)) \/
 (∃l f tmps as bd,r=.ok (.round l f tmps as bd) w/\RoundIn Fence.wide 0 S.C.P l f tmps as bd w (lV S H ρ w Q))
def dw (S:SC) (f:AV) (xs:List AV) (H:Heap) (Q:AV->Heap->Prop):Prop:=
 ∀ρ w fval vs,aN S ρ H.n f fval->ae (aN S ρ H.n) xs vs->aJ S H ρ w->
  ∃d,(Deferred.ofValue fval vs.toArray).run S.C.P w=.ok d w/\Mo S H ρ w Q ((invoke d.target d.args).run S.C.P w)
def MF (S:SC) (f:Nat) (cap:List (Nat×Nat×Nat)) (xs:List AV) (H:Heap) (Q:AV->Heap->Prop):Prop:=
 ∀ρ w vs,(∀c∈cap,c.1<H.n)->ae (aN S ρ H.n) xs vs->aJ S H ρ w->
  (callFunc (S.re f) (vs.toArray++(cap.map (bY ρ)).toArray)).run S.C.P w=.ok (.enter (S.re f) (vs.toArray++(cap.map (bY ρ)).toArray)) w/\
  CallsIn Fence.wide 0 S.C.P (S.re f) (vs.toArray++(cap.map (bY ρ)).toArray) w (lV S H ρ w Q)
theorem gN {F:Fence}{n:Nat}{P:Program}{c:Code}{Q Q':Exit->Act->World->Prop}(hq:∀e a w,Q e a w->Q' e a w):∀{k:Nat}{a:Act}{w:World},Code.roundsIn F n P c Q k a w->Code.roundsIn F n P c Q' k a w
 |0,_,_,h=>h.elim
 | k+1,a,w,h=>by
   rw[roundsIn_succ] at h ⊢;refine wpIn_mono h fun e a1 w1 h1=>?_
   cases e with
   |normal=>exact gN hq h1
   |exit id=>exact hq _ _ _ h1
   |goto l=>exact hq _ _ _ h1
   |ret=>exact hq _ _ _ h1
   |panic ch=>exact hq _ _ _ h1
   |outgrown=>exact hq _ _ _ h1
section
variable {S:SC} {m:Nat} {T:Tm} {H:Heap}
theorem MC.mono {ac:AC}{Q Q':Ex->Tm->Heap->Prop}(h:MC S m ac T H Q) (hq:∀e T H,Q e T H->Q' e T H):MC S m ac T H Q':=
 fun hm c nt hc F hF hR ρ a w hT hn hH=>wpIn_mono (h hm c nt hc F hF hR ρ a w hT hn hH) fun e a' w' ⟨ex,T',H',hp,hh⟩=>⟨ex,T',H',hq _ _ _ hp,hh⟩
theorem lV.mono {ρ:Rho}{w:World}{Q Q':AV->Heap->Prop}(hq:∀v H,Q v H->Q' v H) {e:Ending}{w':World}(h:lV S H ρ w Q e w'):lV S H ρ w Q' e w':=
 let ⟨v,H',h1,h2⟩:=h;⟨v,H',hq _ _ h1,h2⟩
theorem MF.mono {f:Nat}{cap:List (Nat×Nat×Nat)}{xs:List AV}{Q Q':AV->Heap->Prop}(h:MF S f cap xs H Q) (hq:∀v H,Q v H->Q' v H):MF S f cap xs H Q':=
 fun ρ w vs h1 h2 h3=>⟨(h ρ w vs h1 h2 h3).1,(h ρ w vs h1 h2 h3).2.mono fun e w' hr=>hr.mono hq⟩
theorem dw.mono {f:AV}{xs:List AV}{Q Q':AV->Heap->Prop}(h:dw S f xs H Q) (hq:∀v H,Q v H->Q' v H):dw S f xs H Q':=by
 intro ρ w fval vs h1 h2 h3;obtain⟨d,hd,hi⟩:=h ρ w fval vs h1 h2 h3;refine⟨d,hd,?_⟩;rcases hi with ⟨u,w',hr,hret⟩ | ⟨f',args,w1,ρ1,hr,e1,e2,hcalls⟩ | ⟨l',f',tmps,as,bd,hr,hround⟩
 .exact .inl ⟨u,w',hr,hret.mono hq⟩
 .exact .inr (.inl ⟨f',args,w1,ρ1,hr,e1,e2,hcalls.mono fun e w' h=>h.mono hq⟩)
 .exact .inr (.inr ⟨l',f',tmps,as,bd,hr,hround.mono fun e w' h=>h.mono hq⟩)
theorem MC.skip {Q:Ex->Tm->Heap->Prop}(h:Q .normal T H):MC S m .skip T H Q:=by
 intro hm c nt hc F hF hR ρ a w hT hn hH;cases c with
 |skip=>exact wpIn_skip ⟨_,_,_,h,dD.refl hm hT hH .normal⟩
 |label l=>exact wpIn_label ⟨_,_,_,h,dD.refl hm hT hH .normal⟩
 |region id ops draw=>simp only[aH] at hc; split at hc <;> (try split at hc) <;> (try split at hc) <;> cases hc
 |seq x y=>simp only[aH] at hc; split at hc <;> cases hc
 |cond c x y=>simp only[aH] at hc; split at hc <;> cases hc
 |rangeFunc f ps x y=>simp only[aH] at hc; split at hc <;> (try split at hc) <;> cases hc
 |_=>simp[aH] at hc
theorem MC.exit {id:Nat}{Q:Ex->Tm->Heap->Prop}(h:Q (.exit id) T H):MC S m (.exit id) T H Q:=by
 intro hm c nt hc F hF hR ρ a w hT hn hH;cases c with
 |exit id'=>simp only[aH,zE,AC.exit.injEq] at hc;subst hc;exact wpIn_exit ⟨_,_,_,h,dD.refl hm hT hH (.exit _)⟩
 |region id ops draw=>simp only[aH] at hc; split at hc <;> (try split at hc) <;> (try split at hc) <;> cases hc
 |seq x y=>simp only[aH] at hc; split at hc <;> cases hc
 |cond c x y=>simp only[aH] at hc; split at hc <;> cases hc
 |rangeFunc f ps x y=>simp only[aH] at hc; split at hc <;> (try split at hc) <;> cases hc
 |_=>simp[aH] at hc
theorem MC.ret {Q:Ex->Tm->Heap->Prop}(h:Q .ret T H):MC S m .ret T H Q:=by
 intro hm c nt hc F hF hR ρ a w hT hn hH;cases c with
 |ret=>exact wpIn_ret ⟨_,_,_,h,dD.refl hm hT hH .ret⟩
 |region id ops draw=>simp only[aH] at hc; split at hc <;> (try split at hc) <;> (try split at hc) <;> cases hc
 |seq x y=>simp only[aH] at hc; split at hc <;> cases hc
 |cond c x y=>simp only[aH] at hc; split at hc <;> cases hc
 |rangeFunc f ps x y=>simp only[aH] at hc; split at hc <;> (try split at hc) <;> cases hc
 |_=>simp[aH] at hc
theorem dQ {P:Program}{b:Frame}{a:Act}{k:List Item}{cs:List Frame}{w:World}{c:Code}:step P (lone (b.atR a (.code (.scope c)::k)) cs w)=.next (lone (b.atR a (.code c::.inScope c::k)) cs w):=
 step_lone_go (by simp[stepG,stepG.exec,Frame.atR])
theorem ql {P:Program}{b:Frame}{a:Act}{k:List Item}{cs:List Frame}{w:World}{c:Code}:step P (lone (b.atR a (.inScope c::k)) cs w)=.next (lone (b.atR a k) cs w):=
 step_lone_go (by simp[stepG,stepG.exec,Frame.atR])
theorem wZ {F:Fence}{n:Nat}{P:Program}{c:Code}{Q:Exit->Act->World->Prop}{a:Act}{w:World}(h:c.wpIn F n P Q a w) (hg:∀l a w,¬ Q (.goto l) a w):(Code.scope c).wpIn F n P Q a w:=by
 intro b k cs hro hb hr;have h0:(lone (b.atR a (.code (.scope c)::k)) cs w).fenced P F:=fenced_calm hb hr rfl;obtain⟨e,a₁,w₁,hq,harr⟩:=h b (.inScope c::k) cs hro hb hr;cases e with
 |normal=>exact⟨.normal,a₁,w₁,hq,.head h0 dQ (StepsIn.trans harr (.one (fenced_calm hb hr rfl) ql))⟩
 |exit id=>exact⟨_,a₁,w₁,hq,fun k' hk=>.head h0 dQ (harr.1 k' (by simp[exitTo,hk])),fun hr' hk=>let ⟨k₁,h1,h2⟩:=harr.2 hr' (by simp[exitTo,hk]);⟨k₁,h1,.head h0 dQ h2⟩⟩
 |goto l=>exact absurd hq (hg l a₁ w₁)
 |ret=>exact⟨_,a₁,w₁,hq,.of_steps (.one h0 dQ) harr⟩
 |panic ch=>exact⟨_,a₁,w₁,hq,.of_steps (.one h0 dQ) harr⟩
 |outgrown=>exact⟨_,a₁,w₁,hq,.of_steps (.one h0 dQ) harr⟩
def Iz (S:SC) (m:Nat) (b:AC) (Q:Ex->Tm->Heap->Prop):Ex->Tm->Heap->Prop
 |.normal,T,H=>MC S m b T H Q
 |e,T,H=>Q e T H
theorem MC.seq {x y:AC}{Q:Ex->Tm->Heap->Prop}(hnx:x≠.skip) (h:MC S m x T H (Iz S m y Q)):MC S m (.seq x y) T H Q:=by
 intro hm c nt hc F hF hR ρ a w hT hn hH;have hR2:F.round.isSome=true->noR x=true/\noR y=true:=fun h=>by have:=hR h;simpa [noR] using this
 cases c with
 | seq cx cy=>
   simp only[aH] at hc;split at hc
   .rename_i ax ay hx hy;simp only[zE,AC.seq.injEq] at hc;obtain⟨rfl,rfl⟩:=hc;refine wpIn_seq (wpIn_mono (h hm cx nt hx F hF (fun h=>(hR2 h).1) ρ a w hT hn hH) ?_);rintro e a1 w1 ⟨ex,T1,H1,hq,hp⟩;cases ex with
    | normal=>
      obtain⟨h0,ρ1,ds,h1,h2,h3,h4,h5,h6⟩:=hp;simp only at h0;subst h0;show cy.wpIn F 0 S.C.P _ a1 w1;refine wpIn_mono (hq h4.nn cy nt hy F hF (fun h=>(hR2 h).2) ρ1 a1 w1 h1 (h2.trans hn) h3) ?_;rintro e a2 w2 ⟨ex2,T2,H2,hq2,hp2⟩;exact⟨ex2,T2,H2,hq2,hp2.transB (zJ _) h2 h4 h5 h6⟩
    | exit id=>
      have h0:=hp.1;simp only at h0;subst h0;exact⟨_,T1,H1,hq,hp⟩
    | ret=>
      have h0:=hp.1;simp only at h0;subst h0;exact⟨_,T1,H1,hq,hp⟩
   .cases hc
 | scope cx=>
   simp only[aH] at hc;obtain⟨ax,hx',he⟩:=zD.1 hc;simp only[AC.seq.injEq] at he;exact absurd he.1.symm hnx
 |region id ops draw=>simp only[aH] at hc; split at hc <;> (try split at hc) <;> (try split at hc) <;> cases hc
 |cond c x y=>simp only[aH] at hc; split at hc <;> cases hc
 |rangeFunc f ps x y=>simp only[aH] at hc; split at hc <;> (try split at hc) <;> cases hc
 |_=>simp[aH] at hc
theorem MC.skip_seq {y:AC}{Q:Ex->Tm->Heap->Prop}(h:MC S m y T H Q):MC S m (.seq .skip y) T H Q:=by
 intro hm c nt hc F hF hR ρ a w hT hn hH;have hR2:F.round.isSome=true->noR y=true:=fun h=>by have:=hR h;simpa [noR] using this
 cases c with
 | seq cx cy=>
   simp only[aH] at hc;split at hc
   .rename_i ax ay hx hy;simp only[zE,AC.seq.injEq] at hc;obtain⟨rfl,rfl⟩:=hc;have h0:MC S m .skip T H (Iz S m ay Q):=MC.skip h;refine wpIn_seq (wpIn_mono (h0 hm cx nt hx F hF (fun _=>rfl) ρ a w hT hn hH) ?_);rintro e a1 w1 ⟨ex,T1,H1,hq,hp⟩;cases ex with
    | normal=>
      obtain⟨h0,ρ1,ds,h1,h2,h3,h4,h5,h6⟩:=hp;simp only at h0;subst h0;show cy.wpIn F 0 S.C.P _ a1 w1;refine wpIn_mono (hq h4.nn cy nt hy F hF hR2 ρ1 a1 w1 h1 (h2.trans hn) h3) ?_;rintro e a2 w2 ⟨ex2,T2,H2,hq2,hp2⟩;exact⟨ex2,T2,H2,hq2,hp2.transB (zJ _) h2 h4 h5 h6⟩
    | exit id=>
      have h0:=hp.1;simp only at h0;subst h0;exact⟨_,T1,H1,hq,hp⟩
    | ret=>
      have h0:=hp.1;simp only at h0;subst h0;exact⟨_,T1,H1,hq,hp⟩
   .cases hc
 | scope cx=>
   simp only[aH] at hc;obtain⟨ax,hx,he⟩:=zD.1 hc;simp only[AC.seq.injEq] at he;obtain⟨-,rfl⟩:=he;refine wZ (h hm cx nt hx F hF hR2 ρ a w hT hn hH) ?_;rintro l a1 w1 ⟨ex,T1,H1,hq,hp⟩;have:=hp.1;cases ex <;> cases this
 |region id ops draw=>simp only[aH] at hc; split at hc <;> (try split at hc) <;> (try split at hc) <;> cases hc
 |cond c x y=>simp only[aH] at hc; split at hc <;> cases hc
 |rangeFunc f ps x y=>simp only[aH] at hc; split at hc <;> (try split at hc) <;> cases hc
 |_=>simp[aH] at hc
theorem MC.cond {x:Opd}{p q:AC}{Q:Ex->Tm->Heap->Prop}(b:Bool) (hb:x.ev T=.one (.bool b)) (hok:S.Ok) (h:MC S m (if b then p else q) T H Q):MC S m (.cond x p q) T H Q:=by
 intro hm c nt hc F hF hR ρ a w hT hn hH;have hR2:F.round.isSome=true->noR p=true/\noR q=true:=fun h=>by have:=hR h;simpa [noR] using this
 cases c with
 | cond cx cp cq=>
   simp only[aH] at hc;split at hc
   .rename_i cc ax ay hcc hx hy;simp only[zE,AC.cond.injEq] at hc;obtain⟨rfl,rfl,rfl⟩:=hc;have hv:=ll hok hT hn hcc;rw[hb] at hv;cases b with
    |true=>exact wpIn_cond_true hv.one (h hm cp nt hx F hF (fun h=>(hR2 h).1) ρ a w hT hn hH)
    |false=>exact wpIn_cond_false hv.one (h hm cq nt hy F hF (fun h=>(hR2 h).2) ρ a w hT hn hH)
   .cases hc
 |region id ops draw=>simp only[aH] at hc; split at hc <;> (try split at hc) <;> (try split at hc) <;> cases hc
 |seq x y=>simp only[aH] at hc; split at hc <;> cases hc
 |rangeFunc f ps x y=>simp only[aH] at hc; split at hc <;> (try split at hc) <;> cases hc
 |_=>simp[aH] at hc
theorem MC.block {id:Nat}{x:AC}{Q:Ex->Tm->Heap->Prop}(h:MC S m x T H fun e T' H'=>match e with | .exit id'=>if id'=id then Q .normal T' H' else Q (.exit id') T' H' | e=>Q e T' H'):MC S m (.block id x) T H Q:=by
 intro hm c nt hc F hF hR ρ a w hT hn hH;cases c with
 | block id' cx=>
   simp only[aH] at hc;obtain⟨ax,hx,he⟩:=zD.1 hc;simp only[AC.block.injEq] at he;obtain⟨rfl,rfl⟩:=he;refine wpIn_block (wpIn_mono (h hm cx nt hx F hF hR ρ a w hT hn hH) ?_);rintro e a1 w1 ⟨ex,T1,H1,hq,hp⟩;have h0:=hp.1;cases ex with
   |normal=>simp only at h0;subst h0;exact⟨_,T1,H1,hq,hp⟩
   | exit i=>
     simp only at h0;subst h0;show if i=id' then _ else _
     simp only at hq;by_cases hi:i=id'
     .rw[if_pos hi] at hq ⊢;exact⟨.normal,T1,H1,hq,rfl,hp.2⟩
     .rw[if_neg hi] at hq ⊢;exact⟨_,T1,H1,hq,hp⟩
   |ret=>simp only at h0;subst h0;exact⟨_,T1,H1,hq,hp⟩
 |region id ops draw=>simp only[aH] at hc; split at hc <;> (try split at hc) <;> (try split at hc) <;> cases hc
 |seq x y=>simp only[aH] at hc; split at hc <;> cases hc
 |cond c x y=>simp only[aH] at hc; split at hc <;> cases hc
 |rangeFunc f ps x y=>simp only[aH] at hc; split at hc <;> (try split at hc) <;> cases hc
 |_=>simp[aH] at hc
theorem MC.loop {x:AC}{Q:Ex->Tm->Heap->Prop}(Inv:Nat->Tm->Heap->Prop)
 (h:∀k T H,Inv k T H->MC S m x T H fun e T' H'=>match e with | .normal=>∃k',k'<k/\Inv k' T' H' | e=>Q e T' H') {k:Nat} (hi:Inv k T H):MC S m (.loop x) T H Q:=by
 intro hm c nt hc F hF hR ρ a w hT hn hH;cases c with
 | loop cx=>
   simp only[aH] at hc;obtain⟨ax,hx,he⟩:=zD.1 hc;simp only[AC.loop.injEq] at he;subst he;have key:∀n k T H,k<n->Inv k T H->m<=H.n->∀(ρ:Rho) (a:Act) (w:World),eF S ρ H.n T a.tmps->a.tmps.size=nt->aJ S H ρ w->
    Code.roundsIn F 0 S.C.P cx (fun e a' w'=>∃ex T' H',Q ex T' H'/\dD S m H ρ w a ex T' H' e a' w') n a w:=by
    intro n
    induction n with
    |zero=>intro k T H hk;omega
    | succ n ih=>
      intro k T H hk hi hm ρ a w hT hn hH;rw[roundsIn_succ];refine wpIn_mono (h k T H hi hm cx nt hx F hF hR ρ a w hT hn hH) ?_;rintro e a1 w1 ⟨ex,T1,H1,hq,hp⟩;have h0:=hp.1;cases ex with
      | normal=>
        simp only at h0;subst h0;obtain⟨k',hk',hi'⟩:=hq;obtain⟨_,ρ1,ds,h1,h2,h3,h4,h5,h6⟩:=hp;have hq2:∀{e a2 w2},(∃ex T' H',Q ex T' H'/\dD S m H1 ρ1 w1 a1 ex T' H' e a2 w2)->∃ex T' H',Q ex T' H'/\dD S m H ρ w a ex T' H' e a2 w2:=by
         rintro e a2 w2 ⟨ex2,T2,H2,hq2,hp2⟩;exact⟨ex2,T2,H2,hq2,hp2.transB (zJ _) h2 h4 h5 h6⟩
        have hr:=ih k' T1 H1 (by omega) hi' h4.nn ρ1 a1 w1 h1 (h2.trans hn) h3;exact gN (fun e a2 w2=>hq2) hr
      |exit id=>simp only at h0;subst h0;exact⟨_,T1,H1,hq,hp⟩
      |ret=>simp only at h0;subst h0;exact⟨_,T1,H1,hq,hp⟩
   exact wpIn_loop_rounds (k+1) (key (k+1) k T H (by omega) hi hm ρ a w hT hn hH)
 |region id ops draw=>simp only[aH] at hc; split at hc <;> (try split at hc) <;> (try split at hc) <;> cases hc
 |seq x y=>simp only[aH] at hc; split at hc <;> cases hc
 |cond c x y=>simp only[aH] at hc; split at hc <;> cases hc
 |rangeFunc f ps x y=>simp only[aH] at hc; split at hc <;> (try split at hc) <;> cases hc
 |_=>simp[aH] at hc
def MR (S:SC) (m:Nat) (x:AC) (n:Nat) (T:Tm) (H:Heap) (Q:Ex->Tm->Heap->Prop):Prop:=
 m<=H.n->∀(c:Code) (nt:Nat),aH S.C nt S.dr c=some x->∀(F:Fence),oZ F->(F.round.isSome=true->noR x=true)->∀(ρ:Rho) (a:Act) (w:World),eF S ρ H.n T a.tmps->a.tmps.size=nt->aJ S H ρ w->
  Code.roundsIn F 0 S.C.P c (fun e a' w'=>∃ex T' H',Q ex T' H'/\dD S m H ρ w a ex T' H' e a' w') n a w
theorem MC.rounds {x:AC}{Q:Ex->Tm->Heap->Prop}(n:Nat) (h:MR S m x n T H Q):MC S m (.loop x) T H Q:=by
 intro hm c nt hc F hF hR ρ a w hT hn hH;cases c with
 | loop cx=>
   simp only[aH] at hc;obtain⟨ax,hx,he⟩:=zD.1 hc;simp only[AC.loop.injEq] at he;subst he;exact wpIn_loop_rounds n (h hm cx nt hx F hF hR ρ a w hT hn hH)
 |region id ops draw=>simp only[aH] at hc; split at hc <;> (try split at hc) <;> (try split at hc) <;> cases hc
 |seq x y=>simp only[aH] at hc; split at hc <;> cases hc
 |cond c x y=>simp only[aH] at hc; split at hc <;> cases hc
 |rangeFunc f ps x y=>simp only[aH] at hc; split at hc <;> (try split at hc) <;> cases hc
 |_=>simp[aH] at hc
theorem MR.succ {x:AC}{n:Nat}{Q:Ex->Tm->Heap->Prop}(h:MC S m x T H fun e T' H'=>match e with | .normal=>MR S m x n T' H' Q | e=>Q e T' H'):MR S m x (n+1) T H Q:=by
 intro hm c nt hx F hF hR ρ a w hT hn hH;rw[roundsIn_succ];refine wpIn_mono (h hm c nt hx F hF hR ρ a w hT hn hH) ?_;rintro e a1 w1 ⟨ex,T1,H1,hq,hp⟩;have h0:=hp.1;cases ex with
 | normal=>
   simp only at h0;subst h0;obtain⟨_,ρ1,ds,h1,h2,h3,h4,h5,h6⟩:=hp;have hr:=hq h4.nn c nt hx F hF hR ρ1 a1 w1 h1 (h2.trans hn) h3;refine gN ?_ hr;rintro e a2 w2 ⟨ex2,T2,H2,hq2,hp2⟩;exact⟨ex2,T2,H2,hq2,hp2.transB (zJ _) h2 h4 h5 h6⟩
 |exit id=>simp only at h0;subst h0;exact⟨_,T1,H1,hq,hp⟩
 |ret=>simp only at h0;subst h0;exact⟨_,T1,H1,hq,hp⟩
end
end Go.EA
end
section
namespace Go.EA
def jT:AOp->Bool
 |.call _ _=>true
 |_=>false
theorem uP {F:Fence}{n:Nat}{P:Program}{o:Oper}{a:Act}{nx nx':Act->World->Prop}{Q Q':Exit->Act->World->Prop}(hn:∀a w,nx a w->nx' a w) (hq:∀e a w,Q e a w->Q' e a w) {r:Result Next}(h:o.uponIn F n P a nx Q r):o.uponIn F n P a nx' Q' r:=by
 unfold Oper.uponIn at h ⊢;split at h
 .exact hn _ _ h
 .exact hn _ _ h
 .exact hn _ _ h
 .refine⟨h.1,h.2.mono fun e w' he=>?_⟩;cases e with
  |returned v=>exact hn _ _ he
  |panicked ch=>exact hq _ _ _ he
  |outgrown=>obtain⟨a,w,h⟩:=he;exact⟨a,w,hq _ _ _ h⟩
 .exact⟨h.1,h.2.mono fun v w' he=>hn _ _ he⟩
 .refine⟨h.1,h.2.mono fun e w' he=>?_⟩;cases e with
  |returned v=>exact hn _ _ he
  |panicked ch=>exact hq _ _ _ he
  |outgrown=>obtain⟨a,w,h⟩:=he;exact⟨a,w,hq _ _ _ h⟩
 .exact hq _ _ _ h
 .exact h.elim
theorem bD {F:Fence}{n:Nat}{P:Program}{ops:Array Oper}{Q Q':Exit->Act->World->Prop}(hq:∀e a w,Q e a w->Q' e a w):∀(l:List Nat) (a:Act) (w:World),wpOpsIn F n P ops Q l a w->wpOpsIn F n P ops Q' l a w
 |[],a,w,h=>hq _ _ _ h
 | i::rest,a,w,h=>by
   simp only[wpOpsIn] at h ⊢;split
   .rename_i ho;rw[ho] at h;exact bD hq rest _ _ h
   .rename_i o ho;rw[ho] at h;simp only at h;split
    .rename_i hw;rw[if_pos hw] at h;exact⟨h.1,uP (fun a w h=>bD hq rest a w h) hq h.2⟩
    .rename_i hw;rw[if_neg hw] at h;exact⟨h.1,bD hq rest _ _ h.2⟩
section
variable {S:SC} {X:Cx} {m:Nat} {T:Tm} {H:Heap}
theorem MO.nil {Q:Tm->Heap->Prop}(h:Q T H):MO S m [] T H Q:=by
 intro hm ops nt ais l hc hl F hF ρ a w hT hn hH
 induction l with
 |nil=>exact⟨T,H,h,dD.refl hm hT hH .normal⟩
 | cons i rest ih=>
   obtain⟨hsome,hnone⟩:=iT hc i;simp only[wpOpsIn];cases ho:ops[i]? with
   | none=>
     have h0:ais[i]?=none:=hnone (by simpa using ho);exact ih (by rw[<- hl];simp[aL,h0])
   | some o=>
     obtain⟨ai,hai,hci⟩:=hsome o (by simpa using ho);simp[aL,hai] at hl
theorem MO.cons (hok:S.Ok) {i:AI}{r:List AI}{Q:Tm->Heap->Prop}(hkn:known T i.gd=true)
 (hh:(wanted T i.gd=false/\MO S m r (cz T i.dst und) H Q) \/
  (wanted T i.gd=true/\jT i.op=false/\∃v H1,ah T H i.op=some (v,H1)/\MO S m r (cz T i.dst v) H1 Q) \/
  (wanted T i.gd=true/\∃f xs,i.op=.call f xs/\dw S (f.ev T) (xs.map (·.ev T)) H fun v H1=>MO S m r (cz T i.dst v) H1 Q)):MO S m (i::r) T H Q:=by
 intro hm ops nt ais l hc hl F hF ρ a w hT hn hH
 induction l with
 |nil=>simp[aL] at hl
 | cons q rest ih=>
   obtain⟨hsome,hnone⟩:=iT hc q;simp only[wpOpsIn];cases ho:ops[q]? with
   | none=>
     have h0:ais[q]?=none:=hnone (by simpa using ho);exact ih (by rw[<- hl];simp[aL,h0])
   | some o=>
     obtain⟨ai,hai,hci⟩:=hsome o (by simpa using ho);have hcons:aL ais (q::rest)=ai::aL ais rest:=by simp[aL,hai]
     rw[hcons] at hl;simp only[zG] at hl;obtain⟨rfl,hl⟩:=hl;obtain⟨hdst,hop,hgd⟩:=ny hci;have hw:=qi (S:=S) hkn hgd hT hn;simp only[hw];have next:∀{v:AV} {u:Value} {H1:Heap} {ρ1:Rho} {w1:World},MO S m r (cz T ai.dst v) H1 Q->aJ S H1 ρ1 w1->Frm H ρ w H1 ρ1 w1->aN S ρ1 H1.n v u->
      wpOpsIn F 0 S.C.P ops (fun e a' w'=>∃T' H',Q T' H'/\dD S m H ρ w a .normal T' H' e a' w') rest (a.put o.dst u) w1:=by
      intro v u H1 ρ1 w1 h1 hH1 hf1 hv1;rw[hdst] at h1;have:=h1 (Nat.le_trans hm hf1.nn) ops nt ais rest hc hl F hF ρ1 (a.put o.dst u) w1 (vO (hT.mono hf1.ext) hv1) ((iy _ _ _).1.trans hn) hH1;refine bD ?_ rest _ _ this;rintro e a' w' ⟨T',H',hq,hp⟩;exact⟨T',H',hq,hp.transB (zJ _) (ds:=[]) (iy _ _ _).1 (hf1.weak hm) (iy _ _ _).2 DOk.nil⟩
     have hnd:∀c,o.op≠.defer c:=by intro c hc;simp[aG,hc] at hop
     have hd0:F.depth.isSome=true->1<=0:=by rw[hF.depth];simp
     rcases hh with ⟨hwt,hnext⟩ | ⟨hwt,hnc,v,H1,he,hnext⟩ | ⟨hwt,f,xs,hao,hcall⟩
     .rw[hwt];simp only[Bool.false_eq_true,if_false];exact⟨fun f _=>hF.fn f,next hnext hH (Frm.refl _ _ _) rQ⟩
     .rw[hwt];simp only[if_true];unfold Oper.wpIn;refine⟨fun f _=>hF.fn f,?_⟩;rw[Oper.semAt_eq _ _ _ hnd];obtain⟨ρ',w',h1,h2,h3⟩:=En ⟨hok,hT,hn,hH⟩ hop he;rcases h3 with ⟨u,hr,hv⟩ | ⟨hr,rfl⟩
      .rw[hr];exact next hnext h1 h2 hv
      .rw[hr];exact next hnext h1 h2 rQ
     .rw[hwt];simp only[if_true];unfold Oper.wpIn;refine⟨fun f _=>hF.fn f,?_⟩;rw[Oper.semAt_eq _ _ _ hnd];rw[hao] at hop;obtain⟨c,x,hoc,hcal,hfx,hxs⟩:=JW hop;have p:Pre S H ρ w nt T a:=⟨hok,hT,hn,hH⟩;obtain⟨d,hd,hinv⟩:=hcall ρ w _ _ (p.opd hfx) (p.opds hxs) hH;have hexec:(execOp a.eval o).run S.C.P w=(invoke d.target d.args).run S.C.P w:=by
       have harr:(c.args.toList.map a.eval).toArray=c.args.map a.eval:=by rw[<- Array.toList_inj];simp
       rw[harr] at hd;simp only[execOp,hoc,resolve,hcal,Sem.run_bind,hd,Result.andThen_ok]
      rw[hexec];rcases hinv with ⟨u,w',hr,v,H1,hq,hret⟩ | ⟨f',args,w1,ρ1,hr,rfl,rfl,hcalls⟩ | ⟨l',f',tmps,as,bd,hr,hround⟩
      .rw[hr];obtain⟨u',ρ',e1,h1,h2,h3⟩:=hret;cases e1;exact next hq h1 h2 h3
      .rw[hr];simp only[Oper.uponIn];refine⟨hd0,?_⟩;have hcin:CallsIn F 0 S.C.P f' args w1 (lV S H ρ1 w1 fun v H1=>MO S m r (cz T ai.dst v) H1 Q):=by rcases hF with rfl | ⟨l',rfl⟩;exact hcalls;exact hcalls.inRound l'
       refine hcin.mono fun e w' hret=>?_
       obtain⟨v,H1,hq,u',ρ',rfl,h1,h2,h3⟩:=hret;exact next hq h1 h2 h3
      .rw[hr];simp only[Oper.uponIn];refine⟨hd0,?_⟩;have hrin:RoundIn F 0 S.C.P l' f' tmps as bd w (lV S H ρ w fun v H1=>MO S m r (cz T ai.dst v) H1 Q):=by rcases hF with rfl | ⟨l'',rfl⟩;exact hround;exact hround
       refine hrin.mono fun e w' hret=>?_
       obtain⟨v,H1,hq,u',ρ',rfl,h1,h2,h3⟩:=hret;exact next hq h1 h2 h3
theorem MC.reg {ops:List AI}{Q:Ex->Tm->Heap->Prop}(h:MO S m ops T H (Q .normal)):MC S m (.reg ops) T H Q:=by
 intro hm c nt hc F hF hR ρ a w hT hn hH;cases c with
 | region id oa draw=>
   simp only[aH] at hc;split at hc
   case h_2=>cases hc
   rename_i ais hais;have hlen:ais.length=oa.size:=by have:=oD hais;simpa using this
   cases draw with
   | false=>
     simp only[Bool.false_eq_true,if_false,zE,AC.reg.injEq] at hc;subst hc;refine wpIn_region ?_;have:=h hm oa nt ais _ hais (mZ ais) F hF ρ a w hT hn hH;rw[hlen] at this;refine bD ?_ _ _ _ this;rintro e a' w' ⟨T',H',hq,hp⟩;exact⟨_,T',H',hq,hp⟩
   | true=>
     simp only[if_true] at hc;split at hc <;> cases hc
 |seq x y=>simp only[aH] at hc; split at hc <;> cases hc
 |cond c x y=>simp only[aH] at hc; split at hc <;> cases hc
 |rangeFunc f ps x y=>simp only[aH] at hc; split at hc <;> (try split at hc) <;> cases hc
 |_=>simp[aH] at hc
def callP (X:Cx):AV->List AV->Heap->Option (AV×Heap):=eD X fun _ _ _=>none
theorem DR (hS:S.Good X):Ee S (callP X):=by
 intro fv xs H v H' he ρ w fval vs hf hvs hH;cases fv with
 |agg cs=>simp[callP,eD] at he
 |tup vs=>simp[callP,eD] at he
 | one x=>
   cases x
   case fn f cap=>
    obtain⟨hcap,rfl⟩:=hf.one;refine⟨{ target:=.fn (.func (S.re f)) (cap.map (bY ρ)).toArray,args:=vs.toArray },by simp[Deferred.ofValue],?_⟩;simp only[invoke];cases hpr:X.pr f with
    | some p=>
      simp only[callP,eD,hpr] at he;split at he
      .rename_i hce;have:cap=[]:=by simpa using hce
       subst this;have:=hS.prs f p hpr xs H v H' he ρ w vs hvs hH;simpa using this
      .cases he
    | none=>
      simp only[callP,eD,hpr] at he;split at he
      .split at he <;> cases he
      .cases he
   case yld l=>
    simp only[callP,eD] at he;split at he
    .split at he <;> cases he
    .cases he
   all_goals simp[callP,eD] at he
theorem dw.ofOk {call:AV->List AV->Heap->Option (AV×Heap)}(h:Ee S call) {fv:AV}{xs:List AV}{v:AV}{H':Heap}(he:call fv xs H=some (v,H')) {Q:AV->Heap->Prop}(hq:Q v H'):dw S fv xs H Q:=by
 intro ρ w fval vs h1 h2 h3;obtain⟨d,hd,hi⟩:=h fv xs H v H' he ρ w fval vs h1 h2 h3;refine⟨d,hd,?_⟩;have lift:∀{e w'},nk S H ρ w v H' e w'->lV S H ρ w Q e w':=fun h=>⟨v,H',hq,h⟩
 rcases hi with ⟨u,w',hr,hret⟩ | ⟨f',args,w1,ρ1,hr,e1,e2,hcalls⟩ | ⟨l',f',tmps,as,bd,hr,hround⟩
 .exact .inl ⟨u,w',hr,lift hret⟩
 .exact .inr (.inl ⟨f',args,w1,ρ1,hr,e1,e2,hcalls.mono fun e w' h=>lift h⟩)
 .exact .inr (.inr ⟨l',f',tmps,as,bd,hr,hround.mono fun e w' h=>lift h⟩)
theorem MO.ofEv (hS:S.Good X) {r2:List AI}{Q:Tm->Heap->Prop}:∀{r1:List AI}{T:Tm}{H:Heap}{T1:Tm}{H1:Heap},aU (callP X) r1 T H=some (T1,H1)->MO S m r2 T1 H1 Q->MO S m (r1++r2) T H Q
 |[],T,H,T1,H1,he,h=>by simp only[aU] at he;cases he;exact h
 | i::r,T,H,T1,H1,he,h=>by
   simp only[aU] at he;split at he
   .cases he
   .rename_i hkn;have hkn:known T i.gd=true:=by simpa using hkn
    refine MO.cons hS.ok hkn ?_;split at he
    .rename_i hw;split at he
     .rename_i v H2 hv;by_cases hc:jT i.op=true
      .obtain⟨d,op,g⟩:=i;cases op with
       |call f xs=>exact .inr (.inr ⟨hw,f,xs,rfl,dw.ofOk (DR hS) hv (MO.ofEv hS he h)⟩)
       |_=>cases hc
      .refine .inr (.inl ⟨hw,by simpa using hc,v,H2,?_,MO.ofEv hS he h⟩);obtain⟨d,op,g⟩:=i;cases op with
       |call f xs=>exact absurd rfl hc
       |_=>exact hv
     .cases he
    .rename_i hw;exact .inl ⟨by simpa using hw,MO.ofEv hS he h⟩
theorem rU {F:Fence}{n:Nat}{P:Program}{o:Oper}{a:Act}{nx nx':Act->World->Prop}{Q Q':Exit->Act->World->Prop}(hn:∀a w,nx a w->nx' a w) (hq:∀e a w,e≠.normal->Q e a w->Q' e a w) {r:Result Next}(h:o.uponIn F n P a nx Q r):o.uponIn F n P a nx' Q' r:=by
 unfold Oper.uponIn at h ⊢;split at h
 .exact hn _ _ h
 .exact hn _ _ h
 .exact hn _ _ h
 .refine⟨h.1,h.2.mono fun e w' he=>?_⟩;cases e with
  |returned v=>exact hn _ _ he
  |panicked ch=>exact hq _ _ _ (by simp) he
  |outgrown=>obtain⟨a,w,h⟩:=he;exact⟨a,w,hq _ _ _ (by simp) h⟩
 .exact⟨h.1,h.2.mono fun v w' he=>hn _ _ he⟩
 .refine⟨h.1,h.2.mono fun e w' he=>?_⟩;cases e with
  |returned v=>exact hn _ _ he
  |panicked ch=>exact hq _ _ _ (by simp) he
  |outgrown=>obtain⟨a,w,h⟩:=he;exact⟨a,w,hq _ _ _ (by simp) h⟩
 .exact hq _ _ _ (by simp) h
 .exact h.elim
theorem gU {F:Fence}{n:Nat}{P:Program}{ops:Array Oper}{Q1 Q:Exit->Act->World->Prop}{τ:List Nat}(h1:∀e a w,Q1 e a w->e=.normal/\wpOpsIn F n P ops Q τ a w):∀(σ:List Nat) (a:Act) (w:World),wpOpsIn F n P ops Q1 σ a w->wpOpsIn F n P ops Q (σ++τ) a w
 |[],a,w,h=>(h1 _ _ _ h).2
 | i::rest,a,w,h=>by
   simp only[wpOpsIn,List.cons_append] at h ⊢;split
   .rename_i ho;rw[ho] at h;exact gU h1 rest _ _ h
   .rename_i o ho;rw[ho] at h;simp only at h;split
    .rename_i hw;rw[if_pos hw] at h;exact⟨h.1,rU (fun a w h=>gU h1 rest a w h) (fun e a w hne h=>absurd (h1 _ _ _ h).1 hne) h.2⟩
    .rename_i hw;rw[if_neg hw] at h;exact⟨h.1,gU h1 rest _ _ h.2⟩
theorem MO.app0 {r1 r2:List AI}{Q:Tm->Heap->Prop}(h:MO S m r1 T H fun T' H'=>MO S m r2 T' H' Q):MO S m (r1++r2) T H Q:=by
 intro hm ops nt ais l hc hl F hF ρ a w hT hn hH;obtain⟨σ,τ,rfl,h1,h2⟩:=List.filterMap_eq_append_iff.1 hl;refine gU (fun e a' w' hq=>?_) σ a w (h hm ops nt ais σ hc h1 F hF ρ a w hT hn hH);obtain⟨T',H',hq,hp⟩:=hq;obtain⟨h0,ρ',ds,g1,g2,g3,g4,g5,g6⟩:=hp;have h0:e=.normal:=h0;subst h0;refine⟨rfl,?_⟩;refine bD ?_ _ _ _ (hq g4.nn ops nt ais τ hc h2 F hF ρ' a' w' g1 (g2.trans hn) g3);rintro e a'' w'' ⟨T2,H2,hq2,hp2⟩;exact⟨T2,H2,hq2,hp2.transB (zJ _) g2 g4 g5 g6⟩
theorem MO.mono0 {r:List AI}{Q Q':Tm->Heap->Prop}(h:MO S m r T H Q) (hq:∀T H,Q T H->Q' T H):MO S m r T H Q':=by
 intro hm ops nt ais l hc hl F hF ρ a w hT hn hH;refine bD ?_ _ _ _ (h hm ops nt ais l hc hl F hF ρ a w hT hn hH);rintro e a' w' ⟨T2,H2,h2,hp⟩;exact⟨T2,H2,hq _ _ h2,hp⟩
theorem MC.drawn (hS:S.Good X) (hd:H.Hd) {ac:AC}{ls:List (List AI)}{tl:List AI}{Q:Ex->Tm->Heap->Prop}(hac:(∃l,ac=.dreg l/\ls=[l]/\tl=[])\/(ac=.dalt ls/\tl=[])\/ac=.dtl ls tl) (h:∀l∈ls,∃T' H',aU (callP X) l T H=some (T',H')/\MO S m (tl.take 1) T' H' fun T1 H1=>∃T2 H2,aU (callP X) (tl.drop 1) T1 H1=some (T2,H2)/\Q .normal T2 H2):MC S m ac T H Q:=by
 intro hm c nt hc F hF hR ρ a w hT hn hH;cases c with
 | region id oa draw=>
   simp only[aH] at hc;split at hc
   case h_2=>
    simp only[zE] at hc;subst hc;rcases hac with ⟨l,h1,_⟩ | ⟨h1,_⟩ | h1 <;> cases h1
   rename_i ais hais;cases draw with
   | false=>
     simp only[Bool.false_eq_true,if_false,zE] at hc;subst hc;rcases hac with ⟨l,h1,_⟩ | ⟨h1,_⟩ | h1 <;> cases h1
   | true=>
     simp only[if_true] at hc;have key:∃ls0,S.dr oa ais=some ls0/\(∀l∈jb ais ls0.1,l∈ls)/\jc ls0=tl:=by
      split at hc
      .simp only[zE] at hc;subst hc;rcases hac with ⟨l,h1,_⟩ | ⟨h1,_⟩ | h1 <;> cases h1
      .rename_i hdr;simp only[zE] at hc;subst hc;rcases hac with ⟨l,h1,h2,h3⟩ | ⟨h1,_⟩ | h1
       .cases h1;exact⟨_,hdr,fun l hl=>by rw[h2];exact hl,h3.symm⟩
       .cases h1
       .cases h1
      .rename_i x r hdr;simp only[zE] at hc;subst hc;rcases hac with ⟨l,h1,h2⟩ | ⟨h1,h2⟩ | h1
       .cases h1
       .cases h1;exact⟨_,hdr,fun l hl=>hl,h2.symm⟩
       .cases h1
      .rename_i x r y tl' hdr;simp only[zE] at hc;subst hc;rcases hac with ⟨l,h1,h2⟩ | ⟨h1,h2⟩ | h1
       .cases h1
       .cases h1
       .cases h1;exact⟨_,hdr,fun l hl=>hl,rfl⟩
     obtain⟨ls0,hdr,hin,htl⟩:=key;refine wpIn_region_draw fun t=>?_
     obtain⟨l,hl,σ,τ,hsch,⟨τ',hτ,hre⟩,hev⟩:=hS.draws nt oa ais ls0 t hdr hais;obtain⟨T',H',he,hq⟩:=h l (hin l hl);rw[htl] at hτ hre;have hcat:aL ais (Region.schedule (S.C.P.follows .mixedOrders) oa t)=aL ais σ++(tl.take 1++τ'):=by rw[hsch,<- hτ];simp[aL,List.filterMap_append]
     have hq:MO S m (tl.take 1++τ') T' H' (Q .normal):=MO.app0 (hq.mono0 fun T1 H1 hx=>by
      obtain⟨T2,H2,h1,h2⟩:=hx;have:=MO.ofEv (m:=m) (r2:=[]) hS (hre _ _ _ h1) (MO.nil h2)
      rwa [List.append_nil] at this)
     have:=MO.ofEv hS (hev T H _ hd he) hq hm oa nt ais _ hais hcat F hF ρ a _ hT hn hH.drew;refine bD (fun e a' w' hp=>?_) _ _ _ this;obtain⟨T'',H'',hq,hp⟩:=hp;exact⟨_,T'',H'',hq,dD.transB (ds:=[]) (a1:=a) (zJ m) rfl ((iQ.weak Frm.drew hm:iQ m H ρ w H ρ w.drew)) rfl DOk.nil hp⟩
 |seq x y=>simp only[aH] at hc; split at hc <;> first | (cases hc; done) | (cases hc; rcases hac with ⟨l,h1,_⟩ | ⟨h1,_⟩ | h1 <;> cases h1)
 |cond c x y=>simp only[aH] at hc; split at hc <;> first | (cases hc; done) | (cases hc; rcases hac with ⟨l,h1,_⟩ | ⟨h1,_⟩ | h1 <;> cases h1)
 |rangeFunc f ps x y=>simp only[aH] at hc; split at hc <;> (try split at hc) <;> first | (cases hc; done) | (cases hc; rcases hac with ⟨l,h1,_⟩ | ⟨h1,_⟩ | h1 <;> cases h1)
 |_=>rcases hac with ⟨l,rfl,_⟩ | ⟨rfl,_⟩ | rfl <;> simp[aH] at hc
theorem MC.dreg (hS:S.Good X) (hd:H.Hd) {ops:List AI}{Q:Ex->Tm->Heap->Prop}{T':Tm}{H':Heap}(he:aU (callP X) ops T H=some (T',H')) (hq:Q .normal T' H'):MC S m (.dreg ops) T H Q:=
 MC.drawn hS hd (.inl ⟨ops,rfl,rfl,rfl⟩) fun l hl=>by
  obtain rfl:=List.mem_singleton.1 hl;exact⟨T',H',he,MO.nil ⟨T',H',rfl,hq⟩⟩
def SC.has (S : SC) (i : Nat) (af : AF) : Prop := ∃ fn, S.C.P.funcs[S.re i]? = some fn ∧ Fg S.C S.dr fn = some af ∧ (fn.name == "runtime.NumGoroutine") = false
theorem MF.of {f:Nat}{cap:List (Nat×Nat×Nat)}{xs:List AV}{af:AF}{Q:AV->Heap->Prop}(hf:S.has f af) (hl:xs.length+cap.length=af.np)
 (h:MC S H.n af.body (jf (xs++cap.map fun c=>AV.one (.ptr c.1 c.2.1 c.2.2))) H fun ex T' H'=>(ex=.ret\/ex=.normal)/\∃v,iw T' H' af.res=some v/\Q v H'):MF S f cap xs H Q:=by
 intro ρ w vs hcap hvs hH;obtain⟨fn,hfn,hcf,hname⟩:=hf;unfold Fg at hcf;split at hcf
 case h_2=>cases hcf
 rename_i c hbody;split at hcf
 case h_2=>cases hcf
 rename_i ac rs hcc hres;by_cases hle:fn.params.size+fn.nfree<=fn.ntmps
 case neg=>rw[if_neg hle] at hcf;cases hcf
 rw[if_pos hle] at hcf;simp only[zE] at hcf;subst hcf;simp only at hl h;have hall:ae (aN S ρ H.n) (xs++cap.map fun c=>AV.one (.ptr c.1 c.2.1 c.2.2)) (vs++cap.map (bY ρ)):=by
  refine hvs.append ⟨by simp,fun i x y hx hy=>?_⟩;simp only[List.getElem?_map,zD] at hx hy;obtain⟨c,hc,rfl⟩:=hx;obtain⟨c',hc',rfl⟩:=hy;rw[hc] at hc';cases hc';exact⟨hcap c (zU hc),rfl⟩
 have hargs:vs.toArray++(cap.map (bY ρ)).toArray=(vs++cap.map (bY ρ)).toArray:=by simp
 have hsz:(vs++cap.map (bY ρ)).toArray.size=fn.params.size+fn.nfree:=by
  have:=hvs.1;simp;omega
 rw[hargs];refine⟨?_,?_⟩
 .simp only[callFunc,Sem.run_bind,run_program,Result.andThen_ok,hfn,hname,hbody];simp
 .refine callsIn_of_wp_marks hfn hbody trivial ?_;refine wpIn_mono (h (zJ _) c fn.ntmps hcc Fence.wide (.inl rfl) (by simp[Fence.wide]) ρ _ w (vL hall _) (by simp only[Array.size_append,Array.size_replicate];omega) hH) ?_;rintro e a' w' ⟨ex,T',H1,⟨hex,v',hv',hq⟩,hp⟩;obtain⟨h0,ρ',ds,h1,h2,h3,h4,h5,h6⟩:=hp;simp only[List.append_nil] at h5;have hsz2:a'.tmps.size=fn.ntmps:=by rw[h2];simp only[Array.size_append,Array.size_replicate];omega
  have leave:LeavesInM Fence.wide 0 S.C.P fn a'.tmps (lV S H ρ w Q) a'.defers .returning w':=by
   rw[h5];refine Ap (z:=w.heap.size) (fun k ob hk=>(zQ.1 (hH.fx k ob hk).1).1) ds w' h3 h6 fun wf hw hsz3 hos htp hout hk=>?_
   obtain⟨u,hu,hru⟩:=GV (fn:=fn) h1 hsz2 hw hres hv';refine⟨u,hu,v',H1,hq,u,ρ',rfl,hw,⟨by have:=h4.sz;omega,hos.trans h4.os,htp.trans h4.tape,hout.trans h4.output,h4.nn,h4.rho,fun j hj hni=>?_,h4.fz,h4.fn⟩,hru⟩;obtain⟨k1,k2⟩:=h4.keep j hj hni;exact⟨(hk j (.inl hj)).trans k1,k2⟩
  rcases hex with rfl | rfl
  .simp only at h0;subst h0;exact leave
  .simp only at h0;subst h0;exact leave
theorem dw.fn {f:Nat}{cap:List (Nat×Nat×Nat)}{xs:List AV}{Q:AV->Heap->Prop}(h:MF S f cap xs H Q):dw S (.one (.fn f cap)) xs H Q:=by
 intro ρ w fval vs hf hvs hH;obtain⟨hcap,rfl⟩:=hf.one;refine⟨{ target:=.fn (.func (S.re f)) (cap.map (bY ρ)).toArray,args:=vs.toArray },by simp[Deferred.ofValue],?_⟩;simp only[invoke];obtain⟨h1,h2⟩:=h ρ w vs hcap hvs hH;exact .inr (.inl ⟨_,_,w,ρ,h1,rfl,rfl,h2⟩)
theorem dw.pr {f:Nat}{p:List AV->Heap->Option (AV×Heap)}(hp:aP S f p) {xs:List AV}{v:AV}{H':Heap}(he:p xs H=some (v,H')) {Q:AV->Heap->Prop}(hq:Q v H'):dw S (.one (.fn f [])) xs H Q:=by
 intro ρ w fval vs hf hvs hH;obtain⟨hcap,rfl⟩:=hf.one;refine⟨{ target:=.fn (.func (S.re f)) #[],args:=vs.toArray },by simp[Deferred.ofValue],?_⟩;simp only[invoke];have:=hp xs H v H' he ρ w vs hvs hH;have lift:∀{e w'},nk S H ρ w v H' e w'->lV S H ρ w Q e w':=fun h=>⟨v,H',hq,h⟩
 simp only[Array.append_empty];rcases this with ⟨u,w',hr,hret⟩ | ⟨f',args,w1,ρ1,hr,e1,e2,hcalls⟩ | ⟨l',f',tmps,as,bd,hr,hround⟩
 .exact .inl ⟨u,w',hr,lift hret⟩
 .exact .inr (.inl ⟨f',args,w1,ρ1,hr,e1,e2,hcalls.mono fun e w' h=>lift h⟩)
 .exact .inr (.inr ⟨l',f',tmps,as,bd,hr,hround.mono fun e w' h=>lift h⟩)
end
end Go.EA
end
section
namespace Go.EA
section
variable {S:SC} {ρ:Rho} {w:World}
theorem GJ {P:Program}{t:TypeId}(hk:iH P t=some .slc) {a:Option Addr}{n c:Nat}(ox oy:Operand) (op:BinOp) (hop:op=.eql\/op=.neq) :
 (do eqGuard op t ox oy (.slice a n c) (.slice none 0 0);binOp op t (.slice a n c) (.slice none 0 0)).run P w=.ok (.bool (if decide (op=.neq) then !a.isNone else a.isNone)) w:=by
 have hd:∃e,P.underlying t=some (.slice e):=by
  unfold iH at hk;split at hk <;> rename_i hd <;> simp at hk
  all_goals first
   |exact⟨_,hd⟩
   |(obtain⟨m,hm,h⟩:=hk;cases h)
 obtain⟨e,hd⟩:=hd;have he:(Op.equal t (.slice a n c) (.slice none 0 0)).run P w=.ok a.isNone w:=by
  have key:∀dep,(Op.equalIn (dep+1) t (.slice a n c) (.slice none 0 0)).run P w=.ok a.isNone w:=fun dep=>by
   cases a <;> simp[Op.equalIn,bg hd]
  exact key 9999
 have hg:(eqGuard op t ox oy (.slice a n c) (.slice none 0 0)).run P w=.ok () w:=by
  unfold eqGuard;rcases hop with rfl | rfl <;> simp
 rw[Sem.run_bind,hg];simp only[Result.andThen_ok];rcases hop with rfl | rfl
 .have:binOp .eql t (.slice a n c) (.slice none 0 0)=(do pure (.bool (<- Op.equal t (.slice a n c) (.slice none 0 0)))):=by
   unfold binOp;rfl
  rw[this,Sem.run_bind,he];simp
 .have:binOp .neq t (.slice a n c) (.slice none 0 0)=(do pure (.bool (!(<- Op.equal t (.slice a n c) (.slice none 0 0))))):=by
   unfold binOp;rfl
  rw[this,Sem.run_bind,he];simp
theorem Lr {nt:Nat}{o:Oper}{k:EqK}{neg:Bool}{x' y':Opd}(h:aG S.C nt o=some (.eqv k neg x' y')) :
 ∃op t x y z,o.op=.binOp op t x y z/\(op=.eql\/op=.neq)/\aX S.C nt x=some x'/\aX S.C nt y=some y'/\iH S.C.P t=some k/\neg=decide (op=.neq):=by
 cases ho:o.op <;> simp only[aG,ho] at h
 case binOp op t x y z=>
  refine⟨op,t,x,y,z,rfl,?_⟩;split at h
  .rename_i x1 y1 hx hy;split at h
   .rename_i hop;split at h
    .simp at h
    .simp at h
    .obtain⟨k1,hk,he⟩:=zD.1 h;cases he;exact⟨hop,hx,hy,hk,rfl⟩
   .simp at h
  .cases h
 case call c=>
  exfalso;split at h
  .split at h
   .obtain⟨f',hf,he⟩:=zD.1 h;cases he
   .unfold gF at h
    repeat' (split at h)
    all_goals (first | (simp at h;done) | (cases h;done))
   .cases h
  .cases h
 case alloc t=>
  obtain⟨_,_,h⟩:=zD.1 h;unfold uo at h
  repeat' (split at h)
  all_goals cases h
 all_goals (exfalso;repeat' (split at h))
 all_goals (first | (simp at h;done) | (cases h;done))
end
section
variable {S:SC} {X:Cx} {m:Nat} {T:Tm} {H:Heap}
theorem MO.eqn (hok:S.Ok) {i:AI}{r:List AI}{Q:Tm->Heap->Prop}(hkn:known T i.gd=true) (hwt:wanted T i.gd=true) {neg:Bool}{x:Opd}{s:Nat}{els:List (List Lf)}(ho:i.op=.eqv .slc neg x (.c (.one .nils)))
 (hx:x.ev T=.one (.vrow s els)) (h1:els=[]->MO S m r (cz T i.dst (.one (.bool (!neg)))) H Q) (h2:MO S m r (cz T i.dst (.one (.bool neg))) H Q):MO S m (i::r) T H Q:=by
 intro hm ops nt ais l hc hl F hF ρ a w hT hn hH
 induction l with
 |nil=>simp[aL] at hl
 | cons q rest ih=>
   obtain⟨hsome,hnone⟩:=iT hc q;simp only[wpOpsIn];cases hoq:ops[q]? with
   | none=>
     have h0:ais[q]?=none:=hnone (by simpa using hoq);exact ih (by rw[<- hl];simp[aL,h0])
   | some o=>
     obtain⟨ai,hai,hci⟩:=hsome o (by simpa using hoq);have hcons:aL ais (q::rest)=ai::aL ais rest:=by simp[aL,hai]
     rw[hcons] at hl;simp only[zG] at hl;obtain⟨rfl,hl⟩:=hl;obtain⟨hdst,hop,hgd⟩:=ny hci;have hw:=qi (S:=S) hkn hgd hT hn;simp only[hw];have next:∀{v:AV} {u:Value} {H1:Heap} {ρ1:Rho} {w1:World},MO S m r (cz T ai.dst v) H1 Q->aJ S H1 ρ1 w1->Frm H ρ w H1 ρ1 w1->aN S ρ1 H1.n v u->
      wpOpsIn F 0 S.C.P ops (fun e a' w'=>∃T' H',Q T' H'/\dD S m H ρ w a .normal T' H' e a' w') rest (a.put o.dst u) w1:=by
      intro v u H1 ρ1 w1 h1 hH1 hf1 hv1;rw[hdst] at h1;have:=h1 (Nat.le_trans hm hf1.nn) ops nt ais rest hc hl F hF ρ1 (a.put o.dst u) w1 (vO (hT.mono hf1.ext) hv1) ((iy _ _ _).1.trans hn) hH1;refine bD ?_ rest _ _ this;rintro e a' w' ⟨T',H',hq,hp⟩;exact⟨T',H',hq,hp.transB (zJ _) (ds:=[]) (iy _ _ _).1 (hf1.weak hm) (iy _ _ _).2 DOk.nil⟩
     have hnd:∀c,o.op≠.defer c:=by intro c hc;simp[aG,hc] at hop
     rw[hwt];simp only[if_true];unfold Oper.wpIn;refine⟨fun f _=>hF.fn f,?_⟩;rw[Oper.semAt_eq _ _ _ hnd];rw[ho] at hop;obtain⟨op,t,ox,oy,z,hop0,hop1,hox,hoy,hek,hneg⟩:=Lr hop;have p:Pre S H ρ w nt T a:=⟨hok,hT,hn,hH⟩;have vx:=p.opd hox;have vy:=p.opd hoy;rw[hx] at vx;have vy:a.eval oy=.slice none 0 0:=vy;obtain⟨b,c,e1,e2,e3⟩:=(show aV S ρ.fz (.vrow s els) (a.eval ox) by exact vx);have hrun:=GJ (w:=w) (P:=S.C.P) hek (a:=b) (n:=els.length) (c:=c) ox oy op hop1;rw[<- e1,<- vy] at hrun;have hr:(execOp a.eval o).run S.C.P w=.ok (.value (.bool (if decide (op=.neq) then !b.isNone else b.isNone))) w:=by
      simp only[execOp,hop0]
      first
       |(rw[Sem.run_bind] at hrun ⊢;simp only[Sem.run_bind,hrun,Result.andThen_ok,Sem.run_pure];done)
       |(simp only[Sem.run_bind] at hrun ⊢;simp[hrun])
     rw[hr];cases b with
     | none=>
       have he:els=[]:=by
        rcases e3 with e3 | ⟨g,o',C,ty,fr,e3,_⟩
        .exact e3
        .cases e3
       refine next (v:=.one (.bool (!neg))) (h1 he) hH (Frm.refl _ _ _) ?_;rw[hneg];show _=_;cases decide (op=.neq) <;> rfl
     | some a'=>
       refine next (v:=.one (.bool neg)) h2 hH (Frm.refl _ _ _) ?_;rw[hneg];show _=_;cases decide (op=.neq) <;> rfl
end
end Go.EA
end
section
namespace Go.EA
section
variable {S:SC} {X:Cx} {m:Nat} {T:Tm} {H:Heap}
theorem dw.yld {l:Nat}{xs:List AV}{Q:AV->Heap->Prop}{pend:Option Ex}{ps:List Nat}{as bd:AC}(hol:H.o l=.loop .ready pend T ps as bd) (hlen:xs.length=ps.length)
 (h:MC S H.n as (setPs T ps xs) H fun e T1 H1=>e=.normal/\∃pend1 T0 ps1 as1 bd1,H1.o l=.loop .ready pend1 T0 ps1 as1 bd1/\MC S H.n bd T1 (H1.set l (.loop .busy pend1 T0 ps1 as1 bd1)) fun e _ H2=>∃pend2 T2 ps2 as2 bd2,H2.o l=.loop .busy pend2 T2 ps2 as2 bd2/\
  (match e with | .normal=>Q (.one (.bool true)) (H2.set l (.loop .ready none T2 ps2 as2 bd2)) | e=>Q (.one (.bool false)) (H2.set l (.loop .done (some e) T2 ps2 as2 bd2)))):dw S (.one (.yld l)) xs H Q:=by
 intro ρ w fval vs hf hvs hH;obtain⟨hl,rfl⟩:=hf.one;refine⟨{ target:=.fn (.yield (ρ l).g) #[],args:=vs.toArray },by simp[Deferred.ofValue],?_⟩;simp only[invoke];have hob:=hH.obj l hl;rw[hol] at hob;obtain⟨r,r1,r2,r3,r4,r5,r6,r7,r8,r9⟩:=hob;have hget:(Instr.getLoop (ρ l).g).run S.C.P w=.ok r w:=by simp[Instr.getLoop,getObj,Sem.run,r1]
 have hps:ps.length=r.params.size:=by rw[<- r5];simp
 have hset:=rF (ps:=ps) r4 hvs hlen;have hfold:(r.params.zip vs.toArray).foldl (fun tmps (p:Tmp×Value)=>tmps.setIfInBounds p.1 p.2) r.tmps=(ps.zip vs).foldl (fun tmps (p:Nat×Value)=>tmps.setIfInBounds p.1 p.2) r.tmps:=by
  rw[<- Array.foldl_toList,Array.toList_zip,r5]
 refine .inr (.inr ⟨(ρ l).g,r.fn,(ps.zip vs).foldl (fun tmps (p:Nat×Value)=>tmps.setIfInBounds p.1 p.2) r.tmps,r.assign,r.body,?_,?_⟩)
 .have hsz:vs.toArray.size=r.params.size:=by have:=hvs.1;simp;omega
  simp only[Array.append_empty,Instr.yield,Sem.run_bind,hget,Result.andThen_ok,hsz];rw[<- hfold];simp
 .refine roundIn_of_wpIn trivial ?_;refine wpIn_mono (h (zJ _) r.assign r.tmps.size r6 (Fence.wide.inRound (ρ l).g) (.inr ⟨_,rfl⟩) (fun _=>r8) ρ _ w hset.1 hset.2 hH) ?_;rintro e a1 w1 ⟨ex,T1,H1,⟨rfl,pend1,T0,ps1,as1,bd1,hol1,hbd⟩,hp⟩;obtain⟨h0,ρ1,ds1,h1,h2,h3,h4,h5,h6⟩:=hp;simp only at h0;subst h0;have hl1:l<H1.n:=Nat.lt_of_lt_of_le hl h4.nn;have hρ1:ρ1 l=ρ l:=h4.rho l hl;have hob1:=h3.obj l hl1;rw[hol1,hρ1] at hob1;obtain⟨q,q1,q2,q3,q4,q5,q6,q7,q8,q9⟩:=hob1;have hget1:(Instr.getLoop (ρ l).g).run S.C.P w1=.ok q w1:=by simp[Instr.getLoop,getObj,Sem.run,q1]
  have hlt1:(ρ l).g<w1.heap.size:=(zQ.1 q1).1;obtain⟨t1,t2⟩:=h3.turn (b:=l) (x:=.loop .busy pend1 T0 ps1 as1 bd1) (w':={ w1 with heap:=w1.heap.setIfInBounds (ρ l).g (.loop { q with state:=.busy }) }) hl1 (by rw[hol1];rfl)
   (by rw[hρ1];exact⟨{ q with state:=.busy },by simp[hlt1],rfl,q3,q4,q5,q6,q7,q8,q9⟩) rfl (by simp) rfl rfl rfl (fun j hj=>by rw[hρ1] at hj;simp[Array.getElem?_setIfInBounds,Ne.symm hj])
  refine⟨{ w1 with heap:=w1.heap.setIfInBounds (ρ l).g (.loop { q with state:=.busy }) },?_,?_⟩
  .simp only[Instr.beginRound,Sem.run_bind,hget1,Result.andThen_ok];rw[q2];simp[setObj,Sem.run,q1,FP]
  .refine wpIn_mono (hbd h4.nn r.body r.tmps.size ?_ (Fence.wide.inRound (ρ l).g) (.inr ⟨_,rfl⟩) (fun _=>r9) ρ1 a1 _ h1 (h2.trans hset.2) t1) ?_
   .exact r7
   rintro e a2 w2 ⟨ex,T2,H2,⟨pend2,T02,ps2,as2,bd2,hol2,hq⟩,hp⟩;obtain⟨g0,ρ2,ds2,g1,g2,g3,g4,g5,g6⟩:=hp;have hl2:l<H2.n:=Nat.lt_of_lt_of_le hl g4.nn;have hρ2:ρ2 l=ρ l:=(g4.rho l hl).trans hρ1;have hob2:=g3.obj l hl2;rw[hol2,hρ2] at hob2;obtain⟨s,s1,s2,s3,s4,s5,s6,s7,s8,s9⟩:=hob2;have hget2:(Instr.getLoop (ρ l).g).run S.C.P w2=.ok s w2:=by simp[Instr.getLoop,getObj,Sem.run,s1]
   have hlt2:(ρ l).g<w2.heap.size:=(zQ.1 s1).1;have fin:∀(j:Option Code) (st:LSt) (pd:Option Ex) (b:Bool),FP st=(if j.isNone then .ready else .done)->j=pd.map wD->b=j.isNone->Q (.one (.bool b)) (H2.set l (.loop st pd T02 ps2 as2 bd2))->
    ∃v' w',(Instr.endRound (ρ l).g j).run S.C.P w2=.ok v' w'/\lV S H ρ w Q (.returned v') w':=by
    intro j st pd b hst hj hb hq;obtain⟨u1,u2⟩:=g3.turn (b:=l) (x:=.loop st pd T02 ps2 as2 bd2) (w':={ w2 with heap:=w2.heap.setIfInBounds (ρ l).g (.loop { s with state:=if j.isNone then .ready else .done,pending:=j }) }) hl2 (by rw[hol2];rfl)
     (by rw[hρ2];exact⟨{ s with state:=if j.isNone then .ready else .done,pending:=j },by simp[hlt2],hst.symm,hj,s4,s5,s6,s7,s8,s9⟩) rfl (by simp) rfl rfl rfl (fun j hj=>by rw[hρ2] at hj;simp[Array.getElem?_setIfInBounds,Ne.symm hj])
    refine⟨.bool j.isNone,{ w2 with heap:=w2.heap.setIfInBounds (ρ l).g (.loop { s with state:=if j.isNone then .ready else .done,pending:=j }) },?_,_,_,hq,.bool j.isNone,ρ2,rfl,u1,?_,?_⟩
    .simp[Instr.endRound,hget2,setObj,Sem.run,s1]
    .have k1:iQ H.n H ρ w H1 ρ1 w1:=h4;have k2:=k1.transB t2 h4.nn;have k3:=k2.transB g4 (zJ _);exact k3.transB u2 (by have:=g4.nn;exact this)
    .rw[hb];rfl
   cases ex with
   |normal=>simp only at g0;subst g0;exact fin none .ready none true rfl rfl rfl hq
   |exit id=>simp only at g0;subst g0;exact fin (some (.exit id)) .done (some (.exit id)) false rfl rfl rfl hq
   |ret=>simp only at g0;subst g0;exact fin (some .ret) .done (some .ret) false rfl rfl rfl hq
theorem MC.rangeF (hok:S.Ok) {f:Opd}{ps:List Nat}{as bd:AC}{Q:Ex->Tm->Heap->Prop}{i:Nat}{cap:List (Nat×Nat×Nat)}(hfv:f.ev T=.one (.fn i cap))
 (h:MF S i cap [.one (.yld H.n)] (H.push (.loop .ready none T ps as bd)) fun _ H'=>∃st pend T0 ps0 as0 bd0,H'.o H.n=.loop st pend T0 ps0 as0 bd0/\st≠.busy/\
  (match pend with | none=>Q .normal T (H'.set H.n .dead) | some e=>Q e T (H'.set H.n .dead))):MC S m (.rangeF f ps as bd) T H Q:=by
 intro hm c nt hc F hF hR ρ a w hT hn hH;cases c with
 | rangeFunc fo psA asC bdC=>
   simp only[aH] at hc;split at hc
   case h_2=>cases hc
   rename_i f' as' bd' hf has hbd;by_cases hcond:(psA.toList.all (·<nt)&&noR as'&&noR bd')=true
   case neg=>rw[if_neg hcond] at hc;cases hc
   rw[if_pos hcond] at hc;simp only[zE,AC.rangeF.injEq] at hc;obtain⟨rfl,rfl,rfl,rfl⟩:=hc;simp only[zH] at hcond;have hFw:F=Fence.wide:=by
    rcases hF with h | ⟨l,rfl⟩
    .exact h
    .exact absurd (hR rfl) (by simp[noR])
   subst hFw;obtain⟨u1,u2⟩:=hH.untracked (.deferred (some []));refine wpIn_rangeFunc fun fn _=>?_
   obtain⟨v1,v2⟩:=u1.push (L:=⟨w.heap.size+1,0,0,0,(0,0,0)⟩) (x:=.loop .ready none T psA.toList as' bd') (ob:=.loop { state:=.ready,pending:=none,fn:=fn,tmps:=a.tmps,params:=psA,assign:=asC,body:=bdC,defers:=w.heap.size }) (by simp)
    ⟨_,rfl,rfl,rfl,hT.mono (Ext.put ρ H.n _),rfl,by rw[hn];exact has,by rw[hn];exact hbd,hcond.1.2,hcond.2⟩
   have hfr:=u2.trans v2;have hfrel:=(ll hok hT hn hf).mono (Ext.put ρ H.n ⟨w.heap.size+1,0,0,0,(0,0,0)⟩);rw[hfv] at hfrel;obtain⟨hcap,hfval⟩:=hfrel.one;have hyv:aN S (ρ.put H.n ⟨w.heap.size+1,0,0,0,(0,0,0)⟩) (H.n+1) (.one (.yld H.n)) (.func (.yield (w.heap.size+1)) #[] #[]):=by
    refine⟨by omega,?_⟩;rw[aQ]
   obtain⟨g1,g2⟩:=h (ρ.put H.n ⟨w.heap.size+1,0,0,0,(0,0,0)⟩) _ _ hcap (ae.cons hyv ae.nil) v1;refine⟨w.heap.size+1,[{ target:=.collected w.heap.size,args:=#[] }],((w.alloc (.deferred (some []))).alloc (.loop { state:=.ready,pending:=none,fn:=fn,tmps:=a.tmps,params:=psA,assign:=asC,body:=bdC,defers:=w.heap.size })),{ target:=.fn (.func (S.re i)) (cap.map (bY (ρ.put H.n ⟨w.heap.size+1,0,0,0,(0,0,0)⟩))).toArray,args:=#[.func (.yield (w.heap.size+1)) #[] #[]] },((w.alloc (.deferred (some []))).alloc (.loop { state:=.ready,pending:=none,fn:=fn,tmps:=a.tmps,params:=psA,assign:=asC,body:=bdC,defers:=w.heap.size })),S.re i,_,_,?_,?_,fun _ _=>trivial,g1,by simp[Fence.wide],?_⟩
   .show (Instr.enterLoop fn a.tmps psA asC bdC none).run S.C.P w=_;simp[Instr.enterLoop]
   .simp only[resolve,rangeCall];rw[hfval];simp[Deferred.ofValue,Act.eval]
   .refine g2.mono fun e w3 hret=>?_
    obtain⟨_,H1,⟨st,pend,T0,ps1,as1,bd1,hol,hst,hq⟩,u,ρ3,rfl,h1,h2,h3⟩:=hret;have hlt:H.n<H1.n:=Nat.lt_of_lt_of_le (show H.n<H.n+1 by omega) h2.nn;have hρ3:ρ3 H.n=⟨w.heap.size+1,0,0,0,(0,0,0)⟩:=by rw[h2.rho H.n (by show H.n<H.n+1;omega),aQ]
    have hob:=h1.obj H.n hlt;rw[hol,hρ3] at hob;obtain⟨r,r1,r2,r3,r4,r5,r6,r7,r8,r9⟩:=hob;have hget:(Instr.getLoop (w.heap.size+1)).run S.C.P w3=.ok r w3:=by simp[Instr.getLoop,getObj,Sem.run,r1]
    have hlt3:w.heap.size+1<w3.heap.size:=(zQ.1 r1).1;obtain⟨t1,t2⟩:=h1.turn (b:=H.n) (x:=.loop .exhausted pend T0 ps1 as1 bd1) (w':={ w3 with heap:=w3.heap.setIfInBounds (w.heap.size+1) (.loop { r with state:=.exhausted }) }) hlt (by rw[hol];rfl)
     (by rw[hρ3];exact⟨{ r with state:=.exhausted },by simp[hlt3],rfl,r3,r4,r5,r6,r7,r8,r9⟩) rfl (by simp) rfl rfl rfl (fun j hj=>by rw[hρ3] at hj;simp[Array.getElem?_setIfInBounds,Ne.symm hj])
    obtain⟨k1,k2⟩:=t1.kill H.n;have hdead:(H1.set H.n (.loop .exhausted pend T0 ps1 as1 bd1)).set H.n .dead=H1.set H.n .dead:=by
     simp only[Heap.set]
     congr 1
     funext j
     unfold EA.put;split <;> rfl
    rw[hdead] at k1 k2;have hall:Frm H ρ w (H1.set H.n .dead) ρ3 { w3 with heap:=w3.heap.setIfInBounds (w.heap.size+1) (.loop { r with state:=.exhausted }) }:=(hfr.trans h2).trans (t2.trans k2);have hDw:((w.alloc (.deferred (some []))).alloc (.loop { state:=.ready,pending:=none,fn:=fn,tmps:=a.tmps,params:=psA,assign:=asC,body:=bdC,defers:=w.heap.size })).heap[w.heap.size]?=some (.deferred (some [])):=by
     rw[heap_alloc,if_neg (by simp),heap_alloc,if_pos rfl]
    have hDn:dB (H.push (.loop .ready none T psA.toList as' bd')) (ρ.put H.n ⟨w.heap.size+1,0,0,0,(0,0,0)⟩) w.heap.size:=by
     intro j hj hoj;have hj':j<H.n+1:=hj;rcases Nat.lt_or_ge j H.n with hl | hl
     .have e1:ρ.put H.n ⟨w.heap.size+1,0,0,0,(0,0,0)⟩ j=ρ j:=nO _ _ (by omega);have e2:(H.push (.loop .ready none T psA.toList as' bd')).o j=H.o j:=by simp only[Heap.push,EA.put];rw[if_neg (by omega)]
      rw[e1];rw[e2] at hoj;have:=hH.lt hl hoj;omega
     .have:j=H.n:=by omega
      subst this;rw[aQ];simp
    have f2:=h2.trans (t2.trans k2);obtain⟨d1,d2⟩:=f2.keep w.heap.size (zQ.1 hDw).1 hDn;refine⟨pend.map wD,{ w3 with heap:=w3.heap.setIfInBounds (w.heap.size+1) (.loop { r with state:=.exhausted }) },?_,?_⟩
    .have hnb:¬ r.state=.busy:=by
      rw[r2];cases st
      case busy=>exact absurd rfl hst
      all_goals simp[FP]
     rw[<- r3];simp[Instr.endLoop,hget,hnb,setObj,Sem.run,r1]
    .have post:∀{ex':Ex},Q ex' T (H1.set H.n .dead)->∃ex T' H',Q ex T' H'/\dD S m H ρ w a ex T' H' (match ex' with | .normal=>.normal | .exit id=>.exit id | .ret=>.ret) { a with defers:=[{ target:=.collected w.heap.size,args:=#[] }]++a.defers } { w3 with heap:=w3.heap.setIfInBounds (w.heap.size+1) (.loop { r with state:=.exhausted }) }:=by
      intro ex' hq;exact⟨ex',T,_,hq,by cases ex' <;> rfl,ρ3,[{ target:=.collected w.heap.size,args:=#[] }],hT.mono hall.ext,rfl,k1,hall.weak hm,rfl,
       ⟨by simp,fun d hd=>by simp at hd;exact⟨w.heap.size,hd,zJ _,d1.trans hDw,d2⟩⟩⟩
     cases pend with
     |none=>exact post (ex':=.normal) hq
     | some x=>
       have hp:=post (ex':=x) hq;cases x with
       |normal=>exact wpIn_skip hp
       |exit id=>exact wpIn_exit hp
       |ret=>exact wpIn_ret hp
 |region id ops draw=>simp only[aH] at hc; split at hc <;> (try split at hc) <;> (try split at hc) <;> cases hc
 |seq x y=>simp only[aH] at hc; split at hc <;> cases hc
 |cond c x y=>simp only[aH] at hc; split at hc <;> cases hc
 |_=>simp[aH] at hc
end
end Go.EA
end
section
namespace Go.EA
def Lf.closed:Lf->Bool
 |.ptr _ _ _ | .sl _ _ _ | .yld _ | .mp _=>false
 |.fn _ cap=>cap.isEmpty
 |_=>true
def AV.closed1:AV->Bool
 |.one x=>x.closed
 |.agg cs=>cs.all Lf.closed
 |.tup _=>false
def AV.closed:AV->Bool
 |.tup vs=>vs.all AV.closed1||(AV.tup vs).isJ
 |x=>x.closed1
def aD (els:List (List Lf)):Bool:=els.all fun e=>e.all Lf.closed
def Abs (S:SC) (m:Nat) (T:Tm) (H:Heap) (T1:Tm) (H1:Heap):Prop:=
 m<=H.n->∀ρ w (tmps:Array Value),eF S ρ H.n T tmps->aJ S H ρ w->∃ρ1,eF S ρ1 H1.n T1 tmps/\aJ S H1 ρ1 w/\iQ m H ρ w H1 ρ1 w
section
variable {S:SC} {m:Nat} {T T1 T2:Tm} {H H1 H2:Heap}
theorem Abs.refl:Abs S m T H T H:=fun hm ρ w tmps hT hH=>⟨ρ,hT,hH,(Frm.refl _ _ _).weak hm⟩
theorem Abs.trans (h:Abs S m T H T1 H1) (h':Abs S m T1 H1 T2 H2):Abs S m T H T2 H2:=by
 intro hm ρ w tmps hT hH;obtain⟨ρ1,a1,a2,a3⟩:=h hm ρ w tmps hT hH;obtain⟨ρ2,b1,b2,b3⟩:=h' a3.nn ρ1 w tmps a1 a2;exact⟨ρ2,b1,b2,a3.transB b3 (zJ _)⟩
theorem MC.abs {ac:AC}{Q:Ex->Tm->Heap->Prop}(h:Abs S m T H T1 H1) (k:MC S m ac T1 H1 Q):MC S m ac T H Q:=by
 intro hm c nt hc F hF hR ρ a w hT hn hH;obtain⟨ρ1,a1,a2,a3⟩:=h hm ρ w a.tmps hT hH;refine wpIn_mono (k a3.nn c nt hc F hF hR ρ1 a w a1 hn a2) ?_;rintro e a' w' ⟨ex,T',H',hq,hp⟩;exact⟨ex,T',H',hq,hp.transB (zJ _) (ds:=[]) rfl a3 rfl DOk.nil⟩
theorem MC.post {ac:AC}{Q:Ex->Tm->Heap->Prop}(h:MC S m ac T H fun e T' H'=>∃T1 H1,Abs S m T' H' T1 H1/\Q e T1 H1):MC S m ac T H Q:=by
 intro hm c nt hc F hF hR ρ a w hT hn hH;refine wpIn_mono (h hm c nt hc F hF hR ρ a w hT hn hH) ?_;rintro e a' w' ⟨ex,T',H',⟨T1,H1,ha,hq⟩,hp⟩;obtain⟨h0,ρ',ds,h1,h2,h3,h4,h5,h6⟩:=hp;obtain⟨ρ1,a1,a2,a3⟩:=ha h4.nn ρ' w' a'.tmps h1 h3;exact⟨ex,T1,H1,hq,h0,ρ1,ds,a1,h2,a2,h4.transB a3 (zJ _),h5,h6.frm a3⟩
theorem MO.abs {r:List AI}{Q:Tm->Heap->Prop}(h:Abs S m T H T1 H1) (k:MO S m r T1 H1 Q):MO S m r T H Q:=by
 intro hm ops nt ais l hc hl F hF ρ a w hT hn hH;obtain⟨ρ1,a1,a2,a3⟩:=h hm ρ w a.tmps hT hH;refine bD ?_ _ _ _ (k a3.nn ops nt ais l hc hl F hF ρ1 a w a1 hn a2);rintro e a' w' ⟨T',H',hq,hp⟩;exact⟨T',H',hq,hp.transB (zJ _) (ds:=[]) rfl a3 rfl DOk.nil⟩
theorem MO.app {r1 r2:List AI}{Q:Tm->Heap->Prop}(h:MO S m r1 T H fun T' H'=>∃T1 H1,Abs S m T' H' T1 H1/\MO S m r2 T1 H1 Q):MO S m (r1++r2) T H Q:=by
 intro hm ops nt ais l hc hl F hF ρ a w hT hn hH;obtain⟨σ,τ,rfl,h1,h2⟩:=List.filterMap_eq_append_iff.1 hl;refine gU (fun e a' w' hq=>?_) σ a w (h hm ops nt ais σ hc h1 F hF ρ a w hT hn hH);obtain⟨T',H',⟨T1,H1,ha,hq⟩,hp⟩:=hq;obtain⟨h0,ρ',ds,g1,g2,g3,g4,g5,g6⟩:=hp;have h0:e=.normal:=h0;subst h0;obtain⟨ρ1,a1,a2,a3⟩:=ha g4.nn ρ' w' a'.tmps g1 g3;refine⟨rfl,?_⟩;refine bD ?_ _ _ _ (hq a3.nn ops nt ais τ hc h2 F hF ρ1 a' w' a1 (g2.trans hn) a2);rintro e a'' w'' ⟨T2,H2,hq2,hp2⟩;exact⟨T2,H2,hq2,hp2.transB (zJ _) g2 (g4.transB a3 (zJ _)) g5 (g6.frm a3)⟩
end
section
variable (H:Heap) (fz:Nat->Prop) (π:Nat->Nat) (n1:Nat)
inductive RL:Lf->Lf->Prop
 |same {x:Lf}:x.closed=true->RL x x
 |ptr {b b' i j:Nat}:b<n1->π b=b'->RL (.ptr b i j) (.ptr b' i j)
 |sl {b b' i n:Nat}:b<n1->π b=b'->RL (.sl b i n) (.sl b' i n)
 |yld {b b':Nat}:b<n1->π b=b'->RL (.yld b) (.yld b')
 |mp {b b':Nat}:b<n1->π b=b'->RL (.mp b) (.mp b')
 |fn {f:Nat} {cap cap':List (Nat×Nat×Nat)}:(∀c∈cap,c.1<n1)->(cap.map fun c=>(π c.1,c.2))=cap'->RL (.fn f cap) (.fn f cap')
 |frow {b i n s:Nat} {els els':List (List Lf)}:fz b->H.o b=.blk s els true->i+n<=els.length->(els.drop i).take n=els'->RL (.vrow s els') (.sl b i n)
 |fptr {b i j s:Nat} {els:List (List Lf)} {e e':List Lf}:fz b->H.o b=.blk s els true->els[i]?=some e->e.drop j=e'->RL (.vptr e') (.ptr b i j)
 |nil {s:Nat}:RL (.vrow s []) .nils
 |slz {s:Nat}:RL (.vrow s []) .slz
 |sl0 {s b i:Nat}:RL (.vrow s []) (.sl b i 0)
inductive RV:AV->AV->Prop
 |junk {v:AV}:RV junk v
 |und:RV und und
 |one {x y:Lf}:RL H fz π n1 x y->RV (.one x) (.one y)
 |agg {xs ys:List Lf}:ae (RL H fz π n1) xs ys->RV (.agg xs) (.agg ys)
inductive RO:AO->AO->Prop
 |dead {x:AO}:RO .dead x
 |blk {s:Nat} {els els':List (List Lf)} {o:Bool}:ae (ae (RL H fz π n1)) els els'->RO (.blk s els o) (.blk s els' o)
 |siter {s:List UInt8} {p:Nat}:RO (.siter s p) (.siter s p)
 |bld {u:Bool} {x:Option (Nat×Nat)}:(∀p,x=some p->p.1<n1)->RO (.bld u x) (.bld u (x.map fun p=>(π p.1,p.2)))
 |loop {st:LSt} {pend:Option Ex} {T T':Tm} {ps:List Nat} {as bd:AC}:(∀k,RV H fz π n1 (T k) (T' k))->RO (.loop st pend T ps as bd) (.loop st pend T' ps as bd)
end
section
variable {S:SC} {ρ:Rho} {w:World} {n:Nat} {H:Heap} {fz:Nat->Prop} {π:Nat->Nat} {n1:Nat}
theorem aA.crel {x:Lf}{u:Value}(hc:x.closed=true) (h:aA S ρ n x u):aV S ρ.fz x u:=by
 cases x <;> simp only[aA,Lf.closed,Bool.false_eq_true] at h hc <;> (try simp only[aV]) <;> try exact h
 rename_i f cap;have:cap=[]:=by simpa using hc
 subst this;exact⟨rfl,by simpa using h.2⟩
open Classical in
noncomputable def eP (ρ:Rho) (w:World) (π:Nat->Nat) (fz:Nat->Prop):Rho:=
 ⟨fun i=>ρ (π i),fun k=>if ∃b,fz b/\(ρ b).g=k then w.heap[k]? else ρ.fz k⟩
theorem kw {k:Nat}(h:∃b,fz b/\(ρ b).g=k):(eP ρ w π fz).fz k=w.heap[k]?:=if_pos h
theorem kr {k:Nat}(h:¬ ∃b,fz b/\(ρ b).g=k):(eP ρ w π fz).fz k=ρ.fz k:=if_neg h
structure Ms (H:Heap) (fz:Nat->Prop) (π:Nat->Nat) (H1:Heap):Prop where
 lt:∀i,i<H1.n->live (H1.o i)=true->π i<H.n
 inj:∀i j,i<H1.n->j<H1.n->live (H1.o i)=true->live (H1.o j)=true->π i=π j->i=j
 ob:∀i,i<H1.n->RO H fz π H1.n (H1.o i) (H.o (π i))
 fr:∀b,fz b->b<H.n/\∃s els,H.o b=.blk s els true/\aD els=true
 nf:∀b i,fz b->i<H1.n->live (H1.o i)=true->π i≠b
theorem fI (hH:aJ S H ρ w) (hf:∀b,fz b->b<H.n/\∃s els,H.o b=.blk s els true/\aD els=true) (π:Nat->Nat):∀k ob,ρ.fz k=some ob->(eP ρ w π fz).fz k=some ob:=by
 intro k ob hk;by_cases h:∃b,fz b/\(ρ b).g=k
 .rw[kw h];exact(hH.fz k ob hk).2.1
 .rw[kr h];exact hk
theorem oC (hH:aJ S H ρ w) (hf:∀b,fz b->b<H.n/\∃s els,H.o b=.blk s els true/\aD els=true) (π:Nat->Nat) {b s:Nat}{els:List (List Lf)}(hb:fz b) (hob:H.o b=.blk s els true) :
 ∃C ty fr,(eP ρ w π fz).fz (ρ b).g=some (.cells C ty fr)/\(ρ b).s=s/\eG S (eP ρ w π fz).fz C (ρ b).o s els:=by
 obtain⟨hlt,s',els',h1,hcl⟩:=hf b hb;rw[hob] at h1;cases h1;have ho:=hH.obj b hlt;rw[hob] at ho;obtain⟨hs,C,ty,fr,hC,hcells,_⟩:=ho;refine⟨C,ty,fr,?_,hs.symm,eG.of fun k e hk=>?_⟩
 .rw[kw ⟨b,hb,rfl⟩];exact hC
 .obtain⟨q1,q2⟩:=hcells k e hk;refine⟨q1.trans hs.symm,bz.of fun j x hj=>?_⟩;obtain⟨v,hv,hr⟩:=q2 j x hj;refine⟨v,by rw[<- hv,hs],?_⟩;exact aV.mono (fI hH hf π) (hr.crel (List.all_eq_true.1 (List.all_eq_true.1 hcl e (zU hk)) x (zU hj)))
theorem RL.rel (hH:aJ S H ρ w) (hf:∀b,fz b->b<H.n/\∃s els,H.o b=.blk s els true/\aD els=true) {x y:Lf}{u:Value}(h:RL H fz π n1 x y) (hy:aA S ρ H.n y u):aA S (eP ρ w π fz) n1 x u:=by
 cases h with
 |same hc=>exact(aV.mono (fI hH hf π) (hy.crel hc)).lrel
 |ptr hb e=>subst e;exact⟨hb,hy.2⟩
 |sl hb e=>subst e;exact⟨hb,hy.2⟩
 |yld hb e=>subst e;exact⟨hb,hy.2⟩
 |mp hb e=>subst e;exact⟨hb,hy.2⟩
 | fn hc e=>
   subst e;refine⟨hc,?_⟩;rw[hy.2]
   congr 2
   rw[List.map_map]
   rfl
 | @frow b i n s els els' hb hob hl e=>
   subst e;obtain⟨C,ty,fr,h1,h2,h3⟩:=oC hH hf π hb hob;obtain⟨hbn,ad,cap,rfl,hnc,hcap⟩:=hy;have hlen:((els.drop i).take n).length=n:=by simp;omega
   simp only[aA,aV];refine⟨some ad,cap,by rw[hlen],by rw[hlen];exact hnc,?_⟩;rcases hcap with h0 | ⟨had,_⟩
   .left
    have:n=0:=by omega
    subst this;simp
   .right
    refine⟨(ρ b).g,(ρ b).o+i*s,C,ty,fr,?_,h1,h3.cut i n⟩;rw[had];unfold Loc.addr;rw[h2];simp
 | @fptr b i j s els e e' hb hob he e2=>
   subst e2;obtain⟨C,ty,fr,h1,h2,h3⟩:=oC hH hf π hb hob;obtain⟨hbn,rfl⟩:=hy;simp only[aA,aV];refine⟨(ρ b).g,(ρ b).o+i*s+j,C,ty,fr,?_,h1,(h3.get he).2.drop j⟩;unfold Loc.addr;rw[h2]
 | nil=>
   have hu:u=.slice none 0 0:=hy;subst hu;simp only[aA,aV];exact⟨none,0,rfl,zJ _,.inl trivial⟩
 | slz=>
   obtain⟨a,rfl⟩:∃a,u=.slice a 0 0:=hy;simp only[aA,aV];exact⟨a,0,rfl,zJ _,.inl trivial⟩
 | sl0=>
   obtain⟨hbn,ad,cap,rfl,hnc,hcap⟩:=hy;simp only[aA,aV];exact⟨some ad,cap,rfl,Nat.zero_le _,.inl trivial⟩
theorem ae.imp {α β γ:Type}{R:α->β->Prop}{P:β->γ->Prop}{R':α->γ->Prop}{xs:List α}{ys:List β}{zs:List γ}(h:ae R xs ys) (k:ae P ys zs) (hr:∀x y z,R x y->P y z->R' x z):ae R' xs zs:=
 ⟨h.1.trans k.1,fun i x z hx hz=>by
  obtain⟨y,hy,hxy⟩:=h.get hx;exact hr x y z hxy (k.2 i y z hy hz)⟩
theorem RV.rel (hH:aJ S H ρ w) (hf:∀b,fz b->b<H.n/\∃s els,H.o b=.blk s els true/\aD els=true) {x y:AV}{u:Value}(h:RV H fz π n1 x y) (hy:aN S ρ H.n y u):aN S (eP ρ w π fz) n1 x u:=by
 cases h with
 |junk=>exact .inl rfl
 | und=>
   rcases hy with hy | ⟨arr,rfl,hy⟩
   .cases hy
   .exact .inr ⟨arr,rfl,hy.1,fun i x y hx _=>by simp at hx⟩
 |one h=>exact RL.rel hH hf h hy
 | agg h=>
   obtain⟨arr,rfl,hy⟩:=hy;exact⟨arr,rfl,h.imp hy fun _ _ _ a b=>RL.rel hH hf a b⟩
end
end Go.EA
end
section
namespace Go.EA
def tmL (l:List AV):Tm:=fun n=>l.getD n und
def hl (L:List AO):Heap:=⟨L.length,fun i=>L.getD i .dead⟩
def KZ (o:Nat->AO):Nat->List AO->List AO
 |0,r=>r
 |n+1,r=>KZ o n (o n::r)
def tab (H:Heap):List AO:=KZ H.o H.n []
theorem EF {l:List AV}{d:Nat}{v:AV}(h:d<l.length):cz (tmL l) (some d) v=tmL (l.set d v):=by
 funext n
 simp only[cz,EA.put,tmL,zA];by_cases e:n=d
 .subst e;rw[if_pos rfl,List.getElem?_set_self h];rfl
 .rw[if_neg e,List.getElem?_set_ne (Ne.symm e)]
theorem KS (L:List AO):(hl L).Hd:=fun i hi=>by
 show L.getD i .dead=.dead;rw[zA,List.getElem?_eq_none hi];rfl
def xh:AOp->Bool
 |.mov _ | .eqv _ _ _ _ | .un _ _ | .s2s _ | .i2s _ | .b2s _ | .pick _ _ _ | .build _ _ | .load _ _ _ | .nilck _ | .faddr _ _ | .fld _ _ _ _ | .aaddr _ _ _ _ | .aidx _ _ _ _ _ | .mkfn _ _ | .lookup _ _ _ _ _ | .ext _ _ | .len _ _ | .best _ _=>true
 |_=>false
theorem lU {T:Tm}{H H':Heap}{op:AOp}{v:AV}(hp:xh op=true) (he:ah T H op=some (v,H')):H'=H:=by
 cases op <;> first | (cases hp; done) | skip
 all_goals
  simp only[ah] at he
  repeat' split at he
  all_goals first
   |(cases he;done)
   |(simp only[zE,zF] at he;exact he.2.symm)
   | (obtain ⟨_, _, e⟩ := zD.1 he
      simp only[zF] at e;exact e.2.symm)
abbrev OpS:=Option (AV×List AO×List Prop)
def aK:List Prop->Prop
 |[]=>True
 |p::r=>p/\aK r
def aZ (z:Int):Prop := -9223372036854775808<=z/\z<=9223372036854775807
def BV (op:BinOp) (k:IntKind) (a:Int) (k':IntKind) (b:Int):Option (AV×List Prop):=
 match op with
 |.add=>match k,k' with
  |.i64,.i64=>some (.one (.int .i64 (a+b)),[aZ (a+b)])
  |_,_=>(di op (.one (.int k a)) (.one (.int k' b))).map (·,[])
 |.sub=>match k,k' with
  |.i64,.i64=>some (.one (.int .i64 (a-b)),[aZ (a-b)])
  |_,_=>(di op (.one (.int k a)) (.one (.int k' b))).map (·,[])
 |.mul=>match k,k' with
  |.i64,.i64=>some (.one (.int .i64 (a*b)),[aZ (a*b)])
  |_,_=>(di op (.one (.int k a)) (.one (.int k' b))).map (·,[])
 |.quo=>match k,k' with
  |.i64,.i64=>some (.one (.int .i64 (a.tdiv b)),[b≠0,aZ (a.tdiv b)])
  |_,_=>if k=k' then some (.one (.int k (k.wrap (a.tdiv b))),[b≠0]) else none
 |.rem=>if k=k' then some (.one (.int k (a.tmod b)),[b≠0]) else none
 |op=>(di op (.one (.int k a)) (.one (.int k' b))).map (·,[])
theorem wrap64 {z:Int}(h:aZ z):IntKind.i64.wrap z=z:=by
 obtain⟨h1,h2⟩:=h;have e:IntKind.i64.wrap z=(if z % 18446744073709551616 ≥ 9223372036854775808 then z % 18446744073709551616-18446744073709551616 else z % 18446744073709551616):=by
  show (if (true&&decide _)=true then _ else _)=_;simp only[Bool.true_and,decide_eq_true_eq]
  rfl
 rw[e];split <;> omega
theorem Ia {op:BinOp}{k k':IntKind}{a b:Int}{v:AV}{c:List Prop}(h:BV op k a k' b=some (v,c)) (hc:aK c):di op (.one (.int k a)) (.one (.int k' b))=some v:=by
 have dflt:(di op (.one (.int k a)) (.one (.int k' b))).map (·,[])=some (v,c)->di op (.one (.int k a)) (.one (.int k' b))=some v:=fun h=>by
  obtain⟨w,hw,e⟩:=zD.1 h;cases e;exact hw
 unfold BV at h;cases op with
 | add=>
   simp only at h;split at h
   .cases h;simp only[di,jK,if_true,wrap64 hc.1]
   .exact dflt h
 | sub=>
   simp only at h;split at h
   .cases h;simp only[di,jK,if_true,wrap64 hc.1]
   .exact dflt h
 | mul=>
   simp only at h;split at h
   .cases h;simp only[di,jK,if_true,wrap64 hc.1]
   .exact dflt h
 | quo=>
   simp only at h;split at h
   .cases h;simp only[di,jK,if_true,if_neg hc.1,wrap64 hc.2.1]
   .split at h
    .rename_i hk;cases h;subst hk;simp only[di,jK,if_true,if_neg hc.1]
    .cases h
 | rem=>
   simp only at h;split at h
   .rename_i hk;cases h;subst hk;simp only[di,jK,if_true,if_neg hc.1]
   .cases h
 |_=>exact dflt h
def mQ (T:List AV) (d:Int):Option Opd->Option Int
 |none=>some d
 |some x=>match x.ev (tmL T) with
  |.one (.int _ n)=>some n
  |_=>none
def opS (T:List AV) (L:List AO) (op:AOp):OpS:=
 match op with
 |.bin o x y=>match x.ev (tmL T),y.ev (tmL T) with
  |.one (.int k a),.one (.int k' b)=>match BV o k a k' b with
   |some (v,c)=>some (v,L,c)
   |none=>none
  |.one (.str a),.one (.str b)=>match o with
   |.add=>some (.one (.str (a++b)),L,[a.length+b.length<=9223372036854775807])
   |o=>match rA o a b with
    |some v=>some (v,L,[])
    |none=>none
  |_,_=>none
 |.wrapI k x=>match x.ev (tmL T) with
  |.one (.int _ n)=>match k with
   |.i64=>some (.one (.int .i64 n),L,[aZ n])
   |k=>some (.one (.int k (k.wrap n)),L,[])
  |_=>none
 |.iaddr s x i=>match x.ev (tmL T),i.ev (tmL T) with
  |.one (.sl b f n),.one (.int _ k)=>match (hl L).isBlk s b with
   |true=>some (.one (.ptr b (f+k.toNat) 0),L,[0<=k/\k<n])
   |false=>none
  |.one (.vrow s' els),.one (.int _ k)=>match Nat.beq s' s with
   |true=>some (.one (.vptr (els.getD k.toNat [])),L,[0<=k/\k<els.length])
   |false=>none
  |_,_=>none
 |.sidx x i=>match x.ev (tmL T),i.ev (tmL T) with
  |.one (.str s),.one (.int _ k)=>some (.one (.int .u8 (s.getD k.toNat 0).toNat),L,[0<=k/\k<s.length])
  |_,_=>none
 |.slice k s x lo hi none=>match k,x.ev (tmL T) with
  |.str,.one (.str s)=>match mQ T 0 lo,mQ T s.length hi with
   |some l,some h=>some (.one (.str ((s.drop l.toNat).take (h.toNat-l.toNat))),L,[0<=l/\l<=h/\h<=s.length])
   |_,_=>none
  |.slc,.one (.sl b i n)=>match (hl L).isBlk s b,mQ T 0 lo,mQ T n hi with
   |true,some l,some h=>some (.one (.sl b (i+l.toNat) (h.toNat-l.toNat)),L,[0<=l/\l<=h/\h<=n])
   |_,_,_=>none
  |.slc,.one (.vrow s' els)=>match Nat.beq s' s,mQ T 0 lo,mQ T els.length hi with
   |true,some l,some h=>some (.one (.vrow s ((els.drop l.toNat).take (h.toNat-l.toNat))),L,[0<=l/\l<=h/\h<=els.length])
   |_,_,_=>none
  |k,v=>match dh (tmL T) (hl L) k s v lo hi none with
   |some v=>some (v,L,[])
   |none=>none
 |.mksl s z bytes len cap=>match len.ev (tmL T),cap.ev (tmL T) with
  |.one (.int _ l),.one (.int _ c)=>some (.one (.sl L.length 0 l.toNat),L++[.blk s (List.replicate l.toNat z) true],[0<=l/\l<=c/\c*bytes<=140737488355328/\c<=140737488355328])
  |_,_=>none
 |.app s bytes x y=>match fM (hl L) s (y.ev (tmL T)),x.ev (tmL T) with
  |some (e::es),.one .nils | some (e::es),.one .slz=>some (.one (.sl L.length 0 (es.length+1)),L++[.blk s (e::es) true],[(es.length+1)*bytes<=140737488355328])
  |some (e::es),.one (.sl b i n)=>match L.getD b .dead with
   |.blk s' els true=>match Nat.beq s' s with
    |true=>some (.one (.sl L.length 0 (n+(es.length+1))),L.set b .dead++[.blk s ((els.drop i).take n++e::es) true],[i+n<=els.length/\(n+(es.length+1))*bytes<=140737488355328])
    |false=>none
   |_=>none
  |some [],x=>match eB (hl L) s bytes x (y.ev (tmL T)) with
   |some (v,_)=>some (v,L,[])
   |none=>none
  |_,_=>none
 |op=>match ah (tmL T) (hl L) op with
  |some (v,H)=>some (v,match xh op with | true=>L | false=>tab H,[])
  |none=>none
end Go.EA
end
section
namespace Go.EA
end Go.EA
end
