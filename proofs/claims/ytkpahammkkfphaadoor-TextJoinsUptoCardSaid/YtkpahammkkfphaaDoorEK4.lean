/- Texts. Conditions: none. -/
import Derived.Test.YtkpahammkkfphaaDoorEK3
set_option linter.unusedVariables false
set_option linter.unusedSimpArgs false
section
namespace Go.EA
inductive Kt where
 |code (c:AC)
 |ops (l:List AI) (i:Nat)
 |dops (l:List AI) (i:Nat)
 |blk (id:Nat)
 |stop (R:Tm->Heap->Prop)
 |rnd (x:AC) (n:Nat)
structure St where
 e:Ex
 k:List Kt
 T:List AV
 L:List AO
def vC (T:List AV) (d:Option Nat) (v:AV):Option (List AV):=
 match d with
 |none=>some T
 |some d=>match Nat.blt d T.length with
  |true=>some (T.set d v)
  |false=>none
def gdS (T:List AV):Option (Nat×Bool)->Option Bool
 |none=>some true
 |some (d,b)=>match tmL T d with
  |.one (.bool x)=>some (x == b)
  |.tup []=>some false
  |_=>none
def IB (T:List AV) (L:List AO) (i:AI):Option (List AV×List AO×List Prop):=
 match gdS T i.gd with
 |some true=>match jT i.op with
  |true=>none
  |false=>match opS T L i.op with
   |some (v,L',c)=>match vC T i.dst v with
    |some T'=>some (T',L',c)
    |none=>none
   |none=>none
 |some false=>match vC T i.dst und with
  |some T'=>some (T',L,[])
  |none=>none
 |none=>none
def Kz:St->Option (St×List Prop)
 |⟨.normal,.ops l q::k,T,L⟩=>match l[q]? with
  |none=>some (⟨.normal,k,T,L⟩,[])
  |some i=>match IB T L i with
   |some (T',L',c)=>some (⟨.normal,.ops l (q+1)::k,T',L'⟩,c)
   |none=>none
 |⟨.normal,.dops l q::k,T,L⟩=>match l[q]? with
  |none=>some (⟨.normal,k,T,L⟩,[])
  |some i=>match IB T L i with
   |some (T',L',c)=>some (⟨.normal,.dops l (q+1)::k,T',L'⟩,c)
   |none=>none
 |⟨.normal,.blk _::k,T,L⟩=>some (⟨.normal,k,T,L⟩,[])
 |⟨.normal,.rnd x n::k,T,L⟩=>match n with
  |0=>none
  |n+1=>some (⟨.normal,.code x::.rnd x n::k,T,L⟩,[])
 |⟨.normal,.code c::k,T,L⟩=>match c with
  |.skip=>some (⟨.normal,k,T,L⟩,[])
  |.reg l=>some (⟨.normal,.ops l 0::k,T,L⟩,[])
  |.dreg l=>some (⟨.normal,.dops l 0::k,T,L⟩,[])
  |.seq a b=>match a with
   |.skip=>some (⟨.normal,.code b::k,T,L⟩,[])
   |a=>some (⟨.normal,.code a::.code b::k,T,L⟩,[])
  |.cond c a b=>match c.ev (tmL T) with
   |.one (.bool true)=>some (⟨.normal,.code a::k,T,L⟩,[])
   |.one (.bool false)=>some (⟨.normal,.code b::k,T,L⟩,[])
   |_=>none
  |.block id b=>some (⟨.normal,.code b::.blk id::k,T,L⟩,[])
  |.exit id=>some (⟨.exit id,k,T,L⟩,[])
  |.ret=>some (⟨.ret,[],T,L⟩,[])
  |_=>none
 |⟨.exit id,.blk id'::k,T,L⟩=>match Nat.beq id id' with
  |true=>some (⟨.normal,k,T,L⟩,[])
  |false=>some (⟨.exit id,k,T,L⟩,[])
 |⟨.exit id,_::k,T,L⟩=>some (⟨.exit id,k,T,L⟩,[])
 |_=>none
def su:List Prop->List Prop->List Prop
 |[],r=>r
 |p::l,r=>p::su l r
theorem aK.app:∀{a b:List Prop},aK (su a b)->aK a/\aK b
 |[],b,h=>⟨trivial,h⟩
 |p::a,b,h=>⟨⟨h.1,(aK.app h.2).1⟩,(aK.app h.2).2⟩
def run:Nat->St->Option (St×List Prop)
 |0,s=>some (s,[])
 |n+1,s=>match Kz s with
  |some (s',c)=>match run n s' with
   |some (s'',c')=>some (s'',su c c')
   |none=>none
  |none=>none
def tl (n:Nat) (l:List (Nat×AV)):List AV:=(List.range n).map fun i=>match l.find? (fun p=>Nat.beq p.1 i) with | some p=>p.2 | none=>junk
section
variable (S:SC) (X:Cx) (m:Nat)
def DO (r:List AI) (T:Tm) (H:Heap) (Q:Tm->Heap->Prop):Prop:=∃T' H',aU (callP X) r T H=some (T',H')/\Q T' H'
def Sem:List Kt->(Ex->Tm->Heap->Prop)->Ex->Tm->Heap->Prop
 |[],Q,e,T,H=>Q e T H
 |.code c::k,Q,.normal,T,H=>MC S m c T H (Sem k Q)
 |.ops l i::k,Q,.normal,T,H=>MO S m (l.drop i) T H (Sem k Q .normal)
 |.dops l i::k,Q,.normal,T,H=>DO X (l.drop i) T H (Sem k Q .normal)
 |.blk _::k,Q,.normal,T,H=>Sem k Q .normal T H
 |.stop R::_,_,.normal,T,H=>R T H
 |.rnd x n::k,Q,.normal,T,H=>MR S m x n T H (Sem k Q)
 |.blk id::k,Q,.exit id',T,H=>if id'=id then Sem k Q .normal T H else Sem k Q (.exit id') T H
 |_::k,Q,e,T,H=>Sem k Q e T H
def eO (s:St) (Q:Ex->Tm->Heap->Prop):Prop:=Sem S X m s.k Q s.e (tmL s.T) (hl s.L)
end
section
variable {S:SC} {X:Cx} {m:Nat}
theorem Sem.ret:∀{k:List Kt}{Q:Ex->Tm->Heap->Prop}{T:Tm}{H:Heap},Q .ret T H->Sem S X m k Q .ret T H
 |[],Q,T,H,h=>h
 |.code c::k,Q,T,H,h=>Sem.ret (k:=k) h
 |.ops l i::k,Q,T,H,h=>Sem.ret (k:=k) h
 |.dops l i::k,Q,T,H,h=>Sem.ret (k:=k) h
 |.blk id::k,Q,T,H,h=>Sem.ret (k:=k) h
 |.stop R::k,Q,T,H,h=>Sem.ret (k:=k) h
 |.rnd x n::k,Q,T,H,h=>Sem.ret (k:=k) h
theorem yS {T:List AV}{d:Option Nat}{v:AV}{T':List AV}(h:vC T d v=some T'):cz (tmL T) d v=tmL T':=by
 unfold vC at h;split at h
 .cases h;rfl
 .rename_i d;split at h
  .rename_i hb;cases h;exact EF (zW hb)
  .cases h
theorem Ca {T:List AV}{g:Option (Nat×Bool)}{b:Bool}(h:gdS T g=some b):known (tmL T) g=true/\wanted (tmL T) g=b:=by
 unfold gdS at h;split at h
 .cases h;exact⟨rfl,rfl⟩
 .rename_i d b';split at h
  .rename_i x hx;cases h;simp[known,wanted,hx,AV.isJ]
  .rename_i hx;cases h;simp[known,wanted,hx,AV.isJ]
  .cases h
theorem DO.cons {i:AI}{r:List AI}{T:Tm}{H:Heap}{Q:Tm->Heap->Prop}(hkn:known T i.gd=true)
 (hh:(wanted T i.gd=false/\DO X r (cz T i.dst und) H Q) \/
  (wanted T i.gd=true/\jT i.op=false/\∃v H1,ah T H i.op=some (v,H1)/\DO X r (cz T i.dst v) H1 Q) \/
  (wanted T i.gd=true/\∃f xs v H1,i.op=.call f xs/\callP X (f.ev T) (xs.map (·.ev T)) H=some (v,H1)/\DO X r (cz T i.dst v) H1 Q)):DO X (i::r) T H Q:=by
 rcases hh with ⟨hw,T',H',h1,h2⟩ | ⟨hw,hc,v,H1,he,T',H',h1,h2⟩ | ⟨hw,f,xs,v,H1,ho,he,T',H',h1,h2⟩
 .refine⟨T',H',?_,h2⟩;simp only[aU,hkn,hw];exact h1
 .refine⟨T',H',?_,h2⟩;obtain⟨d,op,g⟩:=i;cases op with
  |call f xs=>cases hc
  | _=>
    simp only[aU,hkn,hw] at he ⊢;simp only[Bool.true_eq_false,if_false,if_true,he];exact h1
 .refine⟨T',H',?_,h2⟩;simp only[aU,hkn,hw,ho,Bool.true_eq_false,if_false,if_true,he];exact h1
theorem Abs.junk {T T1:Tm}{H:Heap}(h:∀k,T1 k=EA.junk\/T1 k=T k):Abs S m T H T1 H:=by
 intro hm ρ w tmps hT hH;refine⟨ρ,fun k v hk=>?_,hH,(Frm.refl _ _ _).weak hm⟩;rcases h k with h | h
 .rw[h];exact .inl rfl
 .rw[h];exact hT k v hk
theorem eO.abs {c:AC}{k:List Kt}{T T1:List AV}{L L1:List AO}{Q:Ex->Tm->Heap->Prop}(ha:Abs S m (tmL T) (hl L) (tmL T1) (hl L1)) (h:eO S X m ⟨.normal,.code c::k,T1,L1⟩ Q):eO S X m ⟨.normal,.code c::k,T,L⟩ Q:=MC.abs ha h
end
end Go.EA
end
section
namespace Go.EA
section
variable {S:SC} {X:Cx} {m:Nat}
theorem eO.step (hS:S.Good X) {l:List AI}{q:Nat}{k:List Kt}{T:List AV}{L:List AO}{Q:Ex->Tm->Heap->Prop}{i:AI}(hi:l[q]?=some i) (hg:gdS T i.gd=some true) (hc:jT i.op=false) {v:AV}{L1:List AO}(he:ah (tmL T) (hl L) i.op=some (v,hl L1))
 {T':List AV} (hT:vC T i.dst v=some T') (h:eO S X m ⟨.normal,.ops l (q+1)::k,T',L1⟩ Q):eO S X m ⟨.normal,.ops l q::k,T,L⟩ Q:=by
 obtain⟨hlt,hget⟩:=zI.1 hi;obtain⟨g1,g2⟩:=Ca hg;show MO S m (l.drop q) _ _ _;rw[List.drop_eq_getElem_cons hlt,hget];refine MO.cons hS.ok g1 (.inr (.inl ⟨g2,hc,v,hl L1,he,?_⟩));rw[yS hT];exact h
theorem eO.call (hS:S.Good X) {l:List AI}{q:Nat}{k:List Kt}{T:List AV}{L:List AO}{Q:Ex->Tm->Heap->Prop}{d:Option Nat}{f:Opd}{xs:List Opd}{g:Option (Nat×Bool)}(hi:l[q]?=some ⟨d,.call f xs,g⟩) (hg:gdS T g=some true) {fv:AV}{vs:List AV}
 (hf:f.ev (tmL T)=fv) (hx:xs.map (·.ev (tmL T))=vs) (h:dw S fv vs (hl L) fun v H1=>∃T',vC T d v=some T'/\Sem S X m (.ops l (q+1)::k) Q .normal (tmL T') H1):eO S X m ⟨.normal,.ops l q::k,T,L⟩ Q:=by
 obtain⟨hlt,hget⟩:=zI.1 hi;obtain⟨g1,g2⟩:=Ca hg;show MO S m (l.drop q) _ _ _;rw[List.drop_eq_getElem_cons hlt,hget];refine MO.cons hS.ok g1 (.inr (.inr ⟨g2,f,xs,rfl,?_⟩));rw[hf,hx];refine h.mono fun v H1 h=>?_
 obtain⟨T',hT,h⟩:=h;show MO S m _ (cz (tmL T) d v) _ _;rw[yS hT];exact h
theorem eO.callPr (hS:S.Good X) {l:List AI}{q:Nat}{k:List Kt}{T:List AV}{L:List AO}{Q:Ex->Tm->Heap->Prop}{i:Nat}{p:List AV->Heap->Option (AV×Heap)}(hp:X.pr i=some p) {d:Option Nat}{f:Opd}{xs:List Opd}{g:Option (Nat×Bool)}
 (hi:l[q]?=some ⟨d,.call f xs,g⟩) (hg:gdS T g=some true) (hf:f.ev (tmL T)=.one (.fn i [])) {v:AV} {L1:List AO} (he:p (xs.map (·.ev (tmL T))) (hl L)=some (v,hl L1)) {T':List AV} (hT:vC T d v=some T')
 (h:eO S X m ⟨.normal,.ops l (q+1)::k,T',L1⟩ Q):eO S X m ⟨.normal,.ops l q::k,T,L⟩ Q:=
 eO.call hS hi hg hf rfl (dw.pr (hS.prs i p hp) he ⟨T',hT,h⟩)
theorem eO.loop {α:Type}(I:α->List AV×List AO) (μ:α->Nat) (x0:α) {b:AC}{k:List Kt}{T:List AV}{L:List AO}{Q:Ex->Tm->Heap->Prop}(h0:Abs S m (tmL T) (hl L) (tmL (I x0).1) (hl (I x0).2))
 (h:∀x (R:Tm->Heap->Prop),(∀x' T' H',μ x'<μ x->Abs S m T' H' (tmL (I x').1) (hl (I x').2)->R T' H')->eO S X m ⟨.normal,.code b::.stop R::k,(I x).1,(I x).2⟩ Q):eO S X m ⟨.normal,.code (.loop b)::k,T,L⟩ Q:=by
 refine MC.abs h0 (MC.loop (fun n T H=>∃x,μ x=n/\Abs S m T H (tmL (I x).1) (hl (I x).2)) ?_ (k:=μ x0) ⟨x0,rfl,Abs.refl⟩);rintro n T H ⟨x,rfl,ha⟩;refine MC.abs ha (MC.mono (h x (fun T' H'=>∃x',μ x'<μ x/\Abs S m T' H' (tmL (I x').1) (hl (I x').2)) fun x' T' H' h1 h2=>⟨x',h1,h2⟩) fun e T' H' hh=>?_);cases e with
 | normal=>
   obtain⟨x',h1,h2⟩:∃x',μ x'<μ x/\Abs S m T' H' (tmL (I x').1) (hl (I x').2):=hh;exact⟨μ x',h1,x',rfl,h2⟩
 |exit id=>exact hh
 |ret=>exact hh
theorem eO.rounds (n:Nat) {b:AC}{k:List Kt}{T:List AV}{L:List AO}{Q:Ex->Tm->Heap->Prop}(h:eO S X m ⟨.normal,.rnd b n::k,T,L⟩ Q):eO S X m ⟨.normal,.code (.loop b)::k,T,L⟩ Q:=MC.rounds n h
theorem eO.stop {k:List Kt}{T:List AV}{L:List AO}{Q:Ex->Tm->Heap->Prop}{R:Tm->Heap->Prop}(h:R (tmL T) (hl L)):eO S X m ⟨.normal,.stop R::k,T,L⟩ Q:=h
theorem eO.done {T T1:List AV}{e:Ex}{L L1:List AO}{rs:List dV}{Q:AV->Heap->Prop}(he:e=.ret\/e=.normal) (ha:Abs S m (tmL T) (hl L) (tmL T1) (hl L1)) {v:AV}(hv:iw (tmL T1) (hl L1) rs=some v) (hq:Q v (hl L1)) :
 eO S X m ⟨e,[],T,L⟩ fun e T' H'=>∃T1 H1,Abs S m T' H' T1 H1/\(e=.ret\/e=.normal)/\∃v,iw T1 H1 rs=some v/\Q v H1:=
 ⟨_,_,ha,he,v,hv,hq⟩
theorem Bg (ys:List AV) (n:Nat):jf ys=tmL (ys++List.replicate n und):=by
 funext k
 induction ys generalizing k with
 | nil=>
   simp only[jf,tmL,List.nil_append,zA,List.getElem?_replicate];split <;> rfl
 | cons y ys ih=>
   cases k with
   |zero=>rfl
   |succ k=>simpa [jf,tmL] using ih k
theorem MF.run (_hS:S.Good X) {f:Nat}{cap:List (Nat×Nat×Nat)}{xs:List AV}{L:List AO}{Q:AV->Heap->Prop}{af:AF}(hf:S.has f af) (T0:List AV) (hlen:xs.length+cap.length=af.np)
 (hT:T0=xs++(cap.map fun c=>AV.one (.ptr c.1 c.2.1 c.2.2))++List.replicate (af.nt-af.np) und)
 (h:eO S X L.length ⟨.normal,[.code af.body],T0,L⟩ fun e T' H'=>∃T1 H1,Abs S L.length T' H' T1 H1/\(e=.ret\/e=.normal)/\∃v,iw T1 H1 af.res=some v/\Q v H1):MF S f cap xs (hl L) Q:=by
 refine MF.of hf hlen ?_;rw[Bg _ (af.nt-af.np),<- hT];refine MC.post (MC.mono (show MC S L.length af.body (tmL T0) (hl L) (Sem S X L.length [] _) from h) fun e T' H' hh=>?_);obtain⟨T1,H1,h1,h2⟩:=hh;exact⟨T1,H1,h1,h2⟩
abbrev GP:=List AV->Option (AV×List Prop)
open Classical in
noncomputable def aC (g:GP):List AV->Heap->Option (AV×Heap):=fun xs H=>match g xs with
 |some (v,c)=>if aK c then some (v,H) else none
 |none=>none
theorem pF {g:GP}{xs:List AV}{v:AV}{c:List Prop}(h:g xs=some (v,c)) (hc:aK c) (H:Heap):aC g xs H=some (v,H):=by unfold aC;rw[h];exact if_pos hc
theorem qA {g:GP}{xs:List AV}{v:AV}{H H':Heap}(h:aC g xs H=some (v,H')):H'=H/\∃c,g xs=some (v,c)/\aK c:=by
 unfold aC at h;split at h
 .rename_i v0 c hg;split at h
  .rename_i hc;simp only[zE,zF] at h;obtain⟨rfl,rfl⟩:=h;exact⟨rfl,c,hg,hc⟩
  .cases h
 .cases h
theorem aN.closed {ρ ρ':Rho}{n n':Nat}(e:∀k ob,ρ.fz k=some ob->ρ'.fz k=some ob) {x:AV}{u:Value}(hc:x.closed=true) (h:aN S ρ n x u):aN S ρ' n' x u:=by
 have leaf:∀{x:Lf} {u:Value},x.closed=true->aA S ρ n x u->aA S ρ' n' x u:=fun hc h=>(aV.mono e (h.crel hc)).lrel
 have v1:∀{x:AV} {u:Value},x.closed1=true->ik S ρ n x u->ik S ρ' n' x u:=by
  intro x u hc h;cases x with
  |one x=>exact leaf hc h
  | agg cs=>
    obtain⟨arr,rfl,h⟩:=h;exact⟨arr,rfl,h.1,fun i x y hx hy=>leaf (List.all_eq_true.1 hc x (zU hx)) (h.2 i x y hx hy)⟩
  |tup vs=>exact h
 cases x with
 |one x=>exact leaf hc h
 |agg cs=>exact v1 (x:=.agg cs) hc h
 | tup vs=>
   by_cases hj:(AV.tup vs).isJ=true
   .exact .inl hj
   .rcases h with h | ⟨arr,rfl,h⟩
    .exact absurd h hj
    .have hc':vs.all AV.closed1=true:=by
      simp only[AV.closed,Bool.or_eq_true] at hc;exact hc.resolve_right hj
     exact .inr ⟨arr,rfl,h.1,fun i x y hx hy=>v1 (List.all_eq_true.1 hc' x (zU hx)) (h.2 i x y hx hy)⟩
theorem eO.callP (hS:S.Good X) {l:List AI}{q:Nat}{k:List Kt}{T:List AV}{L:List AO}{Q:Ex->Tm->Heap->Prop}{i:Nat}{g:GP}(hp:X.pr i=some (aC g)) {d:Option Nat}{f:Opd}{xs:List Opd}{gd:Option (Nat×Bool)}
 (hi:l[q]?=some ⟨d,.call f xs,gd⟩) (hg:gdS T gd=some true) (hf:f.ev (tmL T)=.one (.fn i [])) {vs:List AV} (hx:xs.map (·.ev (tmL T))=vs) {v:AV} {c:List Prop} (he:g vs=some (v,c)) (hc:aK c) {T':List AV} (hT:vC T d v=some T')
 (h:eO S X m ⟨.normal,.ops l (q+1)::k,T',L⟩ Q):eO S X m ⟨.normal,.ops l q::k,T,L⟩ Q:=
 eO.callPr hS hp hi hg hf (by rw[hx];exact pF he hc _) hT h
theorem GR (f:Nat) (g:GP) (h:∀xs v c,g xs=some (v,c)->aK c->xs.all AV.closed=true/\v.closed=true/\MF S f [] xs (hl []) fun v' _=>v'=v):aP S f (aC g):=by
 intro xs H v H' hp ρ w vs hvs hH;obtain⟨hHH,c,hg,hc⟩:=qA hp;subst H';obtain⟨hx,hv,hm⟩:=h xs v c hg hc;have hn:aJ S (hl []) ρ w:=⟨fun i hi=>absurd hi (zS _),fun i j hi=>absurd hi (zS _),fun k ob hk=>⟨(hH.fx k ob hk).1,fun i hi=>absurd hi (zS _)⟩,
  fun k ob hk=>⟨(hH.fz k ob hk).1,(hH.fz k ob hk).2.1,fun i hi=>absurd hi (zS _)⟩,hH.dr⟩
 have hvs':ae (aN S ρ 0) xs vs:=⟨hvs.1,fun i x y hx' hy=>aN.closed (fun _ _ h=>h) (List.all_eq_true.1 hx x (zU hx')) (hvs.2 i x y hx' hy)⟩;obtain⟨h1,h2⟩:=hm ρ w vs (by simp) hvs' hn;have e0:vs.toArray++(List.map (bY ρ) ([]:List (Nat×Nat×Nat))).toArray=vs.toArray:=by simp
 rw[e0] at h1 h2;refine .inr (.inl ⟨_,_,w,ρ,h1,rfl,rfl,h2.mono fun e w' hr=>?_⟩);obtain⟨_,H1,rfl,u,ρ',rfl,k1,k2,k3⟩:=hr;have hno:∀k,dB (hl []) ρ k:=fun k i hi=>absurd hi (zS _)
 have hE:Ext ρ H.n ⟨ρ.l,ρ'.fz⟩ H.n:=⟨zJ _,fun _ _=>rfl,k2.fz⟩;have hni:∀k,dB H ρ k->dB H ⟨ρ.l,ρ'.fz⟩ k:=fun k h=>h
 refine⟨u,⟨ρ.l,ρ'.fz⟩,rfl,⟨fun i hi=>?_,fun i j hi hj hne hoi hlj=>hH.ap i j hi hj hne hoi hlj,fun k ob hk=>⟨(k1.fx k ob hk).1,(hH.fx k ob hk).2⟩,fun k ob hk=>⟨(k1.fz k ob hk).1,(k1.fz k ob hk).2.1,fun i hi hoi hik=>?_⟩,k1.dr⟩,
  ⟨k2.sz,k2.os,k2.tape,k2.output,zJ _,fun _ _=>rfl,fun k hk hn=>⟨(k2.keep k hk (hno k)).1,hn⟩,k2.fz,fun k hk hn=>k2.fn k hk (hno k)⟩,aN.closed (ρ:=ρ') (ρ':=⟨ρ.l,ρ'.fz⟩) (fun _ _ h=>h) hv k3⟩
 .cases hd:live (H.o i) with
  | false=>
    have:H.o i=.dead:=by revert hd; cases H.o i <;> simp[live]
    rw[this];trivial
  | true=>
    have:=(k2.keep _ (hH.lt' hi hd) (hno _)).1;show kE S _ H.n (ρ i) _ (w'.heap[(ρ i).g]?);rw[this];exact(hH.obj i hi).mono hE
 .have hlt:=hH.lt hi hoi;have hik':(ρ i).g=k:=hik;subst hik';have:=k2.fn _ hlt (hno _);have hk':ρ'.fz (ρ i).g=some ob:=hk;rw[this] at hk';exact(hH.fz _ _ hk').2.2 i hi hoi rfl
open Classical in
noncomputable def sI {α:Type}(pat:α->List AV) (res:α->AV×List Prop):GP:=fun xs=>if h:∃a,pat a=xs then some (res h.choose) else none
theorem yO {α:Type}{pat:α->List AV}{res:α->AV×List Prop}(inj:∀a b,pat a=pat b->a=b) (a:α):sI pat res (pat a)=some (res a):=by
 unfold sI;have h:∃b,pat b=pat a:=⟨a,rfl⟩;rw[dif_pos h,inj _ _ h.choose_spec]
theorem vU (f:Nat) {α:Type}{pat:α->List AV}{res:α->AV×List Prop}(h:∀a,aK (res a).2->(pat a).all AV.closed=true/\(res a).1.closed=true/\MF S f [] (pat a) (hl []) fun v' _=>v'=(res a).1):aP S f (aC (sI pat res)):=by
 refine GR f _ fun xs v c hg hc=>?_
 unfold sI at hg;split at hg
 .rename_i hx;have hp:=hx.choose_spec;generalize hx.choose=a at hg hp;simp only[zE] at hg;have h1:(res a).1=v:=by rw[hg]
  have h2:(res a).2=c:=by rw[hg]
  subst hp h1 h2;exact h a hc
 .cases hg
end
end Go.EA
end
section
namespace Go.EA
section
variable {H:Heap} {fz:Nat->Prop} {π:Nat->Nat} {n1:Nat}
theorem RV.eq1 {x y:Lf}(h:x=y) (hc:x.closed=true):RV H fz π n1 (.one x) (.one y):=by subst h;exact .one (.same hc)
theorem RV.int {k:IntKind}{x y:Int}(h:x=y):RV H fz π n1 (.one (.int k x)) (.one (.int k y)):=RV.eq1 (by rw[h]) rfl
theorem RV.str {x y:List UInt8}(h:x=y):RV H fz π n1 (.one (.str x)) (.one (.str y)):=RV.eq1 (by rw[h]) rfl
theorem RV.bool {x y:Bool}(h:x=y):RV H fz π n1 (.one (.bool x)) (.one (.bool y)):=RV.eq1 (by rw[h]) rfl
theorem RV.row {s:Nat}{x y:List (List Lf)}(h:x=y):RV H fz π n1 (.one (.vrow s x)) (.one (.vrow s y)):=RV.eq1 (by rw[h]) rfl
theorem RV.sl {b b' i n n':Nat}(h:n=n') (h1:b<n1) (h2:π b=b'):RV H fz π n1 (.one (.sl b i n)) (.one (.sl b' i n')):=by subst h;exact .one (.sl h1 h2)
theorem RL.row {b i n s:Nat}{els els':List (List Lf)}(h1:fz b) (h2:H.o b=.blk s els true) (h3:i+n<=els.length) (h4:els'=(els.drop i).take n):RL H fz π n1 (.vrow s els') (.sl b i n):=.frow h1 h2 h3 h4.symm
theorem RV.frow {b n s:Nat}{els els':List (List Lf)}(h1:fz b) (h2:H.o b=.blk s els true) (h3:n=els.length) (h4:els'=els):RV H fz π n1 (.one (.vrow s els')) (.one (.sl b 0 n)):=
 .one (.row h1 h2 (by omega) (by subst h3 h4;simp))
theorem ae.eq {α:Type}{R:α->α->Prop}{xs ys:List α}(h:xs=ys) (hr:∀x∈xs,R x x):ae R xs ys:=by
 subst h;exact⟨rfl,fun i x y hx hy=>by rw[hx] at hy;cases hy;exact hr x (zU hx)⟩
theorem RO.eq {s:Nat}{x y:List (List Lf)}{o:Bool}(h:x=y) (hc:aD x=true):RO H fz π n1 (.blk s x o) (.blk s y o):=
 .blk (ae.eq h fun e he=>ae.eq rfl fun z hz=>.same (List.all_eq_true.1 (List.all_eq_true.1 hc e he) z hz))
theorem RO.box {s:Nat}{x y:Lf}{o:Bool}(h:RL H fz π n1 x y):RO H fz π n1 (.blk s [[x]] o) (.blk s [[y]] o):=.blk (ae.cons (ae.cons h ae.nil) ae.nil)
def FL (R:AO->AO->Prop) (L:List AO):List Nat->List AO->Prop
 |[],[]=>True
 |i::l,x::r=>R x (L.getD i .dead)/\FL R L l r
 |_,_=>False
theorem FL.get {R:AO->AO->Prop}{L:List AO}:∀{l:List Nat}{r:List AO},FL R L l r->l.length=r.length/\∀i,i<r.length->R (r.getD i .dead) (L.getD (l.getD i 0) .dead)
 |[],[],_=>⟨rfl,fun i hi=>absurd hi (zS _)⟩
 | i::l,x::r,h=>by
   obtain⟨h1,h2⟩:=FL.get h.2;refine⟨by simp[h1],fun k hk=>?_⟩;cases k with
   |zero=>simpa using h.1
   |succ k=>simpa using h2 k (by simpa using hk)
 |[],_::_,h=>h.elim
 |_::_,[],h=>h.elim
end
section
variable {S:SC} {m:Nat} {T:List AV} {L L1:List AO}
end
section
variable {T:List AV} {L:List AO}
end
section
variable {α:Type} {T:List AV} {L:List AO} {s:Nat} {f:α->List Lf} {l:List α} (d:α)
end
abbrev RB (s:List UInt8):List (List Lf):=List.map (fun b=>[Lf.int IntKind.u8 (b.toNat:Int)]) s
section
variable {T:List AV} {L:List AO} {l:List UInt8}
end
end Go.EA
end
