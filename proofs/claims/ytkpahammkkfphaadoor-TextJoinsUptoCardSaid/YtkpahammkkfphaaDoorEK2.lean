/- Texts. Conditions: none. -/
import Derived.Test.YtkpahammkkfphaaDoorEK1
import Derived.Laws.AppendOwn
import Derived.Laws.Tables
import Derived.Laws.IdiomStrings
import Derived.Laws.MakeOwn
import Derived.Laws.Strings2
set_option linter.unusedVariables false
set_option linter.unusedSimpArgs false
section
namespace Go.EA
section
variable {S:SC} {H:Heap} {ρ:Rho} {w:World}
theorem foldl_set (vs:List Value):∀(k off:Nat) (C:Array Value),off+k+vs.length<=C.size->
 ((vs.zipIdx k).foldl (fun cs (c:Value×Nat)=>cs.setIfInBounds (off+c.2) c.1) C).size=C.size/\
 ∀q,((vs.zipIdx k).foldl (fun cs (c:Value×Nat)=>cs.setIfInBounds (off+c.2) c.1) C)[q]?=if off+k<=q/\q<off+k+vs.length then vs[q-(off+k)]? else C[q]?:=by
 induction vs with
 |nil=>intro k off C _;exact⟨rfl,fun q=>by rw[if_neg (by simp only[List.length_nil];omega)];rfl⟩
 | cons v vs ih=>
   intro k off C hl;simp only[zM] at hl;simp only[List.zipIdx_cons,List.foldl_cons];obtain⟨h1,h2⟩:=ih (k+1) off (C.setIfInBounds (off+k) v) (by simp;omega);refine⟨by rw[h1];simp,fun q=>?_⟩;rw[h2 q];by_cases e:q=off+k
   .subst e;rw[if_neg (by omega),if_pos (by simp)];have:off+k<C.size:=by omega
    simp[this]
   .by_cases e2:off+(k+1)<=q/\q<off+(k+1)+vs.length
    .rw[if_pos e2,if_pos (by simp;omega),show q-(off+k)=(q-(off+(k+1)))+1 by omega];simp
    .rw[if_neg e2,if_neg (by simp;omega),Array.getElem?_setIfInBounds_ne (by omega)]
theorem wX (vs:Array Value) (off:Nat) (C:Array Value) (h:off+vs.size<=C.size) :
 (vs.zipIdx.foldl (fun cs (x:Value×Nat)=>match x with | (c,j)=>cs.setIfInBounds (off+j) c) C).size=C.size/\
 ∀q,(vs.zipIdx.foldl (fun cs (x:Value×Nat)=>match x with | (c,j)=>cs.setIfInBounds (off+j) c) C)[q]?=if off<=q/\q<off+vs.size then vs[q-off]? else C[q]?:=by
 have h0:=foldl_set vs.toList 0 off C (by simpa using h);have e:vs.zipIdx.foldl (fun cs (x:Value×Nat)=>match x with | (c,j)=>cs.setIfInBounds (off+j) c) C=(vs.toList.zipIdx 0).foldl (fun cs (c:Value×Nat)=>cs.setIfInBounds (off+c.2) c.1) C:=by
  rw[<- Array.foldl_toList,Array.toList_zipIdx]
 rw[e];refine⟨h0.1,fun q=>?_⟩;rw[h0.2 q];simp
theorem EZ {n:Nat}{cs p:List Lf}{C:Array Value}{vs:Array Value}{off m:Nat}(hc:ae (aA S ρ n) cs C.toList) (hp:ae (aA S ρ n) p vs.toList) (hl:off+p.length<=cs.length) {C':Array Value}(hs:C'.size=C.size)
 (hq:∀q,C'[q]?=if off<=q/\q<off+vs.size then vs[q-off]? else C[q]?):ae (aA S ρ n) (cs.take off++p++cs.drop (off+p.length)) C'.toList:=by
 have hpl:p.length=vs.size:=by have:=hp.1;simpa using this
 have hcl:cs.length=C.size:=by have:=hc.1;simpa using this
 refine⟨by simp;omega,fun i x v hx hv=>?_⟩;rw[Array.getElem?_toList,hq i] at hv;rcases Nat.lt_or_ge i off with h1 | h1
 .rw[if_neg (by omega)] at hv;rw[zO,zV (by simp;omega),List.getElem?_take,if_pos h1] at hx;exact hc.2 i x v hx (by rw[Array.getElem?_toList];exact hv)
 .rcases Nat.lt_or_ge i (off+p.length) with h2 | h2
  .rw[if_pos (by omega)] at hv;rw[zO,List.getElem?_append_right (by simp;omega),zV (by simp;omega)] at hx;simp only[zP] at hx;rw[show i-min off cs.length=i-off by omega] at hx;exact hp.2 (i-off) x v hx (by rw[Array.getElem?_toList];exact hv)
  .rw[if_neg (by omega)] at hv;rw[List.getElem?_append_right (by simp;omega)] at hx;simp only[zL,zP,List.getElem?_drop] at hx;rw[show off+p.length+(i-(min off cs.length+p.length))=i by omega] at hx;exact hc.2 i x v hx (by rw[Array.getElem?_toList];exact hv)
variable {nt:Nat} {T:Tm} {a:Act}
theorem rO (hS:S.Ok) (hT:eF S ρ H.n T a.tmps) (hn:a.tmps.size=nt) (place:Nat->Option (Nat×Nat)) :
 ∀(ps:List (Nat×Operand)) (qs:List (Nat×Nat×Opd)),ae (fun(p:Nat×Operand) (q:Nat×Nat×Opd)=>place p.1=some (q.1,q.2.1)/\aX S.C nt p.2=some q.2.2) ps qs->
 ∀(cs:List Lf) (C:Array Value) (r:List Lf),ae (aA S ρ H.n) cs C.toList->ic T cs qs=some r->∃C',Instr.fill place C (ps.map fun p=>(p.1,a.eval p.2))=some C'/\ae (aA S ρ H.n) r C'.toList:=by
 intro ps
 induction ps with
 | nil=>
   intro qs hl cs C r hC hf;obtain rfl:=hl.nil_inv;simp[ic] at hf;subst hf;exact⟨C,rfl,hC⟩
 | cons p ps ih=>
   intro qs hl cs C r hC hf;obtain⟨q,qs,rfl,⟨hpl,hxy⟩,ht⟩:=hl.cons_inv;obtain⟨i,x⟩:=p;obtain⟨off,n,y⟩:=q;have hv:=ll hS hT hn hxy;simp only[ic] at hf;split at hf
   .rename_i p hp;split at hf
    .rename_i hc;have hcel:=hv.cells hp;have hsz:(a.eval x).cells.size=n:=by have:=hcel.1;simp at this;omega
     have hcl:cs.length=C.size:=by have:=hC.1;simpa using this
     obtain⟨f1,f2⟩:=wX (a.eval x).cells off C (by omega);have:=ih qs ht _ _ r (EZ (m:=0) hC hcel (by omega) f1 f2) hf;obtain⟨C',h1,h2⟩:=this;refine⟨C',?_,h2⟩;simp only[zK,Instr.fill,hpl];rw[if_neg (by simp;omega)];exact h1
    .cases hf
   .cases hf
end
end Go.EA
end
section
namespace Go.EA
structure Pre (S:SC) (H:Heap) (ρ:Rho) (w:World) (nt:Nat) (T:Tm) (a:Act):Prop where
 ok:S.Ok
 T:eF S ρ H.n T a.tmps
 sz:a.tmps.size=nt
 H:aJ S H ρ w
section
variable {S:SC} {H H':Heap} {ρ:Rho} {w:World} {nt:Nat} {T:Tm} {a:Act} {o:Oper} {ao:AOp} {v:AV}
theorem Pre.opd (p:Pre S H ρ w nt T a) {x:Operand}{y:Opd}(h:aX S.C nt x=some y):aN S ρ H.n (y.ev T) (a.eval x):=ll p.ok p.T p.sz h
theorem Pre.opds (p:Pre S H ρ w nt T a) {x:List Operand}{y:List Opd}(h:fe S.C nt x=some y):ae (aN S ρ H.n) (y.map (·.ev T)) (x.map a.eval):=vH p.ok p.T p.sz h
abbrev dA (S:SC) (H:Heap) (ρ:Rho) (w:World) (a:Act) (o:Oper) (v:AV) (H':Heap):Prop:=dH S H ρ w v H' ((execOp a.eval o).run S.C.P w)
theorem yw (p:Pre S H ρ w nt T a) {x:Operand}(ho:o.op=.move x\/o.op=.assign x) (hc:aG S.C nt o=some ao) (he:ah T H ao=some (v,H')):dA S H ρ w a o v H':=by
 have:(aX S.C nt x).map AOp.mov=some ao:=by rcases ho with ho | ho <;> (simp only[aG,ho] at hc; exact hc)
 obtain⟨y,hy,rfl⟩:=zD.1 this;simp only[ah,zE,zF] at he;obtain⟨rfl,rfl⟩:=he;exact dH.same p.H (by rcases ho with ho | ho <;> (unfold execOp; simp only[ho]; rfl)) (p.opd hy)
theorem FN (p:Pre S H ρ w nt T a) {c x y:Operand}(ho:o.op=.pick c x y) (hc:aG S.C nt o=some ao) (he:ah T H ao=some (v,H')):dA S H ρ w a o v H':=by
 simp only[aG,ho] at hc;split at hc
 .rename_i c' x' y' h1 h2 h3;simp at hc;subst hc;simp only[ah] at he;split at he
  .rename_i t ht;simp at he;obtain⟨rfl,rfl⟩:=he;have hcv:=p.opd h1;rw[ht] at hcv;have hcv:a.eval c=.bool t:=hcv;refine dH.same p.H (u:=if t then a.eval x else a.eval y) ?_ ?_
   .simp[execOp,ho,hcv,asBool]
   .cases t
    .exact p.opd h3
    .exact p.opd h2
  .cases he
 .cases hc
theorem Hy (S:SC) (ρ:Rho) {x:Value}(h:dI x.cells.toList=some [.nilp,.nils]):x.cells=#[.pointer none,.slice none 0 0]:=by
 obtain⟨a,r,h1,h2,h3⟩:=(bn (S:=S) (ρ:=ρ) (n:=0) h).cons_inv;obtain⟨b,q,rfl,h4,h5⟩:=h3.cons_inv;obtain rfl:=h5.nil_inv;have h2:a=.pointer none:=h2;have h4:b=.slice none 0 0:=h4;rw[<- Array.toArray_toList (xs:=x.cells),h1,h2,h4]
theorem Dl (p:Pre S H ρ w nt T a) {t:TypeId}(ho:o.op=.alloc t) (hc:aG S.C nt o=some ao) (he:ah T H ao=some (v,H')):dA S H ρ w a o v H':=by
 simp only[aG,ho] at hc;obtain⟨z,hz,rfl⟩:=zD.1 hc;obtain⟨zv,h1,h2⟩:=pg (w:=w) hz;have run:(execOp a.eval o).run S.C.P w=.ok (.value (.pointer (some ⟨w.heap.size,0,none⟩))) (w.alloc (.cells zv.cells t)):=by
  simp only[execOp,ho];refine bq _ _ ?_;simp[Instr.alloc,h1,qc]
 have plain:ah T H (.new z)=some (v,H')->dA S H ρ w a o v H':=fun he=>by
  simp only[ah,zE,zF] at he;obtain⟨rfl,rfl⟩:=he;exact Ez p.H (v:=zv) (ty:=t) (bn h2) run
 unfold uo at he;split at he
 .rename_i b hb;split at he
  .rename_i hbt;simp only[ah,zE,zF] at he;obtain⟨rfl,rfl⟩:=he;have hz2:zv.cells=#[.pointer none,.slice none 0 0]:=Hy S ρ h2;obtain⟨k1,k2⟩:=p.H.push (L:=⟨w.heap.size,0,2,2,(t,0,0)⟩) (x:=.bld false none) (ob:=.cells zv.cells t) rfl ⟨rfl,b,_,hb,by rw[hz2,hbt];rfl,rfl⟩;refine⟨_,_,k1,k2,.inl ⟨_,run,by show H.n<H.n+1;omega,?_⟩⟩;rw[aQ];simp[Loc.addr]
  .exact plain he
 .exact plain he
theorem Jo (p:Pre S H ρ w nt T a) {t:TypeId}{x:Operand}(ho:o.op=.box t x) (hc:aG S.C nt o=some ao) (he:ah T H ao=some (v,H')):dA S H ρ w a o v H':=by
 simp only[aG,ho] at hc;obtain⟨y,hy,rfl⟩:=zD.1 hc;simp only[ah] at he;split at he
 .rename_i q hq;simp only[zE,zF] at he;obtain⟨rfl,rfl⟩:=he;refine Ez p.H (v:=a.eval x) (ty:=t) ((p.opd hy).cells hq) ?_;simp only[execOp,ho];refine bq _ _ ?_;simp[Instr.box,qc]
 .cases he
theorem qZ {P:Program}:∀(fs:List Field),fs.all (fun f=>(bM P f.type).isSome)=true->
 ∃places,fs.mapM (fun f=>(P.info? f.type).map fun i=>(f.offset,i.size))=some places/\∀(i:Nat) (f:Field) (n:Nat),fs[i]?=some f->bM P f.type=some n->places[i]?=some (f.offset,n)
 |[],_=>⟨[],rfl,by simp⟩
 | f::fs,h=>by
   simp only[List.all_cons,zH] at h;obtain⟨pl,h1,h2⟩:=qZ fs h.2;obtain⟨n,hn⟩:=Option.isSome_iff_exists.1 h.1;have hn':=hn;unfold bM at hn;obtain⟨i,hi,rfl⟩:=zD.1 hn;refine⟨(f.offset,i.size)::pl,?_,fun k g m hk hm=>?_⟩
   .simp only[List.mapM_cons,hi,h1];rfl
   .cases k with
    |zero=>simp at hk;subst hk;rw[hn'] at hm;cases hm;rfl
    |succ k=>simpa using h2 k g m (by simpa using hk) hm
theorem ry {fs:Array Field}{pl:List (Nat×Nat)}(hp:∀(i:Nat) (f:Field) (n:Nat),fs.toList[i]?=some f->bM S.C.P f.type=some n->pl[i]?=some (f.offset,n)):∀{ps:List (Nat×Operand)}{qs:List (Nat×Nat×Opd)},iD S.C nt fs ps=some qs->
 ae (fun(p:Nat×Operand) (q:Nat×Nat×Opd)=>pl.toArray[p.1]?=some (q.1,q.2.1)/\aX S.C nt p.2=some q.2.2) ps qs
 |[],qs,h=>by simp[iD] at h;subst h;exact ae.nil
 | (i,x)::r,qs,h=>by
   simp only[iD] at h;split at h
   .rename_i f hf;split at h
    .rename_i n y l h1 h2 h3;simp at h;subst h;refine ae.cons ⟨?_,h2⟩ (ry hp h3);have:=hp i f n (by simpa using hf) h1;simpa using this
    .cases h
   .cases h
theorem kg {s:Nat}:∀{ps:List (Nat×Operand)}{qs:List (Nat×Nat×Opd)},dP S.C nt s ps=some qs->
 ae (fun(p:Nat×Operand) (q:Nat×Nat×Opd)=>(fun i=>some (i*s,s)) p.1=some (q.1,q.2.1)/\aX S.C nt p.2=some q.2.2) ps qs
 |[],qs,h=>by simp[dP] at h;subst h;exact ae.nil
 | (i,x)::r,qs,h=>by
   simp only[dP] at h;split at h
   .rename_i y l h2 h3;simp at h;subst h;exact ae.cons ⟨rfl,h2⟩ (kg h3)
   .cases h
theorem Cw (p:Pre S H ρ w nt T a) {t:TypeId}{ps:Array (Nat×Operand)}(ho:o.op=.build t ps) (hc:aG S.C nt o=some ao) (he:ah T H ao=some (v,H')):dA S H ρ w a o v H':=by
 have main:∀z qs,fE S.C.P t=some z->ao=.build z qs->(∀C r,ae (aA S ρ H.n) z C.toList->ic T z qs=some r->(∀i zv,S.C.P.info? t=some i->i.zero=some zv->C=zv.cells->
  ∃C',S.C.P.built t (ps.toList.map fun q=>(q.1,a.eval q.2))=some C'/\ae (aA S ρ H.n) r C'.toList))->dA S H ρ w a o v H':=by
  intro z qs hz hao hb;subst hao;simp only[ah] at he;obtain⟨r,hr,hv⟩:=zD.1 he;simp only[zF] at hv;obtain⟨rfl,rfl⟩:=hv;have hz':=hz;unfold fE at hz;split at hz
  .rename_i i hi;split at hz
   .rename_i zv hzv;obtain⟨C',h1,h2⟩:=hb zv.cells r (bn hz) hr i zv hi hzv rfl;refine dH.same p.H (u:=.agg C') ?_ ⟨C',rfl,h2⟩;simp only[execOp,ho];refine bq _ _ ?_;exact run_build w t _ C' (by simpa using h1)
   .cases hz
  .cases hz
 simp only[aG,ho] at hc;split at hc
 .rename_i z fs hz hu;split at hc
  .rename_i hall;obtain⟨qs,hq,hao⟩:=zD.1 hc;obtain⟨pl,hp1,hp2⟩:=qZ fs.toList hall;refine main z qs hz hao.symm fun C r hC hr i zv hi hzv hCz=>?_
   subst hCz;obtain⟨C',h1,h2⟩:=rO p.ok p.T p.sz (pl.toArray[·]?) ps.toList qs (ry hp2 hq) z zv.cells r hC hr;refine⟨C',?_,h2⟩;simp only[Program.built,hi,hu,hzv,hp1];exact h1
  .cases hc
 .rename_i z n e hz hu;split at hc
  .rename_i s hs;obtain⟨qs,hq,hao⟩:=zD.1 hc;refine main z qs hz hao.symm fun C r hC hr i zv hi hzv hCz=>?_
   subst hCz;obtain⟨C',h1,h2⟩:=rO p.ok p.T p.sz (fun i=>some (i*s,s)) ps.toList qs (kg hq) z zv.cells r hC hr;refine⟨C',?_,h2⟩;unfold bM at hs;obtain⟨ie,hie,rfl⟩:=zD.1 hs;simp only[Program.built,hi,hu,hzv,hie];exact h1
  .cases hc
 .cases hc
theorem uH {s:Nat}:∀{ps:List (Nat×Operand)}{qs:List (Nat×Opd)},fU S.C nt ps=some qs->dP S.C nt s ps=some (qs.map fun q=>(q.1*s,s,q.2))
 |[],qs,h=>by simp[fU] at h;subst h;rfl
 | (i,x)::r,qs,h=>by
   simp only[fU] at h;split at h
   .rename_i y l h2 h3;simp at h;subst h;simp[dP,h2,uH h3]
   .cases h
theorem nC {s:Nat}:∀(es:List (List Lf)) (i:Nat) (p:List Lf),(∀e∈es,e.length=s)->i<es.length->p.length=s->(es.set i p).flatten=es.flatten.take (i*s)++p++es.flatten.drop (i*s+p.length)
 |[],i,p,_,hi,_=>by simp at hi
 | e::es,0,p,h,_,hp=>by
   have he:=h e (by simp);simp[hp,he]
 | e::es,i+1,p,h,hi,hp=>by
   have he:=h e (by simp);have ih:=nC es i p (fun e he=>h e (by simp[he])) (by simpa using hi) hp;simp only[List.set_cons_succ,List.flatten_cons,ih];rw[show (i+1)*s=e.length+i*s by rw[he,Nat.succ_mul];omega,Nat.add_assoc];simp only[List.take_length_add_append,List.drop_length_add_append,zO]
theorem yg {s:Nat}:∀(qs:List (Nat×Opd)) (es es':List (List Lf)),(∀e∈es,e.length=s)->fP T s es qs=some es'->ic T es.flatten (qs.map fun q=>(q.1*s,s,q.2))=some es'.flatten/\(∀e∈es',e.length=s)/\es'.length=es.length
 |[],es,es',h,hf=>by simp[fP] at hf;subst hf;exact⟨rfl,h,rfl⟩
 | (i,x)::r,es,es',h,hf=>by
   simp only[fP] at hf;split at hf
   .rename_i q hq;split at hf
    .rename_i hc;have hset:∀e∈es.set i q,e.length=s:=fun e he=>by
      rcases List.mem_or_eq_of_mem_set he with h1 | h1
      .exact h e h1
      .rw[h1];exact hc.2
     obtain⟨h1,h2,h3⟩:=yg r _ es' hset hf;refine⟨?_,h2,by rw[h3];simp⟩;have hlen:es.flatten.length=es.length*s:=bQ h;have hin:i*s+s<=es.length*s:=by
      have:=Nat.mul_le_mul_right s (show i+1<=es.length by omega)
      rwa [Nat.succ_mul] at this
     simp only[zK,ic,hq];rw[if_pos ⟨hc.2,by omega⟩,<- nC es i q h hc.1 hc.2];exact h1
    .cases hf
   .cases hf
theorem Ji {n s:Nat}{z:List Lf}{zc:Array Value}{m:Nat}(hs:s≠0) (hz:ae (aA S ρ m) z zc.toList) (hl:z.length=s):ae (aA S ρ m) (List.replicate n z).flatten ((Array.range (n*s)).map (zc[· % zc.size]!)).toList:=by
 have hzc:zc.size=s:=by have:=hz.1;simp at this;omega
 have hfl:(List.replicate n z).flatten.length=n*s:=by rw[bQ (s:=s) (by intro e he;rw[(List.mem_replicate.1 he).2,hl])];simp
 refine⟨by simp[hfl],fun i x u hx hu=>?_⟩;have hi:i<n*s:=by have:=(zI.1 hx).1;omega
 have hcell:∀(n i:Nat),i<n*s->(List.replicate n z).flatten[i]?=z[i % s]?:=by
  intro n
  induction n with
  |zero=>intro i hi;omega
  | succ n ih=>
    intro i hi;rw[List.replicate_succ,List.flatten_cons];rcases Nat.lt_or_ge i s with h | h
    .rw[zV (by omega),Nat.mod_eq_of_lt h]
    .rw[List.getElem?_append_right (by omega),hl,ih (i-s) (by rw[Nat.succ_mul] at hi;omega),<- Nat.mod_eq_sub_mod h]
 rw[hcell n i hi] at hx;obtain⟨y,hy,hr⟩:=hz.get hx;have:u=zc[i % zc.size]! := by
  simp[Array.getElem?_range,hi] at hu;exact hu.symm
 rw[this,hzc];have hy':zc[i % s]?=some y:=by rw[<- Array.getElem?_toList];exact hy
 rw[Array.getElem!_eq_getD,Array.getD_eq_getD_getElem?,hy'];exact hr
theorem JC (p:Pre S H ρ w nt T a) {t:TypeId}{n:Nat}{ps:Array (Nat×Operand)}(ho:o.op=.buildSlice t n ps) (hc:aG S.C nt o=some ao) (he:ah T H ao=some (v,H')):dA S H ρ w a o v H':=by
 simp only[aG,ho] at hc;split at hc
 .rename_i e hu;split at hc
  .rename_i s z qs hs hz hq;split at hc
   .rename_i hcond;simp only[zH,bne_iff_ne,ne_eq,beq_iff_eq,decide_eq_true_eq] at hcond;obtain⟨⟨hs0,hzl⟩,hroom⟩:=hcond;simp at hc;subst hc;simp only[ah] at he;obtain⟨es,hes,hv⟩:=zD.1 he;simp only[zF] at hv;obtain⟨rfl,rfl⟩:=hv;obtain⟨zv,h1,h2⟩:=pg (w:=w) hz;have hrep:∀e∈List.replicate n z,e.length=s:=fun e he=>by rw[(List.mem_replicate.1 he).2,hzl]
    obtain⟨f1,f2,f3⟩:=yg qs _ es hrep hes;have hzr:=Ji (S:=S) (ρ:=ρ) (n:=n) (m:=H.n) hs0 (bn h2) hzl;obtain⟨C',g1,g2⟩:=rO p.ok p.T p.sz (fun i=>some (i*s,s)) ps.toList _ (kg (uH hq)) _ _ _ hzr f1;have hC's:C'.size=es.length*s:=by have:=g2.1;rw[bQ f2] at this;simpa using this.symm
    obtain⟨k1,k2⟩:=p.H.row (ty:=e) (0,0) f2 (C:=C') (by rw[List.take_of_length_le (by rw[g2.1];exact zJ _)];exact g2) (.inl (zJ _));refine⟨_,_,k1,k2,.inl ⟨.slice (some ⟨w.heap.size,0,none⟩) n n,?_,?_⟩⟩
    .simp only[execOp,ho];refine bq _ _ ?_;have hsz:=df (w:=w) hs;have hn24:¬ (n*s > 2 ^ 24):=by omega
     by_cases hn0:n*s=0
     .have:n=0:=by rcases Nat.mul_eq_zero.1 hn0 with h | h;exact h;exact absurd h hs0
      subst this;have:zv.cells.size=s:=by have:=(bn (S:=S) (ρ:=ρ) (n:=0) h2).1;simp at this;omega
      simp only[Nat.zero_mul] at g1;have e0:∀f:Nat->Value,(Array.range 0).map f=#[]:=fun f=>by apply Array.eq_empty_of_size_eq_zero;simp
      rw[e0] at g1;simp[Instr.buildSlice,run_underlying hu,hsz,newRow,e0];rw[g1];simp
     .simp only[Instr.buildSlice,run_underlying hu,Sem.run_bind,Result.andThen_ok,hsz,if_neg hn24,Sem.run_pure,if_neg hn0,h1];simp only[Array.toList_map];rw[g1];simp[newRow]
    .refine⟨by show H.n<H.n+1;omega,⟨w.heap.size,0,none⟩,n,rfl,zJ _,.inr ⟨?_,?_⟩⟩
     .rw[aQ];simp[Loc.addr]
     .rw[aQ];show 0+(0+n)*s<=C'.size;rw[hC's,f3];simp
   .cases hc
  .cases hc
 .cases hc
end
end Go.EA
end
section
namespace Go.EA
section
variable {S:SC} {H H':Heap} {ρ:Rho} {w:World} {nt:Nat} {T:Tm} {a:Act} {o:Oper} {ao:AOp} {v:AV}
theorem jM {n:Nat}{x:Opd}{T:Tm}{u:Value}(h:aN S ρ n (x.ev T) u) {k:Nat}(hk:iF (x.ev T)=some k):∃kd,u=.int kd k:=Gd h hk
theorem yf (L:Loc) (i j k:Nat):(L.addr i j).add k=L.addr i (j+k):=by unfold Loc.addr;rw[addr_add];congr 1;omega
theorem Gy (p:Pre S H ρ w nt T a) {t:TypeId}{x:Operand}(ho:o.op=.load t x) (hc:aG S.C nt o=some ao) (he:ah T H ao=some (v,H')):dA S H ρ w a o v H':=by
 simp only[aG,ho] at hc;split at hc
 .rename_i g n y hg hn hy;simp at hc;subst hc;simp only[ah] at he;split at he
  .rename_i b i j hx;obtain⟨u,hu,hv⟩:=zD.1 he;simp only[zF] at hv;obtain⟨rfl,rfl⟩:=hv;have h1:=p.opd hy;rw[hx] at h1;obtain⟨hb,hxv⟩:=h1.one;obtain⟨r,hr,hrel⟩:=Ab (P:=S.C.P) hg hn p.H hb hu;refine dH.same p.H (u:=r) ?_ hrel;simp only[execOp,ho];refine bq _ _ ?_;simp[Instr.loadAt,hxv,Instr.sureAddr,hr]
  .rename_i cs hx;by_cases hl:(if g=true then n else 1)<=cs.length
   .rw[if_pos hl] at he;obtain⟨u,hu,hv⟩:=zD.1 he;simp only[zF] at hv;obtain⟨rfl,rfl⟩:=hv;have h1:=p.opd hy;rw[hx] at h1;obtain⟨ad,r,hxv,hr,hrel⟩:=Cj (P:=S.C.P) hg hn p.H h1.one hl hu;refine dH.same p.H (u:=r) ?_ hrel;simp only[execOp,ho];refine bq _ _ ?_;simp[Instr.loadAt,hxv,Instr.sureAddr,hr]
   .rw[if_neg hl] at he;cases he
  .cases he
 .cases hc
theorem EW (p:Pre S H ρ w nt T a) {t:TypeId}{x y:Operand}(ho:o.op=.store t x y) (hc:aG S.C nt o=some ao) (he:ah T H ao=some (v,H')):dA S H ρ w a o v H':=by
 simp only[aG,ho] at hc;split at hc
 .rename_i n x' y' hn hx hy;simp at hc;subst hc;simp only[ah] at he;split at he
  .rename_i b i j q hb hq;split at he
   .rename_i hl;obtain⟨H2,h2,hv⟩:=zD.1 he;simp only[zF] at hv;obtain⟨rfl,rfl⟩:=hv;have h1:=p.opd hx;rw[hb] at h1;obtain⟨hbn,hxv⟩:=h1.one;have hcel:=(p.opd hy).cells hq;obtain⟨w',hr,k1,k2⟩:=uX (P:=S.C.P) p.H hbn h2 hcel;refine⟨ρ,w',k1,k2,.inr ⟨?_,rfl⟩⟩;simp only[execOp,ho];refine IG _ _ ?_;have hsz:(a.eval y).cells.size=n:=by have:=hcel.1;simp at this;omega
    simp[Instr.storeAt,hxv,Instr.sureAddr,storeVar,df hn,hsz,hr]
   .cases he
  .cases he
 .cases hc
theorem JM (p:Pre S H ρ w nt T a) {x:Operand}(ho:o.op=.nilCheck x) (hc:aG S.C nt o=some ao) (he:ah T H ao=some (v,H')):dA S H ρ w a o v H':=by
 simp only[aG,ho] at hc;obtain⟨y,hy,rfl⟩:=zD.1 hc;have h1:=p.opd hy;simp only[ah] at he;split at he <;> simp at he
 .rename_i b i j hx;obtain⟨rfl,rfl⟩:=he;rw[hx] at h1;exact dH.same p.H (u:=a.eval x) (by simp[execOp,ho,h1.one.2]) h1
 .rename_i cs hx;obtain⟨rfl,rfl⟩:=he;rw[hx] at h1;have h2:=h1.one;simp only[aA,aV] at h2;obtain⟨gb,o,C,ty,fr,h3,_⟩:=h2;exact dH.same p.H (u:=a.eval x) (by simp[execOp,ho,h3]) h1
 .rename_i f c hx;obtain⟨rfl,rfl⟩:=he;rw[hx] at h1;exact dH.same p.H (u:=a.eval x) (by simp[execOp,ho,h1.one.2]) h1
 .rename_i l hx;obtain⟨rfl,rfl⟩:=he;rw[hx] at h1;exact dH.same p.H (u:=a.eval x) (by simp[execOp,ho,h1.one.2]) h1
theorem EB (p:Pre S H ρ w nt T a) {t:TypeId}{x:Operand}{f:Nat}(ho:o.op=.fieldAddr t x f) (hc:aG S.C nt o=some ao) (he:ah T H ao=some (v,H')):dA S H ρ w a o v H':=by
 simp only[aG,ho] at hc;split at hc
 .rename_i fs y hu hy;split at hc
  .rename_i fd hfd;split at hc
   .rename_i hok;simp at hc;subst hc;simp only[ah] at he;split at he <;> simp at he
    .rename_i b i j hx;obtain⟨rfl,rfl⟩:=he;have h1:=p.opd hy;rw[hx] at h1;obtain⟨hb,hxv⟩:=h1.one;refine dH.same p.H (u:=.pointer (some ((ρ b).addr i (j+fd.offset)))) ?_ ⟨hb,rfl⟩;simp only[execOp,ho];refine bq _ _ ?_;unfold mU at hok;split at hok
     .rename_i inf hi;have hne:inf.size≠0:=by simpa using hok
      have hsz:=df (P:=S.C.P) (w:=w) (t:=fd.type) (n:=inf.size) (by simp[bM,hi]);simp[Instr.fieldAt,run_underlying hu,hfd,hxv,Instr.sureAddr,fieldPlace,hsz,hne,yf]
     .cases hok
    .rename_i cs hx;obtain⟨rfl,rfl⟩:=he;have h1:=p.opd hy;rw[hx] at h1;have h2:=h1.one;simp only[aA,aV] at h2;obtain⟨gb,o',C,ty,fr,hxv,hfz,hcc⟩:=h2;refine dH.same p.H (u:=.pointer (some ⟨gb,o'+fd.offset,none⟩)) ?_ ?_
     .simp only[execOp,ho];refine bq _ _ ?_;unfold mU at hok;split at hok
      .rename_i inf hi;have hne:inf.size≠0:=by simpa using hok
       have hsz:=df (P:=S.C.P) (w:=w) (t:=fd.type) (n:=inf.size) (by simp[bM,hi]);simp[Instr.fieldAt,run_underlying hu,hfd,hxv,Instr.sureAddr,fieldPlace,hsz,hne,addr_add]
      .cases hok
     .show aA S ρ H.n (.vptr _) _;simp only[aA,aV];exact⟨gb,_,C,ty,fr,rfl,hfz,hcc.drop _⟩
   .cases hc
  .cases hc
 .cases hc
theorem qg {P:Program}{t:TypeId}{g:Bool}{n off:Nat}(hg:dM P t=some g) (hn:bM P t=some n) {m:Nat}{cs:List Lf}{arr:Array Value}(hr:ae (aA S ρ m) cs arr.toList) {v:AV}
 (hv:iW g ((cs.drop off).take (if g then n else 1))=some v):∃u,(part t arr off).run P w=.ok u w/\aN S ρ m v u:=by
 have h2:=(hr.drop off).take (if g then n else 1);unfold part;rcases mM hv h2 with ⟨rfl,hr'⟩ | ⟨rfl,u,hu,hr'⟩
 .refine⟨.agg ((arr.toList.drop off).take n).toArray,?_,hr'⟩;simp[iJ hg,df hn];rw[<- Array.toList_inj];simp[List.take_drop,Nat.add_comm]
 .refine⟨u,?_,hr'⟩;have:arr[off]?=some u:=by
   have:=congrArg (·[0]?) hu;simpa using this
  simp[iJ hg,this]
theorem Cg (p:Pre S H ρ w nt T a) {t:TypeId}{x:Operand}{f:Nat}(ho:o.op=.field t x f) (hc:aG S.C nt o=some ao) (he:ah T H ao=some (v,H')):dA S H ρ w a o v H':=by
 simp only[aG,ho] at hc;split at hc
 .rename_i fs y hu hy;split at hc
  .rename_i fd hfd;split at hc
   .rename_i g n hg hn;simp at hc;subst hc;simp only[ah] at he;split at he
    .rename_i cs hx;by_cases hl:fd.offset+(if g=true then n else 1)<=cs.length
     .rw[if_pos hl] at he;obtain⟨z,hz,hv⟩:=zD.1 he;simp only[zF] at hv;obtain⟨rfl,rfl⟩:=hv;have h1:=p.opd hy;rw[hx] at h1;obtain⟨arr,hxv,hr⟩:=h1.agg;obtain⟨u,hu2,hr2⟩:=qg (w:=w) hg hn hr hz;refine dH.same p.H (u:=u) ?_ hr2;simp only[execOp,ho];refine bq _ _ ?_;simp[Instr.field,run_underlying hu,hfd,hxv,asAgg,hu2]
     .rw[if_neg hl] at he;cases he
    .cases he
   .cases hc
  .cases hc
 .cases hc
theorem ER (p:Pre S H ρ w nt T a) {t:TypeId}{x y:Operand}(ho:o.op=.indexAddr t x y) (hc:aG S.C nt o=some ao) (he:ah T H ao=some (v,H')):dA S H ρ w a o v H':=by
 simp only[aG,ho] at hc;split at hc
 .rename_i e x' y' hu hx hy;obtain⟨s,hs,rfl⟩:=zD.1 hc;simp only[ah] at he;split at he
  .rename_i b f n k hxe hk;split at he
   .rename_i hcond;simp only[zE,zF] at he;obtain⟨rfl,rfl⟩:=he;have h1:=p.opd hx;rw[hxe] at h1;obtain⟨hb,ad,cap,hxv,hnc,hcap⟩:=h1.one;obtain⟨kd,hyv⟩:=jM (p.opd hy) hk;have hbs:=p.H.obj b hb;have hsb:(ρ b).s=s:=by
     have:=hcond.1;unfold Heap.isBlk at this;split at this
     .rename_i s' els o hob;rw[hob] at hbs;have h3:s'=s:=by simpa using this
      rw[<- h3];exact hbs.1.symm
     .cases this
    rcases hcap with h0 | ⟨had,_⟩
    .omega
    refine dH.same p.H (u:=.pointer (some ((ρ b).addr (f+k) 0))) ?_ ⟨hb,rfl⟩;simp only[execOp,ho];refine bq _ _ ?_;simp[Instr.indexAt,run_underlying hu,hxv,hyv,asIntOf,df hs,hcond.2,had];unfold Loc.addr;rw[addr_add,hsb,Nat.add_mul]
    congr 1;omega
   .cases he
  .rename_i s' els k hxe hk;split at he
   .rename_i hss;obtain⟨e',hel,hv⟩:=zD.1 he;simp only[zF] at hv;obtain⟨rfl,rfl⟩:=hv;have h1:=p.opd hx;rw[hxe] at h1;have h2:=h1.one;simp only[aA,aV] at h2;obtain⟨ad,cap,hxv,hnc,hcap⟩:=h2;obtain⟨kd,hyv⟩:=jM (p.opd hy) hk;have hkl:=(zI.1 hel).1;rcases hcap with rfl | ⟨gb,o',C,ty,fr,rfl,hfz,hrc⟩
    .simp at hkl
    have hg:=hrc.get hel;subst hss;refine dH.same p.H (u:=.pointer (some ⟨gb,o'+k*s',none⟩)) ?_ ?_
    .simp only[execOp,ho];refine bq _ _ ?_;simp[Instr.indexAt,run_underlying hu,hxv,hyv,asIntOf,df hs,hkl,addr_add]
    .show aA S ρ H.n (.vptr _) _;simp only[aA,aV];exact⟨gb,_,C,ty,fr,rfl,hfz,hg.2⟩
   .cases he
  .cases he
 .rename_i n e x' y' hu hx hy;obtain⟨s,hs,rfl⟩:=zD.1 hc;simp only[ah] at he;split at he
  .rename_i b el j k hxe hk;split at he
   .rename_i hcond;simp only[zE,zF] at he;obtain⟨rfl,rfl⟩:=he;have h1:=p.opd hx;rw[hxe] at h1;obtain⟨hb,hxv⟩:=h1.one;obtain⟨kd,hyv⟩:=jM (p.opd hy) hk;refine dH.same p.H (u:=.pointer (some ((ρ b).addr el (j+k*s)))) ?_ ⟨hb,rfl⟩;simp only[execOp,ho];refine bq _ _ ?_;simp[Instr.indexAt,run_underlying hu,hxv,hyv,asIntOf,df hs,hcond,Instr.sureAddr,yf]
   .cases he
  .rename_i cs k hxe hk;split at he
   .rename_i hcond;simp only[zE,zF] at he;obtain⟨rfl,rfl⟩:=he;have h1:=p.opd hx;rw[hxe] at h1;have h2:=h1.one;simp only[aA,aV] at h2;obtain⟨gb,o',C,ty,fr,hxv,hfz,hcc⟩:=h2;obtain⟨kd,hyv⟩:=jM (p.opd hy) hk;refine dH.same p.H (u:=.pointer (some ⟨gb,o'+k*s,none⟩)) ?_ ?_
    .simp only[execOp,ho];refine bq _ _ ?_;simp[Instr.indexAt,run_underlying hu,hxv,hyv,asIntOf,df hs,hcond,Instr.sureAddr,addr_add]
    .show aA S ρ H.n (.vptr _) _;simp only[aA,aV];exact⟨gb,_,C,ty,fr,rfl,hfz,hcc.drop _⟩
   .cases he
  .cases he
 .cases hc
theorem BG (p:Pre S H ρ w nt T a) {t:TypeId}{x y:Operand}(ho:o.op=.index t x y) (hc:aG S.C nt o=some ao) (he:ah T H ao=some (v,H')):dA S H ρ w a o v H':=by
 have arr:∀(g:Bool) (n e s:Nat) (x' y':Opd),S.C.P.underlying t=some (.array n e)->aX S.C nt x=some x'->aX S.C nt y=some y'->dM S.C.P e=some g->bM S.C.P e=some s->(g=false->s=1)->
  ao=.aidx g n s x' y'->dA S H ρ w a o v H':=by
  intro g n e s x' y' hu hx hy hg hs hgs hao;subst hao;simp only[ah] at he;split at he
  .rename_i cs k hxe hk;split at he
   .rename_i hcond;obtain⟨z,hz,hv⟩:=zD.1 he;simp only[zF] at hv;obtain⟨rfl,rfl⟩:=hv;have h1:=p.opd hx;rw[hxe] at h1;obtain⟨A,hxv,hr⟩:=h1.agg;obtain⟨kd,hyv⟩:=jM (p.opd hy) hk;have hz':iW g ((cs.drop (k*s)).take (if g then s else 1))=some z:=by
     cases g
     .rw[hgs rfl] at hz ⊢;exact hz
     .exact hz
    obtain⟨u,hu2,hr2⟩:=qg (w:=w) hg hs hr hz';refine dH.same p.H (u:=u) ?_ hr2;simp only[execOp,ho];refine bq _ _ ?_;simp[Instr.index,run_underlying hu,hxv,hyv,asIntOf,df hs,hcond.1,hu2]
   .cases he
  .cases he
 simp only[aG,ho] at hc;split at hc
 .rename_i x' y' hu hx hy;simp at hc;subst hc;simp only[ah] at he;split at he
  .rename_i s k hxe hk;split at he
   .rename_i c hcg;simp only[zE,zF] at he;obtain⟨rfl,rfl⟩:=he;have h1:=p.opd hx;rw[hxe] at h1;have hxv:a.eval x=.string ⟨s.toArray⟩:=h1.one;obtain⟨kd,hyv⟩:=jM (p.opd hy) hk;refine dH.same p.H (u:=.int .u8 c.toNat) ?_ rfl;simp only[execOp,ho];refine bq _ _ ?_;have hget:(⟨s.toArray⟩:ByteArray)[k]?=some c:=by
     have hk:=(zI.1 hcg);obtain⟨hlt,hck⟩:=hk;rw[getElem?_pos (⟨s.toArray⟩:ByteArray) k (by show k<(⟨s.toArray⟩:ByteArray).size;rw[size_mk];exact hlt)]
     congr 1
    simp[Instr.index,run_underlying hu,hxv,hyv,asIntOf,hget]
   .cases he
  .cases he
 .rename_i n e x' y' hu hx hy;split at hc
  .rename_i s hg hs;simp at hc;exact arr true n e s x' y' hu hx hy hg hs (by simp) hc.symm
  .rename_i hg hs;simp at hc;exact arr false n e 1 x' y' hu hx hy hg hs (by simp) hc.symm
  .cases hc
 .cases hc
theorem IW (p:Pre S H ρ w nt T a) {x:Operand}{i:Nat}(ho:o.op=.extract x i) (hc:aG S.C nt o=some ao) (he:ah T H ao=some (v,H')):dA S H ρ w a o v H':=by
 simp only[aG,ho] at hc;obtain⟨y,hy,rfl⟩:=zD.1 hc;simp only[ah] at he;split at he
 .rename_i vs hx;have main:∀z:AV,z.isVal=true->vs[i]?=some z->v=z->H'=H->dA S H ρ w a o v H':=by
   intro z hzv hz h1 h2;subst h1 h2;have h1:=p.opd hy;rw[hx] at h1;have hj:(AV.tup vs).isJ=false:=by
    unfold AV.isJ;split
    .rename_i x heq;cases heq;cases i with
     |zero=>simp at hz;subst hz;cases hzv
     |succ i=>simp at hz
    .rfl
   obtain⟨arr,hxv,hr⟩:=h1.tup hj;obtain⟨u,hu,hru⟩:=hr.get hz;have hu':arr[i]?=some u:=by rw[<- Array.getElem?_toList];exact hu
   refine dH.same p.H (u:=u) ?_ ?_
   .simp only[execOp,ho];refine bq _ _ ?_;simp[Instr.extract,hxv,hu']
   .cases v with
    |one z=>exact hru
    |agg cs=>exact hru
    |tup vs=>exact hru.elim
  split at he
  .rename_i z hz;simp only[zE,zF] at he;exact main _ rfl hz he.1.symm he.2.symm
  .rename_i z hz;simp only[zE,zF] at he;exact main _ rfl hz he.1.symm he.2.symm
  .cases he
 .cases he
theorem uN (p:Pre S H ρ w nt T a) {fn:Fn}{first caps:Array Operand}(ho:o.op=.makeFunc fn first caps) (hc:aG S.C nt o=some ao) (he:ah T H ao=some (v,H')):dA S H ρ w a o v H':=by
 simp only[aG,ho] at hc;split at hc
 .rename_i f;split at hc
  .rename_i i l hi hl;split at hc
   .rename_i hfe;simp at hc;subst hc;have hfirst:first=#[]:=by simpa using hfe
    subst hfirst;simp only[ah] at he;obtain⟨cs,hcs,hv⟩:=zD.1 he;simp only[zF] at hv;obtain⟨rfl,rfl⟩:=hv;have hall:=p.opds hl;refine dH.same p.H (u:=.func (.func f) #[] (caps.map a.eval)) ?_ ?_
    .simp only[execOp,ho];refine bq _ _ ?_;simp[Instr.makeFunc]
    ·have key : ∀(l : List Opd) (vs : List Value) (cs : List (Nat × Nat × Nat)), ae (aN S ρ H.n) (l.map (·.ev T)) vs->
      (l.mapM fun x=>capOf (x.ev T))=some cs->(∀c∈cs,c.1<H.n)/\vs=cs.map (bY ρ):=by
      intro l
      induction l with
      | nil=>
        intro vs cs h1 h2;simp at h2;subst h2;obtain rfl:=h1.nil_inv;simp
      | cons x l ih=>
        intro vs cs h1 h2;obtain⟨u,us,rfl,hu,ht⟩:=h1.cons_inv;simp only[List.mapM_cons,Option.bind_eq_bind,Option.pure_def,Option.bind_eq_some_iff] at h2;obtain⟨c,hc,r,hr,hcs⟩:=h2;simp at hcs;subst hcs;unfold capOf at hc;split at hc
        .rename_i b i j hx;simp at hc;subst hc;have hu:aN S ρ H.n (x.ev T) u:=hu;rw[hx] at hu;obtain⟨hb,hux⟩:=hu.one;obtain⟨k1,k2⟩:=ih us r ht hr;refine⟨by intro c hc;rcases List.mem_cons.1 hc with rfl | h;exact hb;exact k1 c h,?_⟩;rw[hux,k2];rfl
        .cases hc
     obtain⟨k1,k2⟩:=key l (caps.toList.map a.eval) cs hall hcs;refine⟨k1,?_⟩;rw[p.ok.ren f i hi,<- k2];simp[<- Array.toList_map]
   .cases hc
  .cases hc
 .cases hc
end
end Go.EA
end
section
namespace Go.EA
section
variable {S:SC} {H H':Heap} {ρ:Rho} {w:World} {nt:Nat} {T:Tm} {a:Act} {o:Oper} {ao:AOp} {v:AV}
theorem jX {s:Nat}:∀{els:List (List Lf)}{q:Nat}{x:Lf},(∀e∈els,e.length=s)->els.flatten[q]?=some x->∃k j e,els[k]?=some e/\e[j]?=some x/\q=k*s+j
 |[],q,x,_,h=>by simp at h
 | e::es,q,x,hl,h=>by
   have he:=hl e (by simp);rcases Nat.lt_or_ge q e.length with h1 | h1
   .rw[List.flatten_cons,zV h1] at h;exact⟨0,q,e,rfl,h,by omega⟩
   .rw[List.flatten_cons,List.getElem?_append_right h1] at h;obtain⟨k,j,d,h2,h3,h4⟩:=jX (fun e he=>hl e (by simp[he])) h;exact⟨k+1,j,d,by simpa using h2,h3,by rw[Nat.succ_mul];omega⟩
theorem qF {n:Nat}{L:Loc}{els:List (List Lf)}{C:Array Value}(h:sK S ρ n L els C) (i m:Nat) (him:i+m<=els.length) :
 ∃vs:List Value,ae (aA S ρ n) ((els.drop i).take m).flatten vs/\vs.length=m*L.s/\∀q u,vs[q]?=some u->C[L.o+i*L.s+q]?=some u:=by
 have hl:∀e∈(els.drop i).take m,e.length=L.s:=fun e he=>by
  have:=List.mem_of_mem_drop (List.mem_of_mem_take he);obtain⟨k,hk,rfl⟩:=List.getElem_of_mem this;exact(h k _ (zB hk)).1
 have hfl:((els.drop i).take m).flatten.length=m*L.s:=by rw[bQ hl,zP,List.length_drop,Nat.min_eq_left (by omega)]
 have hcell:∀q x,((els.drop i).take m).flatten[q]?=some x->∃u,C[L.o+i*L.s+q]?=some u/\aA S ρ n x u:=fun q x hx=>by
  obtain⟨k,j,e,h1,h2,rfl⟩:=jX hl hx;rw[List.getElem?_take] at h1;split at h1
  .rw[List.getElem?_drop] at h1;obtain⟨u,hu,hr⟩:=(h _ e h1).2 j x h2;exact⟨u,by rw[<- hu];congr 1;rw[Nat.add_mul];omega,hr⟩
  .cases h1
 refine⟨(C.toList.drop (L.o+i*L.s)).take (m*L.s),⟨?_,fun q x u hq hu=>?_⟩,?_,fun q u hu=>?_⟩
 .rw[hfl,zP,List.length_drop];rcases Nat.eq_zero_or_pos (m*L.s) with h0 | h0
  .omega
  .obtain⟨u,hu,_⟩:=hcell (m*L.s-1) _ (zB (by omega));have:=(zQ.1 hu).1;simp;omega
 .rw[List.getElem?_take] at hu;split at hu
  .rw[List.getElem?_drop,Array.getElem?_toList] at hu;obtain⟨u',hu',hr⟩:=hcell q x hq;rw[hu'] at hu;cases hu;exact hr
  .cases hu
 .rw[zP,List.length_drop];rcases Nat.eq_zero_or_pos (m*L.s) with h0 | h0
  .omega
  .obtain⟨u,hu,_⟩:=hcell (m*L.s-1) _ (zB (by omega));have:=(zQ.1 hu).1;simp;omega
 .rw[List.getElem?_take] at hu;split at hu
  .rw[List.getElem?_drop,Array.getElem?_toList] at hu;exact hu
  .cases hu
theorem sM {P:Program}(h:aJ S H ρ w) {s:Nat}{x:Lf}{u:Value}(hx:aA S ρ H.n x u) {els:List (List Lf)}(hr:H.row s x=some els) :
 ∃base cap vs,u=.slice base els.length cap/\ae (aA S ρ H.n) els.flatten vs/\vs.length=els.length*s/\(Builtin.firstCells s els.length u).run P w=.ok vs.toArray w/\
  (∀ad,base=some ad->∀q v,vs[q]?=some v->w.cell? (ad.add q)=some v)/\(∀e∈els,e.length=s):=by
 unfold Heap.row at hr;split at hr
 .simp at hr;subst hr;have hu:u=.slice none 0 0:=hx;subst hu;exact⟨none,0,[],rfl,ae.nil,by simp,by simp[Builtin.firstCells],by simp,by simp⟩
 .simp at hr;subst hr;obtain⟨ad,hu⟩:=hx;subst hu;refine⟨ad,0,[],rfl,ae.nil,by simp,?_,by simp,by simp⟩;cases ad with
  |none=>simp[Builtin.firstCells]
  | some ad=>
    have:=cu (P:=P) (w:=w) (a:=ad) (vs:=[]) (by simp);simpa [Builtin.firstCells] using this
 .rename_i s' els0;split at hr
  .rename_i hss;simp only[zE] at hr;subst hr;subst hss;simp only[aA,aV] at hx;obtain⟨a,cap,rfl,hnc,hcap⟩:=hx;rcases hcap with rfl | ⟨g,o,C,ty,fr,rfl,hfz,hrc⟩
   .refine⟨a,cap,[],rfl,ae.nil,by simp,?_,by simp,by simp⟩;cases a with
    |none=>simp[Builtin.firstCells]
    | some ad=>
      have:=cu (P:=P) (w:=w) (a:=ad) (vs:=[]) (by simp);simpa [Builtin.firstCells] using this
   .have hall:∀e∈els0,e.length=s':=fun e he=>by
     obtain⟨k,hk,rfl⟩:=List.getElem_of_mem he;exact(hrc.get (zB hk)).1
    have hfl:bz S ρ.fz C o els0.flatten:=bz.of fun q x hq=>by
     obtain⟨k,j,e,h1,h2,rfl⟩:=jX hall hq;obtain⟨u,hu,hr⟩:=(hrc.get h1).2.get h2;exact⟨u,by rw[<- hu];congr 1;omega,hr⟩
    obtain⟨vs,k1,k2⟩:=ui (n:=H.n) h hfz hfl;have hlen:vs.length=els0.length*s':=by rw[<- k1.1,bQ hall]
    refine⟨some ⟨g,o,none⟩,cap,vs,rfl,k1,hlen,?_,fun ad' e=>by cases e;exact k2,hall⟩;have:=cu (P:=P) k2;rw[hlen] at this;simpa [Builtin.firstCells] using this
  .cases hr
 .rename_i b i n;split at hr
  .rename_i s' els' o hb;split at hr
   .rename_i hc;simp at hr;subst hr;obtain⟨hbn,ad,cap,rfl,hnc,hcap⟩:=hx;have hob:=h.obj b hbn;rw[hb] at hob;obtain⟨hs,C,ty,fr,h1,h2,h3⟩:=hob;have hss:(ρ b).s=s:=by rw[<- hs];exact hc.1
    obtain⟨vs,k1,k2,k3⟩:=qF h2 i n hc.2;rw[hss] at k2 k3;have hlen:((els'.drop i).take n).length=n:=by simp;omega
    have hcell:∀q v,vs[q]?=some v->w.cell? (ad.add q)=some v:=fun q v hq=>by
     have hq0:q<n*s:=by have:=(zI.1 hq).1;omega
     have hn0:n≠0:=by intro h;subst h;simp at hq0
     rcases hcap with h0 | ⟨had,_⟩
     .omega
     .rw[had];unfold Loc.addr;rw[addr_add];simp[World.cell?,h1,hss];exact k3 q v hq
    have hall:∀e∈(els'.drop i).take n,e.length=s:=fun e he=>by
     have:=List.mem_of_mem_drop (List.mem_of_mem_take he);obtain⟨k,hk,rfl⟩:=List.getElem_of_mem this;rw[<- hss];exact(h2 k _ (zB hk)).1
    refine⟨some ad,cap,vs,by rw[hlen],k1,by rw[hlen];exact k2,?_,fun ad' e=>by cases e;exact hcell,hall⟩;rw[hlen];unfold Builtin.firstCells;have:=cu (P:=P) hcell;rw[k2] at this;exact this
   .cases hr
  .cases hr
 .cases hr
theorem qf:∀{els:List (List Lf)}{s:List UInt8},iM els=some s->∃ns:List Int,els.flatten=ns.map (Lf.int .u8)/\ns.length=els.length/\s=ns.map fun n=>UInt8.ofNat n.toNat
 |[],s,h=>by simp[iM] at h;subst h;exact⟨[],rfl,rfl,rfl⟩
 | e::r,s,h=>by
   unfold iM at h;split at h
   .rename_i h1;cases h1
   .rename_i n r' heq;cases heq;obtain⟨t,ht,rfl⟩:=zD.1 h;obtain⟨ns,h1,h2,h3⟩:=qf ht;exact⟨n::ns,by simp[h1],by simp[h2],by simp[h3]⟩
   .cases h
theorem mY:∀(l:List Int) (r:ByteArray),l.foldl (fun r n=>r.push (UInt8.ofNat n.toNat)) r=⟨r.data++(l.map fun n=>UInt8.ofNat n.toNat).toArray⟩
 |[],r=>by simp
 | b::l,r=>by
   simp only[zK,List.foldl_cons];rw[mY l];simp[ByteArray.push]
theorem qG {n:Nat}:∀{ns:List Int}{vs:List Value},ae (aA S ρ n) (ns.map (Lf.int .u8)) vs->vs=ns.map (Value.int .u8)
 |[],vs,h=>by simpa using h.nil_inv
 | m::ns,vs,h=>by
   obtain⟨u,us,rfl,hu,ht⟩:=h.cons_inv;have:u=.int .u8 m:=hu;rw[this,qG ht];rfl
theorem DK:∀s:List UInt8,(s.map fun b=>[Lf.int .u8 (b.toNat:Int)]).flatten=s.map fun b=>Lf.int .u8 (b.toNat:Int)
 |[]=>rfl
 |b::s=>by simp[DK s]
theorem He (p:Pre S H ρ w nt T a) {t t':TypeId}{x:Operand}(ho:o.op=.convert t t' x) (hc:aG S.C nt o=some ao) (he:ah T H ao=some (v,H')):dA S H ρ w a o v H':=by
 simp only[aG,ho] at hc;split at hc
 .rename_i k1 k x' hu hu' hx;simp at hc;subst hc;simp only[ah] at he;split at he
  .rename_i k2 n hxe;simp only[zE,zF] at he;obtain⟨rfl,rfl⟩:=he;have h1:=p.opd hx;rw[hxe] at h1;have hxv:a.eval x=.int k2 n:=h1;refine dH.same p.H (u:=.int k (k.wrap n)) ?_ rfl;simp only[execOp,ho];refine bq _ _ ?_;simp[convert,run_underlying hu,run_underlying hu',hxv,Conv.intToInt]
  .cases he
 .rename_i x' hu hu' hx;simp at hc;subst hc;simp only[ah] at he;split at he
  .rename_i s hxe;simp only[zE,zF] at he;obtain⟨rfl,rfl⟩:=he;have h1:=p.opd hx;rw[hxe] at h1;have hxv:a.eval x=.string ⟨s.toArray⟩:=h1;refine dH.same p.H (u:=.string ⟨s.toArray⟩) ?_ rfl;simp only[execOp,ho];refine bq _ _ ?_;simp[convert,run_underlying hu,run_underlying hu',hxv]
  .cases he
 .rename_i k x' hu hu' hx;simp at hc;subst hc;simp only[ah] at he;split at he
  .rename_i k2 n hxe;simp only[zE,zF] at he;obtain⟨rfl,rfl⟩:=he;have h1:=p.opd hx;rw[hxe] at h1;have hxv:a.eval x=.int k2 n:=h1;refine dH.same p.H (u:=.string (Utf8.encode n)) ?_ ?_
   .simp only[execOp,ho];refine bq _ _ ?_;simp[convert,run_underlying hu,run_underlying hu',hxv,Conv.intToString]
   .show _=_
    congr 1
    rw[ByteArray.toList_eq]
  .cases he
 .rename_i e x' hu hu' hx;split at hc
  .rename_i hue hse;simp at hc;subst hc;simp only[ah] at he;split at he
   .rename_i s hxe;simp only[zE,zF] at he;obtain⟨rfl,rfl⟩:=he;have h1:=p.opd hx;rw[hxe] at h1;have hxv:a.eval x=.string ⟨s.toArray⟩:=h1;have hr:=run_bytes_of_string w t t' e ⟨s.toArray⟩ hu hu' hue;have hrow:∀cp,(bytesRow ⟨s.toArray⟩ cp).toList.take s.length=s.map fun b=>Value.int .u8 b.toNat:=fun cp=>by
     unfold bytesRow;simp
    have hf:=DK s;have hfl:(s.map fun b=>[Lf.int .u8 (b.toNat:Int)]).flatten.length=s.length:=by rw[hf];simp
    obtain⟨k1,k2⟩:=p.H.drew.row (s:=1) (els:=s.map fun b=>[Lf.int .u8 (b.toNat:Int)]) (C:=bytesRow ⟨s.toArray⟩ (grownCap w (⟨s.toArray⟩:ByteArray).size 0 e)) (ty:=e)
     ((bytesRow ⟨s.toArray⟩ (grownCap w (⟨s.toArray⟩:ByteArray).size 0 e)).size,(bytesRow ⟨s.toArray⟩ (grownCap w (⟨s.toArray⟩:ByteArray).size 0 e)).size+1) (by intro e he;simp at he;obtain⟨b,_,rfl⟩:=he;rfl)
     (by
      rw[hfl,hrow,hf];refine⟨by simp,fun i x u hx hu=>?_⟩;simp at hx hu;obtain⟨b,hb,rfl⟩:=hx;obtain⟨b',hb',rfl⟩:=hu;rw[hb] at hb';cases hb';rfl) (.inr (zJ _))
    have hge:=grownCap_ge w (⟨s.toArray⟩:ByteArray).size 0 e;refine⟨_,_,k1,Frm.drew.trans k2,.inl ⟨.slice (some ⟨w.heap.size,0,none⟩) (⟨s.toArray⟩:ByteArray).size (grownCap w (⟨s.toArray⟩:ByteArray).size 0 e),?_,?_⟩⟩
    .simp only[execOp,ho];refine bq _ _ ?_;rw[hxv];exact hr
    .refine⟨by show H.n<H.n+1;omega,⟨w.heap.size,0,none⟩,_,by rw[size_mk],by rw[size_mk] at hge;exact hge,.inr ⟨?_,?_⟩⟩
     .rw[aQ];simp[Loc.addr]
     .rw[aQ];show 0+(0+grownCap w (⟨s.toArray⟩:ByteArray).size 0 e)*1<=(bytesRow ⟨s.toArray⟩ (grownCap w (⟨s.toArray⟩:ByteArray).size 0 e)).size;unfold bytesRow;rw[size_mk] at hge ⊢;simp;omega
   .cases he
  .cases hc
 .rename_i e x' hu hu' hx;split at hc
  .rename_i hue;simp at hc;subst hc;simp only[ah] at he;split at he
   .rename_i z hxe;obtain⟨s,hs,hv⟩:=zD.1 he;simp only[zF] at hv;obtain⟨rfl,rfl⟩:=hv;obtain⟨els,hels,hby⟩:=Option.bind_eq_some_iff.1 hs;have h1:=p.opd hx;rw[hxe] at h1;obtain⟨base,cap,vs,k1,k2,k3,k4,k5,k6⟩:=sM (P:=S.C.P) p.H h1.one hels;obtain⟨ns,n1,n2,rfl⟩:=qf hby;rw[n1] at k2;have hvs:=qG k2;refine dH.same p.H (u:=.string ⟨(ns.map fun n:Int=>UInt8.ofNat n.toNat).toArray⟩) ?_ (show aA S ρ H.n (.str _) _ from rfl);simp only[execOp,ho];refine bq _ _ ?_;rw[k1,run_convert_bytes_string w t t' e base _ cap hu hue hu'];cases base with
    | none=>
      rw[k1] at k4;simp[Builtin.firstCells] at k4;subst k4;have:ns=[]:=by simpa using hvs.symm
      subst this;simp[Conv.bytesToString]
      rfl
    | some ad=>
      rw[k1] at k4;simp only[Builtin.firstCells,Nat.mul_one] at k4;rw[hvs] at k4;rw[run_bytesToString w ad els.length cap ns k4,mY]
      congr 2
      show (⟨#[]++_⟩:ByteArray)=_;simp
   .cases he
  .cases hc
 .cases hc
end
end Go.EA
end
section
namespace Go.EA
section
variable {S:SC} {H H':Heap} {ρ:Rho} {w:World} {nt:Nat} {T:Tm} {a:Act} {o:Oper} {ao:AOp} {v:AV}
theorem bI (p:Pre S H ρ w nt T a) {x:Option Operand}{y:Option Opd}(h:cZ S.C nt x=some y) {d l:Nat}(hb:bound T d y=some l) :
 (x.map a.eval=none/\l=d)\/∃kd,x.map a.eval=some (.int kd l):=by
 cases x with
 | none=>
   simp only[cZ,zE] at h;subst h;simp only[bound,zE] at hb;exact .inl ⟨rfl,hb.symm⟩
 | some x=>
   simp only[cZ] at h;obtain⟨z,hz,rfl⟩:=zD.1 h;simp only[bound] at hb;obtain⟨kd,hk⟩:=jM (p.opd hz) hb;exact .inr ⟨kd,by simp[hk]⟩
theorem Ct {P:Program}{kd:IntKind}{k y:Nat}{c:BoundsCode}(h:k<=y):(Instr.sliceBound (.int kd k) y c).run P w=.ok k w:=by
 simp[Instr.sliceBound,asIntOf,h]
theorem kR {P:Program}(isS:Bool) {len cap l h:Nat}{lo hi:Option Value}(hl:(lo=none/\l=0)\/∃kd,lo=some (.int kd l)) (hh:(hi=none/\h=len)\/∃kd,hi=some (.int kd h)) (h1:l<=h) (h2:h<=cap) :
 (Instr.sliceBounds isS len cap lo hi none).run P w=.ok (l,h,cap) w:=by
 rcases hl with ⟨rfl,rfl⟩ | ⟨kd,rfl⟩ <;> rcases hh with ⟨rfl,rfl⟩ | ⟨kd',rfl⟩ <;> simp[Instr.sliceBounds,Ct,h1,h2]
theorem nP {P:Program}{len cap l h m:Nat}{lo hi:Option Value}{km:IntKind}(hl:(lo=none/\l=0)\/∃kd,lo=some (.int kd l)) (hh:∃kd,hi=some (.int kd h)) (h1:l<=h) (h2:h<=m) (h3:m<=cap) :
 (Instr.sliceBounds true len cap lo hi (some (.int km m))).run P w=.ok (l,h,m) w:=by
 obtain⟨kd',rfl⟩:=hh;rcases hl with ⟨rfl,rfl⟩ | ⟨kd,rfl⟩ <;> simp[Instr.sliceBounds,Ct,h1,h2,h3]
theorem GA (h:aJ S H ρ w) {s b:Nat}(hb:b<H.n) (hi:H.isBlk s b=true):(ρ b).s=s:=by
 have hbs:=h.obj b hb;unfold Heap.isBlk at hi;split at hi
 .rename_i s' els o hob;rw[hob] at hbs;have h3:s'=s:=by simpa using hi
  rw[<- h3];exact hbs.1.symm
 .cases hi
theorem Ad (h:aJ S H ρ w) {s b i n l hh m:Nat}{ad:Addr}{cap:Nat}(hb:b<H.n) (hblk:H.isBlk s b=true) (hcap:cap=0\/(ad=(ρ b).addr i 0/\(ρ b).o+(i+cap)*(ρ b).s<=(ρ b).z)) (h1:l<=hh) (h2:hh<=m) (h3:m<=cap) :
 aA S ρ H.n (.sl b (i+l) (hh-l)) (.slice (if m=l then some ad else (some ad).map (·.add (l*s))) (hh-l) (m-l)):=by
 have hs:=GA h hb hblk;refine⟨hb,if m=l then ad else ad.add (l*s),m-l,by split <;> rfl,by omega,?_⟩;by_cases hml:m=l
 .left;omega
 .right
  rcases hcap with h0 | ⟨had,hz⟩
  .omega
  .rw[if_neg hml,had];refine⟨?_,?_⟩
   .unfold Loc.addr;rw[addr_add,hs,Nat.add_mul];congr 1;omega
   .have:(i+l+(m-l))*(ρ b).s<=(i+cap)*(ρ b).s:=Nat.mul_le_mul_right _ (by omega);omega
theorem Dc (p:Pre S H ρ w nt T a) {t:TypeId}{x:Operand}{lo hi mx:Option Operand}(ho:o.op=.slice t x lo hi mx) (hc:aG S.C nt o=some ao) (he:ah T H ao=some (v,H')):dA S H ρ w a o v H':=by
 have go:∀{u:Value},(Instr.sliceAt t (a.eval x) (lo.map a.eval) (hi.map a.eval) (mx.map a.eval)).run S.C.P w=.ok u w->aN S ρ H.n v u->H'=H->dA S H ρ w a o v H':=by
  intro u h1 h2 h3;subst h3;refine dH.same p.H (u:=u) ?_ h2;simp only[execOp,ho];exact bq _ _ h1
 have mx0:∀{m:Opd} {k:Nat},cZ S.C nt mx=some (some m)->iF (m.ev T)=some k->∃km,mx.map a.eval=some (.int km k):=by
  intro m k hmx hm;cases mx with
  |none=>simp only[cZ] at hmx;cases hmx
  | some q=>
    simp only[cZ] at hmx;obtain⟨z',hz',h⟩:=zD.1 hmx;cases h;obtain⟨km,hkm⟩:=jM (p.opd hz') hm;exact⟨km,by simp[hkm]⟩
 have hi0:∀{m:Opd} {hi':Option Opd} {d k:Nat},((some m).isNone||hi'.isSome)=true->cZ S.C nt hi=some hi'->bound T d hi'=some k->∃kd,hi.map a.eval=some (.int kd k):=by
  intro m hi' d k h0 hhi hh;rcases bI p hhi hh with ⟨e1,e2⟩ | e
  .exfalso;cases hi with
   | none=>
     simp only[cZ,zE] at hhi;subst hhi;simp at h0
   |some q=>cases e1
  .exact e
 simp only[aG,ho] at hc;split at hc
 .rename_i x' lo' hi' mx' hx hlo hhi hmx;have h1:=p.opd hx;split at hc
  .rename_i hu;simp at hc;subst hc;simp only[ah] at he;obtain⟨z,hz,hv⟩:=zD.1 he;simp only[zF] at hv;obtain⟨rfl,rfl⟩:=hv;unfold dh at hz;split at hz <;> try (first | (rename_i hk _; cases hk) | (cases hz; done))
   rename_i s hxe;rw[hxe] at h1;have hxv:a.eval x=.string ⟨s.toArray⟩:=h1;split at hz
   .rename_i l h hl hh;split at hz
    .rename_i hcond;simp only[zE] at hz;subst hz;have hmn:mx=none:=by
      cases mx with
      |none=>rfl
      |some m=>simp only[cZ] at hmx;obtain⟨_,_,h⟩:=zD.1 hmx;cases h
     subst hmn;have hb:=kR (P:=S.C.P) (w:=w) false (len:=(⟨s.toArray⟩:ByteArray).size) (cap:=(⟨s.toArray⟩:ByteArray).size) (bI p hlo hl) (by rw[size_mk];exact bI p hhi hh) hcond.1 (by rw[size_mk];exact hcond.2);refine go (u:=.string ⟨((s.drop l).take (h-l)).toArray⟩) ?_ rfl rfl;simp[Instr.sliceAt,run_underlying hu,Instr.slice,hxv,hb];rw[ByteArray.extract_mk]
    .cases hz
   .cases hz
  .rename_i e hu;by_cases hmxhi:(mx'.isNone||hi'.isSome)=true
   case neg=>rw[if_neg hmxhi] at hc;cases hc
   rw[if_pos hmxhi] at hc;obtain⟨s,hs,rfl⟩:=zD.1 hc;simp only[ah] at he;obtain⟨z,hz,hv⟩:=zD.1 he;simp only[zF] at hv;obtain⟨rfl,rfl⟩:=hv;have hsz:=df (w:=w) hs;have run2:∀{base:Option Addr} {len cap l h m:Nat},a.eval x=.slice base len cap->(Instr.sliceBounds true len cap (lo.map a.eval) (hi.map a.eval) (mx.map a.eval)).run S.C.P w=.ok (l,h,m) w->
    (Instr.sliceAt t (a.eval x) (lo.map a.eval) (hi.map a.eval) (mx.map a.eval)).run S.C.P w=.ok (.slice (if m=l then base else base.map (·.add (l*s))) (h-l) (m-l)) w:=by
    intro base len cap l h m hxv hb;simp only[Instr.sliceAt,run_underlying hu,Sem.run_bind,Result.andThen_ok,Instr.slice,hxv,hb,hsz,Sem.run_pure]
   unfold dh at hz;split at hz <;> try (first | (rename_i hk _; cases hk) | (cases hz; done))
   .rename_i b i n hxe;rw[hxe] at h1;obtain⟨hb,ad,cap,hxv,hnc,hcap⟩:=h1.one;split at hz
    .rename_i hblk;split at hz
     .rename_i l h hl hh;split at hz
      .rename_i hcond;simp only[zE] at hz;subst hz;have hmn:mx=none:=by
        cases mx with
        |none=>rfl
        |some m=>simp only[cZ] at hmx;obtain⟨_,_,h⟩:=zD.1 hmx;cases h
       subst hmn;have hb2:=kR (P:=S.C.P) (w:=w) true (len:=n) (cap:=cap) (bI p hlo hl) (bI p hhi hh) hcond.1 (Nat.le_trans hcond.2 hnc);exact go (run2 hxv hb2) (Ad (n:=n) p.H hb hblk hcap hcond.1 (Nat.le_trans hcond.2 hnc) (zJ _)) rfl
      .cases hz
     .rename_i l h m hl hh;split at hz
      .rename_i m' hm;split at hz
       .rename_i hcond;obtain⟨km,hkm⟩:=mx0 hmx hm;have hhi3:=hi0 hmxhi hhi hh;have hb2:(Instr.sliceBounds true n cap (lo.map a.eval) (hi.map a.eval) (mx.map a.eval)).run S.C.P w=.ok (l,h,m') w:=by rw[hkm];exact nP (bI p hlo hl) hhi3 hcond.1 hcond.2.1 (by omega)
        have hrel:=Ad (n:=n) p.H hb hblk hcap hcond.1 hcond.2.1 (Nat.le_trans hcond.2.2 hnc);split at hz
        .rename_i hml;simp only[zE] at hz;subst hz;refine go (run2 hxv hb2) ?_ rfl;rw[if_pos hml];refine⟨some ad,?_⟩
         congr 1 <;> omega
        .simp only[zE] at hz;subst hz;exact go (run2 hxv hb2) hrel rfl
       .cases hz
      .cases hz
     .cases hz
    .cases hz
   .rename_i s' els hxe;rw[hxe] at h1;have h1':=h1.one;have h1'':=h1';simp only[aA,aV] at h1'';obtain⟨ad,cap,hxv,hnc,_⟩:=h1'';rw[hxv] at h1';split at hz
    .rename_i hss;subst hss;split at hz
     .rename_i l h hl hh;split at hz
      .rename_i hcond;simp only[zE] at hz;subst hz;have hmn:mx=none:=by
        cases mx with
        |none=>rfl
        |some m=>simp only[cZ] at hmx;obtain⟨_,_,h⟩:=zD.1 hmx;cases h
       subst hmn;have hb2:=kR (P:=S.C.P) (w:=w) true (len:=els.length) (cap:=cap) (bI p hlo hl) (bI p hhi hh) hcond.1 (Nat.le_trans hcond.2 hnc);exact go (run2 hxv hb2) (vG h1' hcond.1 (Nat.le_trans hcond.2 hnc) (zJ _) hcond.2) rfl
      .cases hz
     .rename_i l h m hl hh;split at hz
      .rename_i m' hm;split at hz
       .rename_i hcond;obtain⟨km,hkm⟩:=mx0 hmx hm;have hhi3:=hi0 hmxhi hhi hh;have hb2:(Instr.sliceBounds true els.length cap (lo.map a.eval) (hi.map a.eval) (mx.map a.eval)).run S.C.P w=.ok (l,h,m') w:=by rw[hkm];exact nP (bI p hlo hl) hhi3 hcond.1 hcond.2.1 (by omega)
        split at hz
        .rename_i hml;simp only[zE] at hz;subst hz;refine go (run2 hxv hb2) ?_ rfl;rw[if_pos hml];refine⟨ad,?_⟩
         congr 1 <;> omega
        .simp only[zE] at hz;subst hz;exact go (run2 hxv hb2) (vG h1' hcond.1 hcond.2.1 (Nat.le_trans hcond.2.2 hnc) (Nat.le_trans hcond.2.1 hcond.2.2)) rfl
       .cases hz
      .cases hz
     .cases hz
    .cases hz
   .rename_i hxe;rw[hxe] at h1;have hxv:a.eval x=.slice none 0 0:=h1;split at hz
    .rename_i hl hh;simp only[zE] at hz;subst hz;have hmn:mx=none:=by
      cases mx with
      |none=>rfl
      |some m=>simp only[cZ] at hmx;obtain⟨_,_,h⟩:=zD.1 hmx;cases h
     subst hmn;exact go (run2 hxv (kR true (bI p hlo hl) (bI p hhi hh) (zJ _) (zJ _))) rfl rfl
    .rename_i m hl hh;split at hz
     .rename_i hm;simp only[zE] at hz;subst hz;obtain⟨km,hkm⟩:=mx0 hmx hm;obtain⟨kd,hkd⟩:=hi0 hmxhi hhi hh;have hb2:(Instr.sliceBounds true 0 0 (lo.map a.eval) (hi.map a.eval) (mx.map a.eval)).run S.C.P w=.ok (0,0,0) w:=by rw[hkm];exact nP (bI p hlo hl) ⟨kd,hkd⟩ (zJ _) (zJ _) (zJ _)
      exact go (run2 hxv hb2) rfl rfl
     .cases hz
    .cases hz
   .rename_i hxe;rw[hxe] at h1;obtain⟨ad,hxv⟩:∃ad,a.eval x=.slice ad 0 0:=h1;split at hz
    .rename_i hl hh;simp only[zE] at hz;subst hz;have hmn:mx=none:=by
      cases mx with
      |none=>rfl
      |some m=>simp only[cZ] at hmx;obtain⟨_,_,h⟩:=zD.1 hmx;cases h
     subst hmn;exact go (run2 hxv (kR true (bI p hlo hl) (bI p hhi hh) (zJ _) (zJ _))) ⟨ad,rfl⟩ rfl
    .rename_i m hl hh;split at hz
     .rename_i hm;simp only[zE] at hz;subst hz;obtain⟨km,hkm⟩:=mx0 hmx hm;obtain⟨kd,hkd⟩:=hi0 hmxhi hhi hh;have hb2:(Instr.sliceBounds true 0 0 (lo.map a.eval) (hi.map a.eval) (mx.map a.eval)).run S.C.P w=.ok (0,0,0) w:=by rw[hkm];exact nP (bI p hlo hl) ⟨kd,hkd⟩ (zJ _) (zJ _) (zJ _)
      exact go (run2 hxv hb2) ⟨ad,rfl⟩ rfl
     .cases hz
    .cases hz
  .cases hc
 .cases hc
end
end Go.EA
end
section
namespace Go.EA
section
variable {S:SC} {H H':Heap} {ρ:Rho} {w:World} {nt:Nat} {T:Tm} {a:Act} {o:Oper} {ao:AOp} {v:AV}
theorem Ig (p:Pre S H ρ w nt T a) {t:TypeId}{l c:Operand}(ho:o.op=.makeSlice t l c) (hc:aG S.C nt o=some ao) (he:ah T H ao=some (v,H')):dA S H ρ w a o v H':=by
 simp only[aG,ho] at hc;split at hc
 .rename_i e l' c' hu hl hcc;split at hc
  .rename_i s by' z hs hby hz
   split at hc
   .rename_i hcond;simp only[zH,bne_iff_ne,ne_eq,beq_iff_eq] at hcond;obtain⟨hs0,hzl⟩:=hcond;simp at hc;subst hc;simp only[ah] at he;split at he
    .rename_i ln cp hln hcp;split at he
     .rename_i hb;simp only[zE,zF] at he;obtain⟨rfl,rfl⟩:=he;obtain⟨kl,hlv⟩:=jM (p.opd hl) hln;obtain⟨kc,hcv⟩:=jM (p.opd hcc) hcp;have hz':=hz;unfold fE at hz;split at hz
      .rename_i i hi;split at hz
       .rename_i zv hzv;have hsi:i.size=s:=by unfold bM at hs;rw[hi] at hs;simpa using hs
        have hbi:i.bytes=by':=by unfold jZ at hby;rw[hi] at hby;simpa using hby
        have hroom:fZ=140737488355328:=rfl;have hmk:=run_make (P:=S.C.P) w t e i zv hu hi hzv kl kc ln cp (by omega) (by omega) (by rw[hbi,Int.mul_comm];have:=hb.2.1;omega) (by have:=hb.2.2;omega);simp only[Int.toNat_natCast] at hmk;rw[hsi] at hmk;have hzr:=Ji (S:=S) (ρ:=ρ) (n:=cp) (m:=H.n) hs0 (bn hz) hzl;have hzr2:=hzr.take (ln*s);have hrep:(List.replicate cp z).flatten.take (ln*s)=(List.replicate ln z).flatten:=by
         have:List.replicate cp z=List.replicate ln z++List.replicate (cp-ln) z:=by rw[List.replicate_append_replicate];congr 1;omega
         rw[this,List.flatten_append];refine List.take_left' ?_;rw[bQ (s:=s) (by intro e he;rw[(List.mem_replicate.1 he).2,hzl])];simp
        rw[hrep] at hzr2;have hfl:(List.replicate ln z).flatten.length=ln*s:=by rw[bQ (s:=s) (by intro e he;rw[(List.mem_replicate.1 he).2,hzl])];simp
        obtain⟨k1,k2⟩:=p.H.row (ty:=e) (s:=s) (els:=List.replicate ln z) (C:=madeCells zv.cells (cp*s)) (0,0) (by intro e he;rw[(List.mem_replicate.1 he).2,hzl]) (by rw[hfl];exact hzr2) (.inl (zJ _));refine⟨_,_,k1,k2,.inl ⟨.slice (some ⟨w.heap.size,0,none⟩) ln cp,?_,?_⟩⟩
        .simp only[execOp,ho];refine bq _ _ ?_;rw[hlv,hcv];exact hmk
        .refine⟨by show H.n<H.n+1;omega,⟨w.heap.size,0,none⟩,cp,rfl,hb.1,.inr ⟨?_,?_⟩⟩
         .rw[aQ];simp[Loc.addr]
         .rw[aQ];show 0+(0+cp)*s<=(madeCells zv.cells (cp*s)).size;rw[size_madeCells];simp
       .cases hz
      .cases hz
     .cases he
    .cases he
   .cases hc
  .cases hc
 .cases hc
theorem DD (p:Pre S H ρ w nt T a) {t:TypeId}{x:Operand}(ho:o.op=.range t x) (hc:aG S.C nt o=some ao) (he:ah T H ao=some (v,H')):dA S H ρ w a o v H':=by
 simp only[aG,ho] at hc;split at hc
 .rename_i x' hu hx;simp at hc;subst hc;simp only[ah] at he;split at he
  .rename_i s hxe;simp only[zE,zF] at he;obtain⟨rfl,rfl⟩:=he;have h1:=p.opd hx;rw[hxe] at h1;have hxv:a.eval x=.string ⟨s.toArray⟩:=h1;obtain⟨k1,k2⟩:=p.H.push (L:=⟨w.heap.size,0,0,0,(0,0,0)⟩) (x:=.siter s 0) (ob:=.stringIter ⟨s.toArray⟩ 0) rfl ⟨rfl,rfl⟩;refine⟨_,_,k1,k2,.inl ⟨.pointer (some ⟨w.heap.size,0,none⟩),?_,?_⟩⟩
   .simp only[execOp,ho];refine bq _ _ ?_;simp[Instr.range,run_underlying hu,hxv]
   .refine⟨by show H.n<H.n+1;omega,?_⟩;rw[aQ];simp[Loc.addr]
  .cases he
 .cases hc
theorem Ie (p:Pre S H ρ w nt T a) {x:Operand}{b:Bool}(ho:o.op=.next x b) (hc:aG S.C nt o=some ao) (he:ah T H ao=some (v,H')):dA S H ρ w a o v H':=by
 simp only[aG,ho] at hc;split at hc
 .rename_i hb0;have hb0:b=true:=by simpa using hb0
  subst hb0;obtain⟨x',hx,rfl⟩:=zD.1 hc;simp only[ah] at he;split at he
  .rename_i b hxe;have h1:=p.opd hx;rw[hxe] at h1;obtain⟨hbn,hxv⟩:=h1.one;split at he
   .rename_i s pos hob;have hrel:=p.H.obj b hbn;rw[hob] at hrel;obtain⟨hrel,ho0⟩:=hrel;have hptr:a.eval x=.pointer (some ⟨(ρ b).g,0,none⟩):=by rw[hxv];simp[Loc.addr,ho0]
    have hget:(getObj (ρ b).g).run S.C.P w=.ok (.stringIter ⟨s.toArray⟩ pos) w:=by simp[getObj,Sem.run,hrel]
    split at he
    .rename_i hpos;simp only[zE,zF] at he;obtain⟨rfl,rfl⟩:=he;have hlt:(ρ b).g<w.heap.size:=(zQ.1 hrel).1;obtain⟨k1,k2⟩:=p.H.turn (b:=b) (x:=.siter s (pos+(Utf8.decode ⟨s.toArray⟩ pos).2)) (w':={ w with heap:=w.heap.setIfInBounds (ρ b).g (.stringIter ⟨s.toArray⟩ (pos+(Utf8.decode ⟨s.toArray⟩ pos).2)) }) hbn (by rw[hob];rfl)
      ⟨by simp[hlt],ho0⟩ rfl (by simp) rfl rfl rfl (fun k hk=>by simp[Array.getElem?_setIfInBounds,Ne.symm hk])
     refine⟨_,_,k1,k2,.inl ⟨.tuple #[.bool true,.int .i64 pos,.int .i32 (Utf8.decode ⟨s.toArray⟩ pos).1],?_,?_⟩⟩
     .simp only[execOp,ho];refine bq _ _ ?_;rw[hptr];have hsz:pos<(⟨s.toArray⟩:ByteArray).size:=by rw[size_mk];exact hpos
      simp only[Instr.next,Sem.run_bind,hget,Result.andThen_ok,if_pos hsz];simp[setObj,Sem.run,hrel,goInt]
     .exact .inr ⟨_,rfl,ae.cons rfl (ae.cons rfl (ae.cons rfl ae.nil))⟩
    .rename_i hpos;simp only[zE,zF] at he;obtain⟨rfl,rfl⟩:=he;refine dH.same p.H (u:=.tuple #[.bool false]) ?_ (Or.inr ⟨_,rfl,ae.cons rfl ae.nil⟩);simp only[execOp,ho];refine bq _ _ ?_;rw[hptr];have hsz:¬ pos<(⟨s.toArray⟩:ByteArray).size:=by rw[size_mk];exact hpos
     simp only[Instr.next,Sem.run_bind,hget,Result.andThen_ok,if_neg hsz,Sem.run_pure]
   .cases he
  .cases he
 .cases hc
theorem AP {P:Program}{n:Nat}{mx:Bool}{x y z:AV}{a b:Value}(h1:aN S ρ n x a) (h2:aN S ρ n y b) (h:xW mx x y=some z):∃u,((if mx then Builtin.max2 else Builtin.min2) a b).run P w=.ok u w/\aN S ρ n z u:=by
 unfold xW at h;split at h
 .rename_i k p k' q;simp only[zE] at h;subst h;have ha:a=.int k p:=h1;have hb:b=.int k' q:=h2;subst ha hb;cases mx
  .exact⟨.int k (if q<p then q else p),by simp[Builtin.min2],rfl⟩
  .refine⟨.int k (if q > p then q else p),by simp[Builtin.max2],rfl⟩
 .cases h
theorem qH {P:Program}{n:Nat}{mx:Bool}:∀{ys:List AV}{x z:AV}{a:Value}{bs:List Value},aN S ρ n x a->ae (aN S ρ n) ys bs->oK mx x ys=some z->
 ∃u,(bs.foldlM (if mx then Builtin.max2 else Builtin.min2) a).run P w=.ok u w/\aN S ρ n z u
 | [],x,z,a,bs,h1,h2,h=>by
   obtain rfl:=h2.nil_inv;simp[oK] at h;subst h;exact⟨a,by simp,h1⟩
 | y::ys,x,z,a,bs,h1,h2,h=>by
   obtain⟨b,bs,rfl,hb,ht⟩:=h2.cons_inv;simp only[oK] at h;obtain⟨m,hm,hr⟩:=Option.bind_eq_some_iff.1 h;obtain⟨u,hu,hru⟩:=AP (w:=w) (P:=P) h1 hb hm;obtain⟨r,hr1,hr2⟩:=qH (P:=P) hru ht hr;exact⟨r,by simp only[List.foldlM_cons,Sem.run_bind,hu,Result.andThen_ok];exact hr1,hr2⟩
end
end Go.EA
end
section
namespace Go.EA
section
variable {S:SC} {H H':Heap} {ρ:Rho} {w:World} {nt:Nat} {T:Tm} {a:Act} {o:Oper} {ao:AOp} {v:AV}
theorem aJ.move (h:aJ S H ρ w) {b:Nat}(hb:b<H.n) (hob:own (H.o b)=true) {L:Loc}(hg:L.g=(ρ b).g) {x:AO}{w':World}(hx:kE S (ρ.put H.n L) (H.n+1) L x (w'.heap[L.g]?))
 (hsz:w'.heap.size=w.heap.size) (hos:w'.os=w.os) (htp:w'.tape=w.tape) (hout:w'.output=w.output) (hk:∀k,k≠(ρ b).g->w'.heap[k]?=w.heap[k]?) (hdr:w.drawn<=w'.drawn) :
 aJ S ((H.set b .dead).push x) (ρ.put H.n L) w'/\Frm H ρ w ((H.set b .dead).push x) (ρ.put H.n L) w':=by
 have hp:∀i,i<H.n->ρ.put H.n L i=ρ i:=fun i hi=>nO ρ L (by omega)
 have hn:ρ.put H.n L H.n=L:=aQ ρ H.n L;have ho:∀i,i<H.n->i≠b->((H.set b .dead).push x).o i=H.o i:=fun i hi hib=>by
  simp only[Heap.push,Heap.set,EA.put];rw[if_neg (by omega),if_neg hib]
 have hod:((H.set b .dead).push x).o b=.dead:=by
  simp only[Heap.push,Heap.set,EA.put];rw[if_neg (by omega),if_pos trivial]
 have hon:((H.set b .dead).push x).o H.n=x:=if_pos rfl;have hlb:live (H.o b)=true:=by revert hob; cases H.o b <;> simp[own,live]
 refine aJ.mk2 h (fun i hi=>?_) (fun i j hi hj hne hoi hlj=>?_) ⟨by omega,hos,htp,hout,by simp[Heap.push,Heap.set],hp,fun k hk' hni=>⟨hk k (Ne.symm (hni b hb hob)),fun i hi hoi=>?_⟩,fun _ _ h=>h,fun _ _ _=>rfl⟩ rfl hdr
 .have hi':i<H.n+1:=hi;show kE S (ρ.put H.n L) (H.n+1) _ _ _;rcases Nat.lt_or_ge i H.n with hl | hl
  .rw[hp i hl];by_cases e:i=b
   .subst e;rw[hod];trivial
   .rw[ho i hl e];cases hd:live (H.o i) with
    | false=>
      have:H.o i=.dead:=by revert hd; cases H.o i <;> simp[live]
      rw[this];trivial
    | true=>
      rw[hk _ (Ne.symm (h.ap b i hb hl (Ne.symm e) hob hd))];exact(h.obj i hl).mono (Ext.put ρ H.n L)
  .have:i=H.n:=by omega
   subst this;rw[hn,hon];exact hx
 .have hi':i<H.n+1:=hi;have hj':j<H.n+1:=hj;have hib:i≠b:=fun e=>by subst e;rw[hod] at hoi;cases hoi
  have hjb:j≠b:=fun e=>by subst e;rw[hod] at hlj;cases hlj
  rcases Nat.lt_or_ge i H.n with hl | hl <;> rcases Nat.lt_or_ge j H.n with hl2 | hl2
  .rw[hp i hl,hp j hl2];rw[ho i hl hib] at hoi;rw[ho j hl2 hjb] at hlj;exact h.ap i j hl hl2 hne hoi hlj
  .have:j=H.n:=by omega
   subst this;rw[hp i hl,hn,hg];rw[ho i hl hib] at hoi;exact h.ap i b hl hb hib hoi hlb
  .have:i=H.n:=by omega
   subst this;rw[hp j hl2,hn,hg];rw[ho j hl2 hjb] at hlj;exact h.ap b j hb hl2 (Ne.symm hjb) hob hlj
  .omega
 .have hi':i<H.n+1:=hi;have hib:i≠b:=fun e=>by subst e;rw[hod] at hoi;cases hoi
  rcases Nat.lt_or_ge i H.n with hl | hl
  .rw[hp i hl];rw[ho i hl hib] at hoi;exact hni i hl hoi
  .have:i=H.n:=by omega
   subst this;rw[hn,hg];exact hni b hb hob
theorem Bb {n:Nat}{els:List (List Lf)}{C:Array Value}{L:Loc}{vs:List Value}(hs:∀e∈els,e.length=L.s) (hA:ae (aA S ρ n) els.flatten vs) (hv:∀q u,vs[q]?=some u->C[L.o+q]?=some u):sK S ρ n L els C:=by
 intro k e hk;have he:=hs e (zU hk);refine⟨he,fun j x hj=>?_⟩;have hf:∀(els:List (List Lf)) (k:Nat),(∀e∈els,e.length=L.s)->els[k]?=some e->els.flatten[k*L.s+j]?=some x:=by
  intro els
  induction els with
  |nil=>intro k _ h;simp at h
  | cons d ds ih=>
    intro k hl h;cases k with
    | zero=>
      simp at h;subst h;rw[List.flatten_cons,Nat.zero_mul,Nat.zero_add,zV (zI.1 hj).1];exact hj
    | succ k=>
      simp at h;have hd:=hl d (by simp);rw[List.flatten_cons,List.getElem?_append_right (by rw[hd,Nat.succ_mul];omega),hd];have:=ih k (fun e he=>hl e (by simp[he])) h
      rwa [show (k+1)*L.s+j-L.s=k*L.s+j by rw[Nat.succ_mul];omega]
 obtain⟨v,hv2,hr⟩:=hA.get (hf els k hs hk);exact⟨v,by rw[Nat.add_assoc];exact hv _ v hv2,hr⟩
theorem sH {P:Program}(h:aJ S H ρ w) {s:Nat}{x:AV}{u:Value}(hx:aN S ρ H.n x u) {els:List (List Lf)}(hr:fM H s x=some els) :
 ∃vs,(Builtin.lenOf u).run P w=.ok els.length w/\(Builtin.firstCells s els.length u).run P w=.ok vs.toArray w/\ae (aA S ρ H.n) els.flatten vs/\vs.length=els.length*s/\(∀e∈els,e.length=s):=by
 unfold fM at hr;split at hr
 .rename_i b;split at hr
  .rename_i hs1;subst hs1;simp at hr;subst hr;have hu:u=.string ⟨b.toArray⟩:=hx;subst hu;refine⟨b.map fun c=>.int .u8 c.toNat,?_,?_,?_,by simp,by simp⟩
   .simp[Builtin.lenOf,size_mk]
   .simp only[Builtin.firstCells,zR,ByteArray.extract_mk];simp
   .rw[DK];refine⟨by simp,fun i x u hx hu=>?_⟩;simp at hx hu;obtain⟨c,hc,rfl⟩:=hx;obtain⟨c',hc',rfl⟩:=hu;rw[hc] at hc';cases hc';rfl
  .cases hr
 .rename_i y _;obtain⟨base,cap,vs,k1,k2,k3,k4,k5,k6⟩:=sM (P:=P) h hx.one hr;exact⟨vs,by rw[k1];simp[Builtin.lenOf],k4,k2,k3,k6⟩
 .cases hr
theorem JO {d:TypeDesc}(hd:Jl d=true):d=.string\/∃e,d=.slice e:=by revert hd; cases d <;> simp[Jl]
theorem CJ {P:Program}{t t' e ty:TypeId}{d:TypeDesc}{i:TypeInfo}{z:Value}(ht:P.underlying t=some (.slice e)) (ht':P.underlying t'=some d) (hd:d=.string\/∃e,d=.slice e)
 (hi:P.info? e=some i) (hz:i.zero=some z) {base:Option Addr} {n cap m:Nat} {x:Value} {olds news:List Value} (hl:(Builtin.lenOf x).run P w=.ok m w) (hn:(Builtin.firstCells i.size m x).run P w.drew=.ok news.toArray w.drew)
 (ho:(Builtin.firstCells i.size n (.slice base n cap)).run P w.drew=.ok olds.toArray w.drew) (hgt:cap<n+m) (hb:i.bytes≠0) (hfit:Builtin.nextslicecap (n+m) cap*i.bytes<=281474976710656) :
 (Builtin.append_ #[t,t'] ty #[.slice base n cap,x]).run P w=.ok (.slice (some ⟨w.heap.size,0,none⟩) (n+m) (grownCap w (n+m) cap e))
  (w.drew.alloc (.cells (olds.toArray++news.toArray++Builtin.zeroCells z.cells (grownCap w (n+m) cap e-(n+m))) e)):=by
 have hng:¬ (n+m<=cap):=by omega
 have hfit':¬ (281474976710656<Builtin.nextslicecap (n+m) cap*i.bytes):=by omega
 have hdr:({ heap:=w.heap,tape:=w.tape,drawn:=w.drawn+1,os:=w.os,output:=w.output }:World)=w.drew:=rfl;rcases hd with rfl | ⟨e',rfl⟩ <;> simp[Builtin.append_,run_underlying ht,run_underlying ht',sizeOf,typeInfo,hi,hz,zeroValue,hl,hng,hb,hfit',Question.forced,hdr,hn,ho,newRow,grownCap] <;> rw[<- Array.append_assoc] <;> simp
theorem uJ {P:Program}{t t' e ty:TypeId}{d:TypeDesc}{i:TypeInfo}(ht:P.underlying t=some (.slice e)) (ht':P.underlying t'=some d) (hd:d=.string\/∃e,d=.slice e)
 (hi:P.info? e=some i) {base:Option Addr} {n cap m:Nat} {x:Value} {news:List Value} (hl:(Builtin.lenOf x).run P w=.ok m w) (hn:(Builtin.firstCells i.size m x).run P w=.ok news.toArray w)
 (hle:n+m<=cap) {w':World} (hst:∀a,base=some a->(storeCells (a.add (n*i.size)) news).run P w=.ok () w') (hno:base=none->w'=w) :
 (Builtin.append_ #[t,t'] ty #[.slice base n cap,x]).run P w=.ok (.slice base (n+m) cap) w':=by
 cases base with
 | none=>
   rw[hno rfl];rcases hd with rfl | ⟨e',rfl⟩ <;> simp[Builtin.append_,run_underlying ht,run_underlying ht',sizeOf,typeInfo,hi,hl,hle,hn]
 | some a=>
   rcases hd with rfl | ⟨e',rfl⟩ <;> simp[Builtin.append_,run_underlying ht,run_underlying ht',sizeOf,typeInfo,hi,hl,hle,hn,hst a rfl]
def Ag (e:TypeId) (L:Loc) (m:Nat) (u:Value):Prop:=L.o=0/\L.t=(e,0,0)/\∃cap,u=.slice (some ⟨L.g,0,none⟩) m cap/\cap*L.s=L.z
def Cv (e:TypeId) (ρ ρ':Rho) (x v:AV) (ux u:Value):Prop:=(∀k i q,x=.one (.sl k i q)->i=0/\Ag e (ρ k) q ux)->∀k m,v=.one (.sl k 0 m)->Ag e (ρ' k) m u
theorem Aj {t t' e ty:TypeId}{d:TypeDesc}{s bytes:Nat}{z:List Lf}(hH:aJ S H ρ w) (ht:S.C.P.underlying t=some (.slice e)) (ht':S.C.P.underlying t'=some d) (hd:d=.string\/∃e,d=.slice e)
 (hs:bM S.C.P e=some s) (hb:jZ S.C.P e=some bytes) (hz:fE S.C.P e=some z) (hs0:s≠0) (hb0:bytes≠0) (hzl:z.length=s) {x y:AV} {ux uy:Value} (hx:aN S ρ H.n x ux) (hy:aN S ρ H.n y uy)
 (he:eB H s bytes x y=some (v,H')):∃ρ' w' u,aJ S H' ρ' w'/\Frm H ρ w H' ρ' w'/\(Builtin.append_ #[t,t'] ty #[ux,uy]).run S.C.P w=.ok u w'/\aN S ρ' H'.n v u/\Cv e ρ ρ' x v ux u:=by
 unfold fE at hz;split at hz
 case h_2=>cases hz
 rename_i i hi;split at hz
 case h_2=>cases hz
 rename_i zv hzv;have hsi:i.size=s:=by unfold bM at hs;rw[hi] at hs;simpa using hs
 have hbi:i.bytes=bytes:=by unfold jZ at hb;rw[hi] at hb;simpa using hb
 subst hsi hbi;have hzs:zv.cells.size=i.size:=by have:=(bn (S:=S) (ρ:=ρ) (n:=0) hz).1;simp at this;omega
 have grown:∀(base:Option Addr) (n cap:Nat) (olds:List (List Lf)) (new:List (List Lf)) (ov nv:List Value),ux=.slice base n cap->cap<n+new.length->(n+new.length)*i.bytes<=fZ->
  (Builtin.lenOf uy).run S.C.P w=.ok new.length w->(Builtin.firstCells i.size new.length uy).run S.C.P w.drew=.ok nv.toArray w.drew->(Builtin.firstCells i.size n (.slice base n cap)).run S.C.P w.drew=.ok ov.toArray w.drew->
  olds.length=n->ae (aA S ρ H.n) olds.flatten ov->ae (aA S ρ H.n) new.flatten nv->(∀e∈olds,e.length=i.size)->(∀e∈new,e.length=i.size)->
  ∃ρ' w' u,aJ S (H.push (.blk i.size (olds++new) true)) ρ' w'/\Frm H ρ w (H.push (.blk i.size (olds++new) true)) ρ' w'/\(Builtin.append_ #[t,t'] ty #[ux,uy]).run S.C.P w=.ok u w'/\
   aN S ρ' (H.n+1) (.one (.sl H.n 0 (n+new.length))) u/\Ag e (ρ' H.n) (n+new.length) u:=by
  intro base n cap olds new ov nv hux hgt hroom hl hn ho hol hov hnv hes hes2;subst hux;have hrun:=CJ (w:=w) (ty:=ty) ht ht' hd hi hzv hl hn ho hgt hb0 (growslice_fits hgt hroom);have hall:∀e∈olds++new,e.length=i.size:=fun e he=>by
   rcases zX.1 he with h | h
   .exact hes e h
   .exact hes2 e h
  have hfl:(olds++new).flatten.length=(n+new.length)*i.size:=by rw[bQ hall];simp[hol]
  have hcs:(ov.toArray++nv.toArray++Builtin.zeroCells zv.cells (grownCap w (n+new.length) cap e-(n+new.length))).toList=(ov++nv)++(Builtin.zeroCells zv.cells (grownCap w (n+new.length) cap e-(n+new.length))).toList:=by simp
  have hA:ae (aA S ρ H.n) (olds++new).flatten (ov++nv):=by rw[List.flatten_append];exact hov.append hnv
  have hge:=grownCap_ge w (n+new.length) cap e;have hsz:(ov.toArray++nv.toArray++Builtin.zeroCells zv.cells (grownCap w (n+new.length) cap e-(n+new.length))).size=grownCap w (n+new.length) cap e*i.size:=by
   have h1:=hA.1;rw[hfl,zL] at h1;simp only[Array.size_append,List.size_toArray,size_zeroCells,hzs];rw[<- h1,<- Nat.add_mul];congr 1;omega
  obtain⟨k1,k2⟩:=hH.drew.row (ty:=e) (els:=olds++new) (C:=ov.toArray++nv.toArray++Builtin.zeroCells zv.cells (grownCap w (n+new.length) cap e-(n+new.length))) (0,0) hall (by rw[hcs,List.take_left' hA.1.symm];exact hA) (.inl (zJ _));refine⟨_,_,_,k1,Frm.drew.trans k2,hrun,?_,by rw[aQ],by rw[aQ],_,by rw[aQ];rfl,by rw[aQ,hsz]⟩;refine⟨by omega,⟨w.heap.size,0,none⟩,_,rfl,hge,.inr ⟨?_,?_⟩⟩
  .rw[aQ];simp[Loc.addr]
  .rw[aQ];show 0+(0+grownCap w (n+new.length) cap e)*i.size<=_;rw[hsz];simp
 unfold eB at he;split at he
 .cases he
 .
  rename_i hsrc;obtain⟨vs,hl,hf,hA,hvl,_⟩:=sH (P:=S.C.P) hH hy hsrc;have hvs:vs=[]:=zT (by simpa using hvl);subst hvs;have same:∀(base:Option Addr) (n cap:Nat),ux=.slice base n cap->n<=cap->(Builtin.append_ #[t,t'] ty #[ux,uy]).run S.C.P w=.ok ux w:=by
   intro base n cap hux hnc;subst hux;have:=uJ (w:=w) (ty:=ty) ht ht' hd hi (base:=base) (n:=n) (cap:=cap) (m:=0) hl (by simpa using hf) hnc (w':=w) (fun a _=>by simp[storeCells]) (fun _=>rfl);simpa using this
  split at he
  .simp only[zE,zF] at he;obtain⟨rfl,rfl⟩:=he;exact⟨ρ,w,ux,hH,Frm.refl _ _ _,same none 0 0 hx (zJ _),hx,fun _ k m h=>by cases h⟩
  .simp only[zE,zF] at he;obtain⟨rfl,rfl⟩:=he;have hx3:=hx;obtain⟨ad,hux⟩:∃ad,ux=.slice ad 0 0:=hx3;exact⟨ρ,w,ux,hH,Frm.refl _ _ _,same _ 0 0 hux (zJ _),hx,fun _ k m h=>by cases h⟩
  .simp only[zE,zF] at he;obtain⟨rfl,rfl⟩:=he;have hx':=aN.one hx;obtain⟨hlt,ad,cap,hux,hnc,_⟩:=hx';exact⟨ρ,w,ux,hH,Frm.refl _ _ _,same _ _ _ hux hnc,hx,fun hq k m h=>by cases h;exact(hq _ _ _ rfl).2⟩
  .simp only[zE,zF] at he;obtain⟨rfl,rfl⟩:=he;have hx':=aN.one hx;simp only[aA,aV] at hx';obtain⟨ad,cap,hux,hnc,_⟩:=hx';exact⟨ρ,w,ux,hH,Frm.refl _ _ _,same _ _ _ hux hnc,hx,fun _ k m h=>by cases h⟩
  .cases he
 .rename_i e1 es hsrc;obtain⟨vs,hl,hf,hA,hvl,hels⟩:=sH (P:=S.C.P) hH hy hsrc;obtain⟨vs',hl',hf',hA',hvl',_⟩:=sH (P:=S.C.P) hH.drew hy hsrc;have fromNil:∀(base:Option Addr),ux=.slice base 0 0->(if (es.length+1)*i.bytes<=fZ then some (AV.one (Lf.sl H.n 0 (es.length+1)),H.push (.blk i.size (e1::es) true)) else none)=some (v,H')->
   ∃ρ' w' u,aJ S H' ρ' w'/\Frm H ρ w H' ρ' w'/\(Builtin.append_ #[t,t'] ty #[ux,uy]).run S.C.P w=.ok u w'/\aN S ρ' H'.n v u/\Cv e ρ ρ' x v ux u:=by
   intro base hux he;split at he
   .rename_i hroom;simp only[zE,zF] at he;obtain⟨rfl,rfl⟩:=he;have:=grown base 0 0 [] (e1::es) [] vs' hux (by simp) (by simpa using hroom) hl hf' (by
     cases base with
     |none=>simp[Builtin.firstCells]
     | some ad=>
       have:=cu (P:=S.C.P) (w:=w.drew) (a:=ad) (vs:=[]) (by simp);simpa [Builtin.firstCells] using this) rfl ae.nil hA' (by simp) hels
    simp only[Nat.zero_add,List.nil_append] at this;obtain⟨ρ',w',u,g1,g2,g3,g4,g5⟩:=this;exact⟨ρ',w',u,g1,g2,g3,g4,fun _ k m h=>by cases h;exact g5⟩
   .cases he
  split at he
  .exact fromNil none hx he
  .obtain⟨ad,hux⟩:∃ad,ux=.slice ad 0 0:=hx;exact fromNil _ hux he
  .rename_i b ii n;have hx':=hx.one;obtain⟨hbn,ad,cap,hux,hnc,hcap⟩:=hx';split at he
   .rename_i s' els hob;split at he
    .rename_i hcond;obtain⟨hss,hin,hroom⟩:=hcond;simp only[zE,zF] at he;obtain⟨rfl,rfl⟩:=he;subst hss;have hown:own (H.o b)=true:=by rw[hob];rfl
     have hrow:H.row i.size (.sl b ii n)=some ((els.drop ii).take n):=by
      simp only[Heap.row,hob];rw[if_pos ⟨trivial,hin⟩]
     have hlen:((els.drop ii).take n).length=n:=by simp;omega
     by_cases hfitc:n+(es.length+1)<=cap
     .
      have hrb:=hH.obj b hbn;rw[hob] at hrb;obtain⟨hsL,C,tyC,fr,hC,hcells,hown2⟩:=hrb;obtain⟨hCz,hCr,hfr,hty⟩:=hown2 rfl;rcases hcap with h0 | ⟨had,hz2⟩
      .omega
      obtain⟨ov,ov1,ov2,ov3⟩:=qF hcells ii n hin;rw[<- hsL] at ov2 ov3 hz2;have hmul:(n+(es.length+1))*i.size<=cap*i.size:=Nat.mul_le_mul_right _ hfitc;have hexp:(ii+cap)*i.size=ii*i.size+cap*i.size:=Nat.add_mul _ _ _;have hexp2:(n+(es.length+1))*i.size=n*i.size+(es.length+1)*i.size:=Nat.add_mul _ _ _;simp only[zM] at hvl hl hf;obtain⟨w',C',r1,r2,r3,r4,r5,r6,r7,r8,r9,r10⟩:=jq (P:=S.C.P) (g:=(ρ b).g) (o:=(ρ b).o+ii*i.size+n*i.size) vs 0 w C hC (fun v hv=>by
       obtain⟨q,hq,rfl⟩:=List.getElem_of_mem hv;have hq2:q<(e1::es).flatten.length:=by rw[hA.1];exact hq
       exact(aA.cells (hA.2 q _ _ (zB hq2) (zB _))).2) (by omega) hfr
      have hadd:ad.add (n*i.size)=⟨(ρ b).g,(ρ b).o+ii*i.size+n*i.size,none⟩:=by
       rw[had];unfold Loc.addr;rw[addr_add,hsL];rfl
      have hrun:=uJ (w:=w) (ty:=ty) ht ht' hd hi (base:=some ad) hl hf hfitc (w':=w') (fun a ha=>by cases ha;rw[hadd];exact r1) (fun h=>by cases h);have hall:∀e∈(els.drop ii).take n++e1::es,e.length=i.size:=fun e he=>by
       rcases zX.1 he with h | h
       .have:=List.mem_of_mem_drop (List.mem_of_mem_take h);obtain⟨k,hk,rfl⟩:=List.getElem_of_mem this;rw[hsL];exact(hcells k _ (zB hk)).1
       .exact hels e h
      have hx2:kE S (ρ.put H.n ⟨(ρ b).g,(ρ b).o+ii*i.size,i.size,(ρ b).z,(ρ b).t⟩) (H.n+1) ⟨(ρ b).g,(ρ b).o+ii*i.size,i.size,(ρ b).z,(ρ b).t⟩ (.blk i.size ((els.drop ii).take n++e1::es) true) (w'.heap[(ρ b).g]?):=by
       refine⟨rfl,C',tyC,fr,r2,?_,fun _=>⟨by rw[r3];exact hCz,?_,by rw[r3];exact hfr,hty⟩⟩
       .refine Bb hall (vs:=ov++vs) ?_ ?_
        .rw[List.flatten_append];exact(ov1.append hA).mono fun _ _ h=>h.mono (Ext.put ρ H.n _)
        .intro q u hq;show C'[(ρ b).o+ii*i.size+q]?=some u;rw[r4];rcases Nat.lt_or_ge q (n*i.size) with h | h
         .rw[if_neg (by omega)];rw[zV (by omega)] at hq;exact ov3 q u hq
         .rw[List.getElem?_append_right (by omega),ov2] at hq;have hlt:=(zI.1 hq).1;rw[if_pos (by omega),<- hq]
          congr 1;omega
       .show (ρ b).o+ii*i.size+_*i.size<=C'.size;rw[zL,hlen,r3,hCz];simp only[zM];omega
      obtain⟨k1,k2⟩:=hH.move hbn hown (L:=⟨(ρ b).g,(ρ b).o+ii*i.size,i.size,(ρ b).z,(ρ b).t⟩) rfl hx2 r6 r7 r8 r9 r5 (Nat.le_of_eq r10.symm);refine⟨_,w',_,k1,k2,by rw[hux];exact hrun,?_,fun hq k m h=>?_⟩
      rotate_left
      .cases h;rw[aQ];obtain⟨hii,t1,t2,cp,t3,t4⟩:=hq b ii n rfl;subst hii;rw[hux] at t3;cases t3;exact⟨by show (ρ b).o+0*i.size=0;omega,t2,_,by show Value.slice _ _ _=.slice (some ⟨(ρ b).g,0,none⟩) _ _;rfl,by rw[<- hsL] at t4;exact t4⟩
      refine⟨by show H.n<H.n+1;omega,ad,cap,rfl,hfitc,.inr ⟨?_,?_⟩⟩
      .rw[aQ,had];simp[Loc.addr,hsL]
      .rw[aQ];show (ρ b).o+ii*i.size+(0+cap)*i.size<=(ρ b).z;simp only[Nat.zero_add];omega
     .
      obtain⟨h1k,h2k⟩:=hH.kill b;obtain⟨base0,cap0,ov,o1,o2,o3,o4,_,o6⟩:=sM (P:=S.C.P) hH.drew hx.one hrow;rw[hlen] at o4;have hg:=grown (some ad) n cap ((els.drop ii).take n) (e1::es) ov vs' hux (by simp;omega) (by simpa using hroom) hl hf' (by rw[hux] at o4;exact o4) hlen o2 hA' o6 hels;obtain⟨ρ',w',u,g1,g2,g3,g4,g5⟩:=hg;have hbne:b≠H.n:=by omega
      obtain⟨q1,q2⟩:=g1.kill b;have heq:(H.push (.blk i.size ((els.drop ii).take n++e1::es) true)).set b .dead=(H.set b .dead).push (.blk i.size ((els.drop ii).take n++e1::es) true):=by
       simp only[Heap.push,Heap.set]
       congr 1
       funext j
       unfold EA.put;by_cases h1:j=b
       .subst h1;rw[if_pos rfl,if_neg hbne,if_pos rfl]
       .rw[if_neg h1];by_cases h2:j=H.n
        .rw[if_pos h2,if_pos h2]
        .rw[if_neg h2,if_neg h2,if_neg h1]
      rw[heq] at q1 q2;exact⟨ρ',w',u,q1,g2.trans q2,g3,g4,fun _ k m h=>by cases h;exact g5⟩
    .cases he
   .cases he
  .cases he
theorem JP {t t' e ty:TypeId}{d:TypeDesc}{s bytes:Nat}{z:List Lf}(hH:aJ S H ρ w) (ht:S.C.P.underlying t=some (.slice e)) (ht':S.C.P.underlying t'=some d) (hd:d=.string\/∃e,d=.slice e)
 (hs:bM S.C.P e=some s) (hb:jZ S.C.P e=some bytes) (hz:fE S.C.P e=some z) (hs0:s≠0) (hb0:bytes≠0) (hzl:z.length=s) {x y:AV} {ux uy:Value} (hx:aN S ρ H.n x ux) (hy:aN S ρ H.n y uy)
 (he:eB H s bytes x y=some (v,H')):∃ρ' w' u,aJ S H' ρ' w'/\Frm H ρ w H' ρ' w'/\(Builtin.append_ #[t,t'] ty #[ux,uy]).run S.C.P w=.ok u w'/\aN S ρ' H'.n v u:=
 let ⟨ρ',w',u,h1,h2,h3,h4,_⟩:=Aj hH ht ht' hd hs hb hz hs0 hb0 hzl hx hy he
 ⟨ρ',w',u,h1,h2,h3,h4⟩
end
end Go.EA
end
section
namespace Go.EA
section
variable {S:SC} {ρ:Rho}
theorem jo {P:Program}{a:Addr}:∀(xs ys:List Value) (k:Nat) (w w':World),(storeCells a xs k).run P w=.ok () w'->(storeCells a (xs++ys) k).run P w=(storeCells a ys (k+xs.length)).run P w'
 | [],ys,k,w,w',h=>by
   simp[storeCells] at h;subst h;simp
 | x::xs,ys,k,w,w',h=>by
   simp only[List.cons_append,storeCells,Sem.run_bind,zM] at h ⊢;cases hs:(store (a.add k) x).run P w with
   | ok u w1=>
     rw[hs] at h;simp only[Result.andThen_ok] at h ⊢;rw[jo xs ys (k+1) w1 w' h,Nat.add_right_comm k 1 xs.length,Nat.add_assoc]
   |_=>rw[hs] at h;simp[Result.andThen] at h
theorem ji {P:Program}(g o d:Nat):∀(ys:List Value) (k:Nat) (w:World),(storeCells ⟨g,o,none⟩ ys (d+k)).run P w=(storeCells ⟨g,o+d,none⟩ ys k).run P w
 |[],k,w=>by simp[storeCells]
 | y::ys,k,w=>by
   have e:(⟨g,o,none⟩:Addr).add (d+k)=(⟨g,o+d,none⟩:Addr).add k:=by rw[addr_add,addr_add,Nat.add_assoc]
   simp only[storeCells,Sem.run_bind,e];cases (store ((⟨g,o+d,none⟩:Addr).add k) y).run P w with
   | ok u w1=>
     simp only[Result.andThen_ok];exact ji g o d ys (k+1) w1
   |_=>rfl
theorem BJ {H H':Heap}{b i j:Nat}{p:List Lf}(h:H.storeC b i j p=some H'):H'.n=H.n/\∀s els own,H.o b=.blk s els own->∃els',H'.o b=.blk s els' true:=by
 unfold Heap.storeC at h;split at h
 .rename_i s els hb;split at h
  .split at h
   .simp only[zE] at h;subst h;refine⟨rfl,fun s' els' own e=>?_⟩;rw[hb] at e;cases e;exact⟨_,if_pos rfl⟩
   .cases h
  .cases h
 .cases h
theorem BP {P:Program}{b:Nat}{z:List Lf}:∀(n i:Nat) {H H':Heap}{w:World}{vs:List Value}(_:aJ S H ρ w) (_:b<H.n) (_:H.clrC b i z n=some H') (_:∃els own,H.o b=.blk z.length els own) (_:ae (aA S ρ H.n) (List.replicate n z).flatten vs),
 ∃w',(storeCells ((ρ b).addr i 0) vs).run P w=.ok () w'/\aJ S H' ρ w'/\Frm H ρ w H' ρ w'
 | 0,i,H,H',w,vs,h,hb,hc,hs,hv=>by
   simp only[Heap.clrC,zE] at hc;subst hc;obtain rfl:vs=[]:=zT (by rw[<- hv.1];simp);exact⟨w,by simp[storeCells],h,Frm.refl _ _ _⟩
 | n+1,i,H,H',w,vs,h,hb,hc,hs,hv=>by
   simp only[Heap.clrC] at hc;split at hc
   .rename_i H1 h1;rw[List.replicate_succ,List.flatten_cons] at hv;have hl:z.length<=vs.length:=by rw[<- hv.1];simp
    have e:vs=vs.take z.length++vs.drop z.length:=(List.take_append_drop _ _).symm;have v1:ae (aA S ρ H.n) z (vs.take z.length):=by
     have:=hv.take z.length
     rwa [List.take_left' rfl] at this
    have v2:ae (aA S ρ H.n) (List.replicate n z).flatten (vs.drop z.length):=by
     have:=hv.drop z.length
     rwa [List.drop_left' rfl] at this
    obtain⟨w1,r1,r2,r3⟩:=uX (P:=P) h hb h1 v1;obtain⟨n1,n2⟩:=BJ h1;obtain⟨els,own,ho⟩:=hs;have hst:z.length=(ρ b).s:=by
     have:=h.obj b hb;rw[ho] at this;exact this.1
    obtain⟨els',ho'⟩:=n2 _ _ _ ho;obtain⟨w2,q1,q2,q3⟩:=BP n (i+1) r2 (by rw[n1];exact hb) hc ⟨els',true,ho'⟩ (by rw[n1];exact v2);refine⟨w2,?_,q2,r3.trans q3⟩;rw[e,jo _ _ _ _ _ r1];have hlen:(vs.take z.length).length=z.length:=by simp;omega
    rw[hlen];have:=ji (P:=P) (ρ b).g ((ρ b).o+i*(ρ b).s+0) z.length (vs.drop z.length) 0 w1;rw[Nat.zero_add];rw[Nat.add_zero] at this;refine this.trans ?_;rw[<- q1]
    congr 2
    show (⟨_,_,_⟩:Addr)=⟨_,_,_⟩;rw[hst,Nat.succ_mul]
    congr 1
    omega
   .cases hc
end
section
variable {S:SC} {H H':Heap} {ρ:Rho} {w:World} {v:AV}
theorem BD {P:Program}{t e:TypeId}{ts:Array TypeId}{ty:TypeId}{s:Nat}{z:List Lf}{x:AV}{u:Value}(hH:aJ S H ρ w) (hts:ts=#[t]) (hu:P.underlying t=some (.slice e)) (hs:bM P e=some s) (hz:fE P e=some z) (hs0:s≠0) (hzl:z.length=s)
 (hx:aN S ρ H.n x u) (he:vM H s z x=some (v,H')) :
 ∃w',(Builtin.clear_ ts ty #[u]).run P w=.ok (.tuple #[]) w'/\aJ S H' ρ w'/\Frm H ρ w H' ρ w'/\v=und:=by
 subst hts;obtain⟨zv,hzr,hzc⟩:=pg (w:=w) hz;unfold vM at he;split at he
 .rename_i b i n;split at he
  .rename_i s' els own hob;split at he
   .rename_i hss;subst hss;obtain⟨H1,h1,h2⟩:=zD.1 he;simp only[zF] at h2;obtain⟨rfl,rfl⟩:=h2;obtain⟨hb,a,cap,rfl,hn,hcap⟩:=hx.one;cases n with
    | zero=>
      simp only[Heap.clrC,zE] at h1;subst h1;exact⟨w,by simp[Builtin.clear_,bg hu],hH,Frm.refl _ _ _,rfl⟩
    | succ n=>
      obtain⟨ha,_⟩:a=(ρ b).addr i 0/\_:=by
       rcases hcap with h | h
       .omega
       .exact h
      have hzr2:=Ji (S:=S) (ρ:=ρ) (n:=n+1) (m:=H.n) hs0 (bn hzc) hzl;have hsz:zv.cells.size=s':=by have:=(bn (S:=S) (ρ:=ρ) (n:=0) hzc).1;simp at this;omega
      subst hzl;obtain⟨w',r1,r2,r3⟩:=BP (P:=P) (n+1) i hH hb h1 ⟨els,own,hob⟩ (vs:=(Builtin.zeroCells zv.cells (n+1)).toList) (by unfold Builtin.zeroCells;rw[hsz] at hzr2 ⊢;exact hzr2);refine⟨w',?_,r2,r3,rfl⟩;subst ha;simp[Builtin.clear_,bg hu,hzr,r1]
   .cases he
  .cases he
 .simp only[zE,zF] at he;obtain⟨rfl,rfl⟩:=he;have hu':u=.slice none 0 0:=hx;subst hu';exact⟨w,by simp[Builtin.clear_,bg hu],hH,Frm.refl _ _ _,rfl⟩
 .simp only[zE,zF] at he;obtain⟨rfl,rfl⟩:=he;obtain⟨a,hu'⟩:∃a,u=.slice a 0 0:=hx;subst hu';exact⟨w,by cases a <;> simp[Builtin.clear_,bg hu],hH,Frm.refl _ _ _,rfl⟩
 .cases he
end
end Go.EA
end
section
namespace Go.EA
section
variable {S:SC} {H H':Heap} {ρ:Rho} {w:World} {nt:Nat} {T:Tm} {a:Act} {o:Oper} {ao:AOp} {v:AV}
def mapIdx:List (Lf×Lf)->Lf->Nat->Option (Nat×Lf)
 |[],_,_=>none
 |e::r,k,i=>if Lf.same e.1 k then some (i,e.2) else mapIdx r k (i+1)
theorem kz:∀(es:List (Lf×Lf)) (k:Lf) (i:Nat),jY es k=(mapIdx es k i).map (·.2)
 |[],k,i=>rfl
 | e::r,k,i=>by
   have:=kz r k (i+1);simp only[jY,List.find?_cons,mapIdx] at this ⊢;cases h:Lf.same e.1 k with
   |true=>simp
   |false=>simpa using this
def Bz:PK->TypeDesc->Prop
 |.bool,d=>d=.bool
 |.int k,d=>d=.int k
 |.str,d=>d=.string
theorem Cz {P:Program}{t:TypeId}{k:PK}(h:pkT P t=some k):∃d,P.underlying t=some d/\Bz k d:=by
 unfold pkT at h;split at h
 .rename_i hu;cases h;exact⟨_,hu,rfl⟩
 .rename_i hu;cases h;exact⟨_,hu,rfl⟩
 .rename_i hu;cases h;exact⟨_,hu,rfl⟩
 .cases h
theorem EY (a b:List UInt8):((⟨a.toArray⟩:ByteArray) == ⟨b.toArray⟩)=decide (a=b):=by
 show (a.toArray == b.toArray)=_;rw[Bool.eq_iff_iff];simp
theorem dS {kk:PK}{k:Lf}(h:fu kk k=true):(∃q n,kk=.int q/\k=.int q n)\/(∃b,kk=.bool/\k=.bool b)\/(∃s,kk=.str/\k=.str s):=by
 unfold fu at h;split at h
 .rename_i k1 k2 n;have:=eq_of_beq h;subst this;exact .inl ⟨_,_,rfl,rfl⟩
 .exact .inr (.inl ⟨_,rfl,rfl⟩)
 .exact .inr (.inr ⟨_,rfl,rfl⟩)
 .cases h
theorem wV {kk:PK}{d:TypeDesc}(hd:Bz kk d) {k e:Lf}{u x:Value}{n:Nat}(hk:fu kk k=true) (he:fu kk e=true) (hu:aA S ρ n k u) (hx:aA S ρ n e x):Instr.sameNow d u x=some (Lf.same e k):=by
 rcases dS hk with ⟨q,z,rfl,rfl⟩ | ⟨b,rfl,rfl⟩ | ⟨s,rfl,rfl⟩
 .rcases dS he with ⟨q',z',e1,rfl⟩ | ⟨_,e1,_⟩ | ⟨_,e1,_⟩ <;> cases e1;have hu:u=.int q z:=hu;have hx:x=.int q z':=hx;have hd:d=.int q:=hd;subst hu hx hd;simp only[Instr.sameNow,if_true,Lf.same,Bool.true_and,decide_true]
  congr 1
  rw[Bool.eq_iff_iff];simp only[beq_iff_eq,decide_eq_true_eq];exact eq_comm
 .rcases dS he with ⟨_,_,e1,_⟩ | ⟨b',e1,rfl⟩ | ⟨_,e1,_⟩ <;> cases e1;have hu:u=.bool b:=hu;have hx:x=.bool b':=hx;have hd:d=.bool:=hd;subst hu hx hd;cases b <;> cases b' <;> rfl
 .rcases dS he with ⟨_,_,e1,_⟩ | ⟨_,e1,_⟩ | ⟨s',e1,rfl⟩ <;> cases e1;have hu:u=.string ⟨s.toArray⟩:=hu;have hx:x=.string ⟨s'.toArray⟩:=hx;have hd:d=.string:=hd;subst hu hx hd;simp only[Instr.sameNow,Lf.same,EY]
  congr 1
  rw[decide_eq_decide];exact eq_comm
abbrev Hu (S:SC) (ρ:Rho) (n:Nat):Lf×Lf->MapEntry->Prop:=fun p e=>aA S ρ n p.1 e.key/\aA S ρ n p.2 e.val
theorem pR {kk:PK}{d:TypeDesc}(hd:Bz kk d) {n:Nat}{k:Lf}{u:Value}(hk:fu kk k=true) (hu:aA S ρ n k u):∀{es:List (Lf×Lf)}{E:List MapEntry}(i:Nat),ae (Hu S ρ n) es E->es.all (fun e=>fu kk e.1)=true->
 ∃r,Instr.findNow d u E i=some r/\((mapIdx es k i=none/\r=none)\/∃j x y,mapIdx es k i=some (j,x)/\r=some (j,y)/\aA S ρ n x y)
 |[],E,i,h,_=>by rw[h.nil_inv];exact⟨none,rfl,.inl ⟨rfl,rfl⟩⟩
 | e::es,E,i,h,ha=>by
   obtain⟨y,ys,rfl,h1,h2⟩:=h.cons_inv;simp only[List.all_cons,zH] at ha;simp only[Instr.findNow,wV hd hk ha.1 hu h1.1,mapIdx];cases hs:Lf.same e.1 k with
   |true=>exact⟨_,rfl,.inr ⟨i,e.2,y.val,by simp,rfl,h1.2⟩⟩
   | false=>
     obtain⟨r,g1,g2⟩:=pR hd hk hu (i+1) h2 ha.2;refine⟨r,g1,?_⟩;simpa using g2
theorem iZ {P:Program}{w:World}{kk:PK}{d:TypeDesc}(hd:Bz kk d) {t:TypeId}(ht:P.underlying t=some d) (b:Bool) (u:Value):(Instr.checkKey b 10000 t u).run P w=.ok () w:=by
 unfold Instr.checkKey;rw[Sem.run_bind,run_underlying ht];cases kk <;> (have hd:=hd; simp only[Bz] at hd; subst hd; rfl)
theorem pO {P:Program}{w:World}{kk:PK}{d:TypeDesc}(hd:Bz kk d) {t:TypeId}(ht:P.underlying t=some d) {n:Nat}{k:Lf}{u:Value}(hk:fu kk k=true) (hu:aA S ρ n k u) {es:List (Lf×Lf)}{E:List MapEntry}(h:ae (Hu S ρ n) es E) (ha:es.all (fun e=>fu kk e.1)=true) :
 ∃r,(Instr.findKey t u E).run P w=.ok r w/\((mapIdx es k 0=none/\r=none)\/∃j x y,mapIdx es k 0=some (j,x)/\r=some (j,y)/\aA S ρ n x y):=by
 obtain⟨r,g1,g2⟩:=pR hd hk hu 0 h ha;refine⟨r,?_,g2⟩;unfold Instr.findKey;rw[Sem.run_bind,run_underlying ht];simp only[Result.andThen_ok,g1,Sem.run_pure]
theorem Bi {P:Program}{t:TypeId}{z:Lf}{n:Nat}(h:EE P t=some z):∃v,(zeroValue t).run P w=.ok v w/\aA S ρ n z v:=by
 unfold EE at h;split at h
 .rename_i i hi;split at h
  .rename_i v hv;refine⟨v,?_,kv h⟩;unfold zeroValue;simp[pV hi,hv]
  .cases h
 .cases h
theorem Dh (p:Pre S H ρ w nt T a) {t:TypeId}{r:Option Operand}(ho:o.op=.makeMap t r) (hc:aG S.C nt o=some ao) (he:ah T H ao=some (v,H')):dA S H ρ w a o v H':=by
 simp only[aG,ho] at hc;split at hc
 .rename_i kt et hu;cases hc;simp only[ah,zE,zF] at he;obtain⟨rfl,rfl⟩:=he;obtain⟨k1,k2⟩:=p.H.push (L:=⟨w.heap.size,0,0,0,(0,0,0)⟩) (x:=.map []) (ob:=.map #[] 0) rfl ⟨#[],0,rfl,ae.nil⟩;refine⟨_,_,k1,k2,.inl ⟨.map (some w.heap.size),?_,?_⟩⟩
  .simp only[execOp,ho];refine bq _ _ ?_;simp[Instr.makeMap]
  .refine⟨by show H.n<H.n+1;omega,?_⟩;rw[aQ]
 .cases hc
theorem DJ (h:aJ S H ρ w) {m:Nat}(hm:m<H.n) {es:List (Lf×Lf)}(ho:H.o m=.map es):∃E clk,w.heap[(ρ m).g]?=some (.map E clk)/\ae (Hu S ρ H.n) es E.toList:=by
 have:=h.obj m hm;rw[ho] at this;exact this
theorem Bc (p:Pre S H ρ w nt T a) {t:TypeId}{x i:Operand}{ok:Bool}(ho:o.op=.lookup t x i ok) (hc:aG S.C nt o=some ao) (he:ah T H ao=some (v,H')):dA S H ρ w a o v H':=by
 simp only[aG,ho] at hc;split at hc
 case h_2=>cases hc
 rename_i kt et hu;split at hc
 case h_2=>cases hc
 rename_i kk z x' i' hkk hz hx hi;cases hc;obtain⟨d,hd1,hd2⟩:=Cz hkk;simp only[ah] at he;split at he
 case h_2=>cases he
 rename_i m k hxe hie;split at he
 case h_2=>cases he
 rename_i es hob;split at he
 case isFalse=>cases he
 rename_i hcond;simp only[zH] at hcond;obtain⟨hk,ha⟩:=hcond;have h1:=p.opd hx;rw[hxe] at h1;obtain⟨hm,hxv⟩:=h1.one;have h2:=p.opd hi;rw[hie] at h2;have h2:aA S ρ H.n k (a.eval i):=h2;obtain⟨E,clk,g1,g2⟩:=DJ p.H hm hob;obtain⟨r,r1,r2⟩:=pO (w:=w) (P:=S.C.P) hd2 hd1 hk h2 g2 ha;have hget:(getObj (ρ m).g).run S.C.P w=.ok (.map E clk) w:=by simp[getObj,Sem.run,g1]
 obtain⟨zc,z1,z2⟩:=Bi (S:=S) (ρ:=ρ) (n:=H.n) (w:=w) hz;rcases r2 with ⟨e1,rfl⟩ | ⟨j,q,y,e1,rfl,hq⟩
 .have e2:jY es k=none:=by rw[kz es k 0,e1];rfl
  rw[e2] at he;simp only[zE,zF] at he;obtain⟨rfl,rfl⟩:=he;refine dH.same p.H (u:=if ok then .tuple #[zc,.bool false] else zc) ?_ ?_
  .simp only[execOp,ho];refine bq _ _ ?_;simp only[Instr.lookup,Sem.run_bind,run_underlying hu,Result.andThen_ok,hxv,hget,Sem.run_pure,iZ hd2 hd1,r1,z1]
  cases ok
  .exact z2
  .exact .inr ⟨_,rfl,ae.cons z2 (ae.cons rfl ae.nil)⟩
 .have e2:jY es k=some q:=by rw[kz es k 0,e1];rfl
  rw[e2] at he;simp only[zE,zF] at he;obtain⟨rfl,rfl⟩:=he;refine dH.same p.H (u:=if ok then .tuple #[y,.bool true] else y) ?_ ?_
  .simp only[execOp,ho];refine bq _ _ ?_;simp only[Instr.lookup,Sem.run_bind,run_underlying hu,Result.andThen_ok,hxv,hget,Sem.run_pure,iZ hd2 hd1,r1]
  cases ok
  .exact hq
  .exact .inr ⟨_,rfl,ae.cons hq (ae.cons rfl ae.nil)⟩
theorem qX:∀{es:List (Lf×Lf)}{k v:Lf}{i j:Nat}{x:Lf},mapIdx es k i=some (j,x)->i<=j/\j-i<es.length/\fD es k v=es.set (j-i) (k,v)/\∃e,es[j-i]?=some e/\Lf.same e.1 k=true
 |[],k,v,i,j,x,h=>by cases h
 | e::r,k,v,i,j,x,h=>by
   simp only[mapIdx] at h;by_cases hs:Lf.same e.1 k=true
   .rw[if_pos hs] at h;cases h;refine⟨zJ _,by simp,by simp[fD,hs],e,by simp,hs⟩
   .rw[if_neg hs] at h;obtain⟨h1,h2,h3,e',h4,h5⟩:=qX (v:=v) h;obtain⟨d,rfl⟩:∃d,j=i+1+d:=⟨j-(i+1),by omega⟩;have e1:i+1+d-i=d+1:=by omega
    have e2:i+1+d-(i+1)=d:=by omega
    rw[e2] at h2 h3 h4;rw[e1];exact⟨by omega,by simpa using h2,by simp[fD,hs,h3],e',by simpa using h4,h5⟩
theorem oq:∀{es:List (Lf×Lf)}{k v:Lf}{i:Nat},mapIdx es k i=none->fD es k v=es++[(k,v)]
 |[],k,v,i,h=>rfl
 | e::r,k,v,i,h=>by
   simp only[mapIdx] at h;by_cases hs:Lf.same e.1 k=true
   .rw[if_pos hs] at h;cases h
   .rw[if_neg hs] at h;simp[fD,hs,oq (v:=v) h]
theorem Bd {kk:PK}{k e:Lf}{u x:Value}{n:Nat}(hk:fu kk k=true) (he:fu kk e=true) (hu:aA S ρ n k u) (hx:aA S ρ n e x) (hs:Lf.same e k=true):Instr.sameBits 10000 x u=true:=by
 rcases dS hk with ⟨q,z,rfl,rfl⟩ | ⟨b,rfl,rfl⟩ | ⟨s,rfl,rfl⟩
 .rcases dS he with ⟨q',z',e1,rfl⟩ | ⟨_,e1,_⟩ | ⟨_,e1,_⟩ <;> cases e1;have hu:u=.int q z:=hu;have hx:x=.int q z':=hx;subst hu hx;have:z'=z:=by simpa [Lf.same] using hs
  subst this;simp[Instr.sameBits]
 .rcases dS he with ⟨_,_,e1,_⟩ | ⟨b',e1,rfl⟩ | ⟨_,e1,_⟩ <;> cases e1;have hu:u=.bool b:=hu;have hx:x=.bool b':=hx;subst hu hx;have:b'=b:=by simpa [Lf.same] using hs
  subst this;simp[Instr.sameBits]
 .rcases dS he with ⟨_,_,e1,_⟩ | ⟨_,e1,_⟩ | ⟨s',e1,rfl⟩ <;> cases e1;have hu:u=.string ⟨s.toArray⟩:=hu;have hx:x=.string ⟨s'.toArray⟩:=hx;subst hu hx;have:s'=s:=by simpa [Lf.same] using hs
  subst this;simp only[Instr.sameBits,EY,decide_true]
theorem rD (p:Pre S H ρ w nt T a) {t:TypeId}{x i y:Operand}(ho:o.op=.mapUpdate t x i y\/o.op=.insert t x i y) (hc:aG S.C nt o=some ao) (he:ah T H ao=some (v,H')):dA S H ρ w a o v H':=by
 have hc:(match S.C.P.underlying t with
  |some (.map kt et)=>match pkT S.C.P kt,aX S.C nt x,aX S.C nt i,aX S.C nt y with
   |some kk,some m,some i,some x=>some (AOp.mapset kk m i x)
   |_,_,_,_=>none
  |_=>none)=some ao:=by rcases ho with ho | ho <;> (simp only[aG,ho] at hc; exact hc)
 split at hc
 case h_2=>cases hc
 rename_i kt et hu;split at hc
 case h_2=>cases hc
 rename_i kk x' i' y' hkk hx hi hy;cases hc;obtain⟨d,hd1,hd2⟩:=Cz hkk;simp only[ah] at he;split at he
 case h_2=>cases he
 rename_i m k q hxe hie hye;split at he
 case h_2=>cases he
 rename_i es hob;split at he
 case isFalse=>cases he
 rename_i hcond;simp only[zH] at hcond;obtain⟨hk,ha⟩:=hcond;simp only[zE,zF] at he;obtain⟨rfl,rfl⟩:=he;have h1:=p.opd hx;rw[hxe] at h1;obtain⟨hm,hxv⟩:=h1.one;have h2:=p.opd hi;rw[hie] at h2;have h2:aA S ρ H.n k (a.eval i):=h2;have h3:=p.opd hy;rw[hye] at h3;have h3:aA S ρ H.n q (a.eval y):=h3;obtain⟨E,clk,g1,g2⟩:=DJ p.H hm hob;obtain⟨r,r1,r2⟩:=pO (w:=w) (P:=S.C.P) hd2 hd1 hk h2 g2 ha;have hlt:(ρ m).g<w.heap.size:=(zQ.1 g1).1;have hget:(getObj (ρ m).g).run S.C.P w=.ok (.map E clk) w:=by simp[getObj,Sem.run,g1]
 have fin:∀(E':Array MapEntry) (clk':Nat),ae (Hu S ρ H.n) (fD es k q) E'.toList->((match r with
  | some (j,_)=>(do
    let key <- Instr.keyThatStays (((E[j]?).map fun e:MapEntry=>e.key).getD (a.eval i)) (a.eval i)
    setObj (ρ m).g (.map (E.modify j fun e=>{ e with key,val:=a.eval y }) clk):Sem Unit)
  |none=>setObj (ρ m).g (.map (E.push { key:=a.eval i,val:=a.eval y,born:=clk }) (clk+1))).run S.C.P w=.ok () { w with heap:=w.heap.setIfInBounds (ρ m).g (.map E' clk') })->dA S H ρ w a o und (H.set m (.map (fD es k q))):=by
  intro E' clk' hE hrun;obtain⟨k1,k2⟩:=p.H.turn (b:=m) (x:=.map (fD es k q)) (w':={ w with heap:=w.heap.setIfInBounds (ρ m).g (.map E' clk') }) hm (by rw[hob];rfl)
   ⟨E',clk',by simp[hlt],hE⟩ rfl (by simp) rfl rfl rfl (fun k hk=>by simp[Array.getElem?_setIfInBounds,Ne.symm hk])
  refine⟨_,_,k1,k2,.inr ⟨?_,rfl⟩⟩;have hx:(execOp a.eval o).run S.C.P w=(do Instr.mapUpdate t (a.eval x) (a.eval i) (a.eval y);pure .skip:Sem Next).run S.C.P w:=by
   rcases ho with ho | ho <;> (unfold execOp; simp only[ho])
  rw[hx];refine IG _ _ ?_;simp only[Instr.mapUpdate,Sem.run_bind,run_underlying hu,Result.andThen_ok,hxv,hget,iZ hd2 hd1,r1];exact hrun
 rcases r2 with ⟨e1,rfl⟩ | ⟨j,z,y0,e1,rfl,hq⟩
 .refine fin (E.push { key:=a.eval i,val:=a.eval y,born:=clk }) (clk+1) ?_ (by simp[setObj,Sem.run,g1]);rw[oq e1,Array.toList_push];exact g2.append (ae.cons ⟨h2,h3⟩ ae.nil)
 .obtain⟨_,p2,p3,e,p4,p5⟩:=qX (v:=q) e1;rw[Nat.sub_zero] at p2 p3 p4;obtain⟨e',he',hee⟩:=g2.get p4;have hsb:Instr.keyThatStays e'.key (a.eval i)=pure (a.eval i):=by
   unfold Instr.keyThatStays;rw[Bd hk (List.all_eq_true.1 ha e (zU p4)) h2 hee.1 p5]
   rfl
  have hj:E[j]?=some e':=by rw[<- Array.getElem?_toList];exact he'
  refine fin (E.modify j fun e=>{ e with key:=a.eval i,val:=a.eval y }) clk ?_ ?_
  .rw[p3,Array.toList_modify];refine⟨by simpa using g2.1,fun n b c hb hc=>?_⟩;by_cases hn:n=j
   .subst hn;rw[List.getElem?_set_self p2] at hb;rw[List.getElem?_modify,he'] at hc;simp only[if_true,Option.map_eq_map,Option.map_some,zE] at hb hc;subst hb hc;exact⟨h2,h3⟩
   .rw[List.getElem?_set_ne (Ne.symm hn)] at hb;rw[List.getElem?_modify] at hc;have hc:E.toList[n]?=some c:=by simpa [Ne.symm hn] using hc
    exact g2.2 n b c hb hc
  .simp only[hj,Option.map_some,Option.getD_some,hsb,Sem.run_bind,Sem.run_pure,Result.andThen_ok];simp[setObj,Sem.run,g1]
end
end Go.EA
end
section
namespace Go.EA
section
variable {S:SC} {H H':Heap} {ρ:Rho} {w:World} {nt:Nat} {T:Tm} {a:Act} {o:Oper} {ao:AOp} {v:AV}
theorem JU (p:Pre S H ρ w nt T a) {op:BinOp}{t:TypeId}{x y:Operand}{u:Bool}(ho:∃z,o.op=.binOp op t x y z) (hc:aG S.C nt o=some ao) (he:ah T H ao=some (v,H')):dA S H ρ w a o v H':=by
 obtain⟨z,ho⟩:=ho;simp only[aG,ho] at hc;have fin:H'=H->Ans S w S.C.P (do eqGuard op t x y (a.eval x) (a.eval y);binOp op t (a.eval x) (a.eval y)) v->dA S H ρ w a o v H':=by
  intro h1 h2;subst h1;refine CE p.H h2 ?_;simp only[execOp,ho]
 have plain:∀{x' y':Opd},aX S.C nt x=some x'->aX S.C nt y=some y'->ao=.bin op x' y'->dA S H ρ w a o v H':=by
  intro x' y' hx hy hao;subst hao;simp only[ah] at he;obtain⟨r,hr,hv⟩:=zD.1 he;simp only[zF] at hv;obtain⟨rfl,rfl⟩:=hv;exact fin rfl (GU x y (p.opd hx) (p.opd hy) hr)
 have eqs:∀{x' y':Opd} {k:EqK},(op=.eql\/op=.neq)->aX S.C nt x=some x'->aX S.C nt y=some y'->iH S.C.P t=some k->ao=.eqv k (decide (op=.neq)) x' y'->dA S H ρ w a o v H':=by
  intro x' y' k hop hx hy hk hao;subst hao;simp only[ah] at he;obtain⟨r,hr,hv⟩:=zD.1 he;simp only[zF] at hv;obtain⟨rfl,rfl⟩:=hv;exact fin rfl (JA hk (p.opd hx) (p.opd hy) hr x y op hop rfl)
 split at hc
 .rename_i x' y' hx hy;split at hc
  .rename_i hop;split at hc
   .simp at hc;exact plain hx hy hc.symm
   .simp at hc;exact plain hx hy hc.symm
   .obtain⟨k,hk,hao⟩:=zD.1 hc;exact eqs hop hx hy hk hao.symm
  .simp at hc;exact plain hx hy hc.symm
 .cases hc
theorem La (p:Pre S H ρ w nt T a) {op:UnOp}{t:TypeId}{x:Operand}(ho:o.op=.unOp op t x) (hc:aG S.C nt o=some ao) (he:ah T H ao=some (v,H')):dA S H ρ w a o v H':=by
 simp only[aG,ho] at hc;obtain⟨x',hx,rfl⟩:=zD.1 hc;simp only[ah] at he;obtain⟨r,hr,hv⟩:=zD.1 he;simp only[zF] at hv;obtain⟨rfl,rfl⟩:=hv;refine CE p.H (IM (p.opd hx) hr) ?_;simp only[execOp,ho]
theorem Fs (p:Pre S H ρ w nt T a) {c:Call}(ho:o.op=.call c) (hc:aG S.C nt o=some ao) (he:ah T H ao=some (v,H')):dA S H ρ w a o v H':=by
 simp only[aG,ho] at hc;split at hc
 case h_2=>cases hc
 rename_i xs hxs;split at hc
 .obtain⟨f,hf,rfl⟩:=zD.1 hc;simp[ah] at he
 case h_3=>cases hc
 rename_i b hcb;have hall:=p.opds hxs;have args:(c.args.map a.eval).toList=c.args.toList.map a.eval:=by simp
 have fin:∀{u:Value} {ρ' w'},aJ S H' ρ' w'->Frm H ρ w H' ρ' w'->aN S ρ' H'.n v u->(builtin b c.argTypes o.type (c.args.map fun | .const _=>true | _=>false) (c.args.map a.eval)).run S.C.P w=.ok (.value u) w'->dA S H ρ w a o v H':=by
  intro u ρ' w' h1 h2 h3 h4;refine⟨ρ',w',h1,h2,.inl ⟨u,?_,h3⟩⟩;simp only[execOp,ho,resolve,hcb,Sem.run_bind,Sem.run_pure,Result.andThen_ok,invoke];exact h4
 have one:∀{x:Opd},xs=[x]->∃u,c.args.map a.eval=#[u]/\aN S ρ H.n (x.ev T) u:=by
  intro x hx;subst hx;obtain⟨u,us,h1,h2,h3⟩:=hall.cons_inv;obtain rfl:=h3.nil_inv;exact⟨u,by rw[<- Array.toList_inj,args,h1],h2⟩
 have lst:∀{t:TypeId} {ts:List TypeId},c.argTypes.toList=t::ts->c.argTypes=(t::ts).toArray:=fun h=>by rw[<- Array.toList_inj,h]
 unfold gF at hc;split at hc
 .
  rename_i x;split at hc
  case h_2=>cases hc
  rename_i t hts;obtain⟨u,hu,hru⟩:=one rfl;have hat:=lst hts;split at hc
  .rename_i hty;simp at hc;subst hc;simp only[ah] at he;split at he <;> try (first | (rename_i hk _; cases hk) | (cases he; done))
   rename_i s hxe;simp only[zE,zF] at he;obtain⟨rfl,rfl⟩:=he;rw[hxe] at hru;have hru:u=.string ⟨s.toArray⟩:=hru;refine fin (u:=.int .i64 s.length) p.H (Frm.refl _ _ _) rfl ?_;simp only[builtin];refine bq _ _ ?_;rw[hu,hat,hru];simp[Builtin.len_,run_underlying hty,goInt,size_mk]
  .rename_i e hty;simp at hc;subst hc;simp only[ah] at he;split at he <;> try (first | (rename_i hk _; cases hk) | (cases he; done))
   .rename_i b i n hxe;simp only[zE,zF] at he;obtain⟨rfl,rfl⟩:=he;rw[hxe] at hru;obtain⟨_,ad,cap,hru,_⟩:=hru.one;refine fin (u:=.int .i64 n) p.H (Frm.refl _ _ _) rfl ?_;simp only[builtin];refine bq _ _ ?_;rw[hu,hat,hru];simp[Builtin.len_,run_underlying hty,goInt]
   .rename_i s' els hxe;simp only[zE,zF] at he;obtain⟨rfl,rfl⟩:=he;rw[hxe] at hru;have h2:=hru.one;simp only[aA,aV] at h2;obtain⟨ad,cap,hru,_⟩:=h2;refine fin (u:=.int .i64 els.length) p.H (Frm.refl _ _ _) rfl ?_;simp only[builtin];refine bq _ _ ?_;rw[hu,hat,hru];simp[Builtin.len_,run_underlying hty,goInt]
   .rename_i hxe;simp only[zE,zF] at he;obtain⟨rfl,rfl⟩:=he;rw[hxe] at hru;have hru:u=.slice none 0 0:=hru;refine fin (u:=.int .i64 0) p.H (Frm.refl _ _ _) rfl ?_;simp only[builtin];refine bq _ _ ?_;rw[hu,hat,hru];simp[Builtin.len_,run_underlying hty,goInt]
   .rename_i hxe;simp only[zE,zF] at he;obtain⟨rfl,rfl⟩:=he;rw[hxe] at hru;obtain⟨ad,hru⟩:∃ad,u=.slice ad 0 0:=hru;refine fin (u:=.int .i64 0) p.H (Frm.refl _ _ _) rfl ?_;simp only[builtin];refine bq _ _ ?_;rw[hu,hat,hru];simp[Builtin.len_,run_underlying hty,goInt]
  .rename_i kt et hty;simp at hc;subst hc;simp only[ah] at he;split at he <;> try (first | (rename_i hk _; cases hk) | (cases he; done))
   .rename_i hxe;simp only[zE,zF] at he;obtain⟨rfl,rfl⟩:=he;rw[hxe] at hru;have hru:u=.map none:=hru;refine fin (u:=.int .i64 0) p.H (Frm.refl _ _ _) rfl ?_;simp only[builtin];refine bq _ _ ?_;rw[hu,hat,hru];simp[Builtin.len_,run_underlying hty,goInt]
   .rename_i m hxe;split at he
    case h_2=>cases he
    rename_i es hob;simp only[zE,zF] at he;obtain⟨rfl,rfl⟩:=he;rw[hxe] at hru;obtain⟨hm,hru⟩:=hru.one;obtain⟨E,clk,g1,g2⟩:=DJ p.H hm hob;have hget:(getObj (ρ m).g).run S.C.P w=.ok (.map E clk) w:=by simp[getObj,Sem.run,g1]
    refine fin (u:=.int .i64 es.length) p.H (Frm.refl _ _ _) rfl ?_;simp only[builtin];refine bq _ _ ?_;rw[hu,hat,hru];have hsz:E.size=es.length:=by rw[<- Array.length_toList];exact g2.1.symm
    simp[Builtin.len_,run_underlying hty,goInt,hget,hsz]
  .cases hc
 .
  rename_i x;split at hc
  case h_2=>cases hc
  rename_i t hts;obtain⟨u,hu,hru⟩:=one rfl;have hat:=lst hts;split at hc
  .rename_i e hty;simp at hc;subst hc;simp only[ah] at he;split at he <;> try (first | (rename_i hk _; cases hk) | (cases he; done))
   .rename_i hxe;simp only[zE,zF] at he;obtain⟨rfl,rfl⟩:=he;rw[hxe] at hru;have hru:u=.slice none 0 0:=hru;refine fin (u:=.int .i64 0) p.H (Frm.refl _ _ _) rfl ?_;simp only[builtin];refine bq _ _ ?_;rw[hu,hat,hru];simp[Builtin.cap_,run_underlying hty,goInt]
   .rename_i hxe;simp only[zE,zF] at he;obtain⟨rfl,rfl⟩:=he;rw[hxe] at hru;obtain⟨ad,hru⟩:∃ad,u=.slice ad 0 0:=hru;refine fin (u:=.int .i64 0) p.H (Frm.refl _ _ _) rfl ?_;simp only[builtin];refine bq _ _ ?_;rw[hu,hat,hru];simp[Builtin.cap_,run_underlying hty,goInt]
  .cases hc
 .
  rename_i x y;split at hc
  case h_2=>cases hc
  rename_i t t' hts;have hat:=lst hts;split at hc
  case h_2=>cases hc
  rename_i e d hty hty';split at hc
  case h_2=>cases hc
  rename_i s b z hs hb hz;split at hc
  case isFalse=>cases hc
  rename_i hcond;simp only[zH,bne_iff_ne,ne_eq,beq_iff_eq] at hcond;obtain⟨⟨⟨hd,hs0⟩,hb0⟩,hzl⟩:=hcond;simp at hc;subst hc;simp only[ah] at he;obtain⟨u,us,h1,h2,h3⟩:=hall.cons_inv;obtain⟨u',us',rfl,h2',h3'⟩:=h3.cons_inv;obtain rfl:=h3'.nil_inv;have hu:c.args.map a.eval=#[u,u']:=by rw[<- Array.toList_inj,args,h1]
  obtain⟨ρ',w',r,k1,k2,k3,k4⟩:=JP (ty:=o.type) p.H hty hty' (JO hd) hs hb hz hs0 hb0 hzl h2 h2' he;refine fin k1 k2 k4 ?_;simp only[builtin];refine bq _ _ ?_;rw[hu,hat];exact k3
 case h_7=>cases hc
 .
  rename_i x;split at hc
  case h_2=>cases hc
  rename_i t hts;split at hc
  case h_2=>cases hc
  rename_i e hty;split at hc
  case h_2=>cases hc
  rename_i s z hs hz;split at hc
  case isFalse=>cases hc
  rename_i hcond;simp only[zH,bne_iff_ne,ne_eq,beq_iff_eq] at hcond;obtain⟨hs0,hzl⟩:=hcond;simp at hc;subst hc;simp only[ah] at he;obtain⟨u,hu,hru⟩:=one rfl;obtain⟨w',k1,k2,k3,rfl⟩:=BD (ty:=o.type) p.H (lst hts) hty hs hz hs0 hzl hru he;refine fin k2 k3 (show aN S _ _ (AV.tup []) (.tuple #[]) from .inr ⟨#[],rfl,ae.nil⟩) ?_;simp only[builtin];refine bq _ _ ?_;rw[hu];exact k1
 all_goals
  simp at hc;subst hc;simp only[ah] at he;split at he
  .simp at he
  .rename_i x r;obtain⟨z,hz,hv⟩:=zD.1 he;simp only[zF] at hv;obtain⟨rfl,rfl⟩:=hv;obtain⟨u,us,h1,h2,h3⟩:=hall.cons_inv;obtain⟨q,hq,hrq⟩:=qH (P:=S.C.P) (w:=w) h2 h3 hz;refine fin p.H (Frm.refl _ _ _) hrq ?_;simp only[builtin];refine bq _ _ ?_;have hu:(c.args.map a.eval).toList=u::us:=by rw[args,h1]
   first | (unfold Builtin.max_;rw[hu];exact hq) | (unfold Builtin.min_;rw[hu];exact hq)
theorem En (p:Pre S H ρ w nt T a) (hc:aG S.C nt o=some ao) (he:ah T H ao=some (v,H')):dA S H ρ w a o v H':=by
 cases ho:o.op
 case move=>exact yw p (.inl ho) hc he
 case assign=>exact yw p (.inr ho) hc he
 case pick=>exact FN p ho hc he
 case alloc=>exact Dl p ho hc he
 case box=>exact Jo p ho hc he
 case build=>exact Cw p ho hc he
 case buildSlice=>exact JC p ho hc he
 case load=>exact Gy p ho hc he
 case store=>exact EW p ho hc he
 case nilCheck=>exact JM p ho hc he
 case binOp=>exact JU (u:=true) p ⟨_,ho⟩ hc he
 case unOp=>exact La p ho hc he
 case convert=>exact He p ho hc he
 case makeFunc=>exact uN p ho hc he
 case makeSlice=>exact Ig p ho hc he
 case makeMap=>exact Dh p ho hc he
 case lookup=>exact Bc p ho hc he
 case mapUpdate=>exact rD p (.inl ho) hc he
 case insert=>exact rD p (.inr ho) hc he
 case slice=>exact Dc p ho hc he
 case fieldAddr=>exact EB p ho hc he
 case field=>exact Cg p ho hc he
 case indexAddr=>exact ER p ho hc he
 case index=>exact BG p ho hc he
 case range=>exact DD p ho hc he
 case next=>exact Ie p ho hc he
 case extract=>exact IW p ho hc he
 case call=>exact Fs p ho hc he
 all_goals (simp only[aG,ho] at hc;cases hc)
end
end Go.EA
end
