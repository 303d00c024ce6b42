/- Texts. Conditions: none. -/
import Derived.Test.YtgkhohpekfjlmaaDoorEK20
import Derived.Test.YtgkhohpekfjlmaaDoorEK25
import Derived.Test.YtgkhohpekfjlmaaDoorEBack
set_option linter.unusedVariables false
set_option linter.unusedSimpArgs false
section
namespace Go.EA
theorem tN (q s:List UInt8) (v:Int):∀(es:Mp),fe (oD es q v) s=if q=s then some v else fe es s
 | []=>by
   show (match decide (q=s) with | true=>some v | false=>none)=if q=s then some v else none
   by_cases h:q=s <;> simp[h]
 | (a,b)::es=>by
   have ih:=tN q s v es;unfold fe oD at ih ⊢;show Ty.mget .str (match decide (a=q) with | true=>(q,v)::es | false=>(a,b)::Ty.mput .str es q v) s=if q=s then some v else (match decide (a=s) with | true=>some b | false=>Ty.mget .str es s)
   by_cases h:a=q
   .subst h;simp only[decide_true];show (match decide (a=s) with | true=>some v | false=>Ty.mget .str es s)=_;by_cases h2:a=s <;> simp[h2]
   .simp only[h,decide_false];show (match decide (a=s) with | true=>some b | false=>Ty.mget .str (Ty.mput .str es q v) s)=_;rw[ih];by_cases h2:a=s
    .subst h2;simp[show ¬ q=a from fun e=>h e.symm]
    .simp[h2]
def bhs (W:Rst) (p:List Int):Rst:=p.foldl aZ W
theorem Qc (W:Rst) (p:List Int) (r:Int):bhs W (p++[r])=aZ (bhs W p) r:=by unfold bhs;rw[List.foldl_append];rfl
theorem oK {W:Rst}{p:List Int}{i:Nat}(h:i<p.length):bhs W (p.take (i+1))=aZ (bhs W (p.take i)) (p.getD i 0):=by rw[bF 0 h,Qc]
theorem lV (a b:Rst) (r:Int):aZ (a++b) r=aZ a r++aZ b r:=by unfold aZ;simp
theorem og (a b:Rst) (p:List Int):bhs (a++b) p=bhs a p++bhs b p:=by
 unfold bhs
 induction p generalizing a b with
 |nil=>rfl
 |cons r p ih=>simp only[List.foldl_cons];rw[lV,ih]
theorem rO (y:List Int):∀i,i<=y.length->bhs [y] (y.take i)=[y.drop i]
 |0,_=>rfl
 | i+1,h=>by
   rw[oK (by omega),rO y i (by omega),gu (by omega)];simp[aZ,dI]
theorem dK {l:Rst}{r:Int}{z:List Int}:z∈aZ l r↔r::z∈l:=by
 unfold aZ;constructor
 .intro h;obtain⟨x,h1,h2⟩:=List.mem_map.1 h;obtain⟨g1,h3⟩:=List.mem_filter.1 h1;cases x with
  |nil=>simp[dI] at h3
  | cons a t=>
    simp[dI] at h3;subst h3 h2;exact g1
 .intro h;exact List.mem_map.2 ⟨r::z,List.mem_filter.2 ⟨h,by simp[dI]⟩,rfl⟩
theorem Rl {W:Rst}{q z:List Int}:z∈bhs W q↔q++z∈W:=by
 induction q generalizing W with
 |nil=>exact Iff.rfl
 | cons r q ih=>
   show z∈bhs (aZ W r) q↔_;rw[ih,dK];rfl
theorem xz {W:Rst}(h:dL W) (p:List Int):dL (bhs W p):=by
 unfold bhs
 induction p generalizing W with
 |nil=>exact h
 |cons r p ih=>exact ih (pJ h r)
theorem xC:∀{a b:Rst},dL a->dL b->(∀x,x∈a↔x∈b)->a=b
 |[],[],_,_,_=>rfl
 |[],y::b,_,_,h=>by have:=(h y).2 (by simp);cases this
 |x::a,[],_,_,h=>by have:=(h x).1 (by simp);cases this
 | x::a,y::b,ha,hb,h=>by
   have ha':=List.pairwise_cons.1 ha;have hb':=List.pairwise_cons.1 hb;have e:x=y:=by
    rcases List.mem_cons.1 ((h x).1 (by simp)) with e | h1
    .exact e
    .rcases List.mem_cons.1 ((h y).2 (by simp)) with e | h2
     .exact e.symm
     .exact absurd (vP (hb'.1 x h1) (ha'.1 y h2)) kC
   subst e;refine congrArg _ (xC ha'.2 hb'.2 fun z=>⟨fun hz=>?_,fun hz=>?_⟩)
   .rcases List.mem_cons.1 ((h z).1 (by simp[hz])) with e | h1
    .subst e;exact absurd (ha'.1 z hz) kC
    .exact h1
   .rcases List.mem_cons.1 ((h z).2 (by simp[hz])) with e | h1
    .subst e;exact absurd (hb'.1 z hz) kC
    .exact h1
theorem QX {out x:List Int}{r:Int}(h:r∈out):r∈dP out x:=by
 unfold dP;split
 .exact h
 .split
  .exact h
  .simp[h]
theorem fD {l:Rst}{r:Int}{t:List Int}(h:r::t∈l):r∈aD l:=by
 unfold aD;have g:∀(l:Rst) (out:List Int),r∈out->r∈l.foldl dP out:=by
  intro l
  induction l with
  |nil=>intro out h;exact h
  |cons x l ih=>intro out h;exact ih _ (QX h)
 suffices k:∀(l:Rst) (out:List Int),r::t∈l->r∈l.foldl dP out from k l [] h
 intro l
 induction l with
 |nil=>intro out h;cases h
 | cons x l ih=>
   intro out h;rcases List.mem_cons.1 h with e | h
   .subst e;refine g l _ ?_;show r∈dP out (r::t);unfold dP;by_cases he:out.getLast?=some r
    .simp only[he,if_true];exact List.mem_of_getLast? he
    .simp only[he,if_false];simp
   .exact ih _ h
theorem Bv {a b:Rst}(ha:dL a) (hb:dL b) (he:aH a=aH b) (hh:aD a=aD b) (hn:∀r∈aD a,aZ a r=aZ b r):a=b:=by
 have hem:∀l:Rst,aH l=true↔[]∈l:=fun l=>by
  unfold aH;rw[List.any_eq_true];exact⟨fun⟨x,h1,h2⟩=>by rw[List.isEmpty_iff] at h2;subst h2;exact h1,fun h=>⟨[],h,rfl⟩⟩
 refine xC ha hb fun x=>?_
 cases x with
 |nil=>rw[<- hem,<- hem,he]
 | cons r t=>
   constructor
   .intro h;have:=hn r (fD h);exact dK.1 (this ▸ dK.2 h)
   .intro h;have:=hn r (hh ▸ fD h);exact dK.1 (this ▸ dK.2 h)
theorem qW {l:Rst}(h:dL l):(aD l).Nodup:=pU (jC h)
theorem uG {l:Rst}{r:Int}(h:aZ l r=[]):r ∉ aD l:=fun hm=>by
 obtain⟨x,h1,h2⟩:=jM hm;cases x with
 |nil=>simp[dI] at h2
 | cons a t=>
   simp[dI] at h2;subst h2;have:=dK.2 h1;rw[h] at this;cases this
theorem nS (l:Rst) (x:List Int):aD (l++[x])=dP (aD l) x:=by unfold aD;rw[List.foldl_append];rfl
theorem Jz {l:Rst}{r:Int}{t:List Int}(h:aZ l r=[]):aD (l++[r::t])=aD l++[r]:=by
 rw[nS];unfold dP;by_cases he:(aD l).getLast?=some r
 .exact absurd (List.mem_of_getLast? he) (uG h)
 .simp only[he,if_false]
theorem JF {l:Rst}{r:Int}{t:List Int}(h:(aD l).getLast?=some r):aD (l++[r::t])=aD l:=by
 rw[nS];unfold dP;simp only[h,if_true]
theorem wW {l:Rst}{r q:Int}{t:List Int}(h:q≠r):aZ (l++[r::t]) q=aZ l q:=by
 rw[lV];have:aZ [r::t] q=[]:=by
  unfold aZ;rw[List.filter_cons,if_neg (by simpa [dI] using fun e=>h e.symm)];rfl
 rw[this,List.append_nil]
theorem Pe {l:Rst}{q:Int}:aZ (l++[[]]) q=aZ l q:=by
 rw[lV];have:aZ [[]] q=[]:=by
  unfold aZ;rw[List.filter_cons,if_neg (by simp[dI])];rfl
 rw[this,List.append_nil]
theorem uq {l:Rst}{r:Int}{t:List Int}:aH (l++[r::t])=aH l:=by unfold aH;rw[List.any_append];simp
theorem IY {l:Rst}:aH (l++[[]])=true:=by unfold aH;rw[List.any_append];simp
theorem qO:∀{w x y:List Int}{k:Nat},k<=w.length->k<=y.length->w.take k=y.take k->ltR w x->ltR x y->k<=bi x y
 |_,_,_,0,_,_,_,_,_=>Nat.zero_le _
 |[],_,_,k+1,h,_,_,_,_=>by simp at h
 |_::_,_,[],k+1,_,h,_,_,_=>by simp at h
 |_::_,[],_::_,k+1,_,_,_,h,_=>False.elim h
 | a::w,b::x,c::y,k+1,h1,h2,h3,h4,h5=>by
   simp only[List.take_succ_cons,zG] at h3;obtain⟨e,h3⟩:=h3;subst e;simp only[zM] at h1 h2;rcases h4 with h4 | ⟨h4,h4'⟩
   .rcases h5 with h5 | ⟨h5,_⟩ <;> omega
   .subst h4;rcases h5 with h5 | ⟨_,h5'⟩
    .omega
    .have:=qO (by omega) (by omega) h3 h4' h5';unfold bi;rw[if_pos rfl];omega
theorem Ct:∀{x y:List Int}{k:Nat},k<=x.length->k<=y.length->x.take k=y.take k->k<=bi x y
 |_,_,0,_,_,_=>Nat.zero_le _
 |[],_,k+1,h,_,_=>by simp at h
 |_::_,[],k+1,_,h,_=>by simp at h
 | a::x,b::y,k+1,h1,h2,h3=>by
   simp only[List.take_succ_cons,zG] at h3;obtain⟨e,h3⟩:=h3;subst e;simp only[zM] at h1 h2;have:=Ct (show k<=x.length by omega) (show k<=y.length by omega) h3;unfold bi;rw[if_pos rfl];omega
theorem qh:∀(x y:List Int),bi x y<=x.length/\bi x y<=y.length/\x.take (bi x y)=y.take (bi x y)
 |[],_=>by simp[bi]
 |_::_,[]=>by simp[bi]
 | a::x,b::y=>by
   unfold bi;split
   .rename_i e;subst e;obtain⟨h1,h2,h3⟩:=qh x y;refine⟨by rw[zM];omega,by rw[zM];omega,?_⟩;rw[List.take_succ_cons,List.take_succ_cons,h3]
   .simp
theorem Nl {W:Rst}{x y:List Int}(hs:dL (W++[y])) (hx:W.getLast?=some x\/W=[]) {m:Nat}(hm:bi x y<=m) (hy:m<y.length):bhs W (y.take (m+1))=[]:=by
 rcases hx with hx | rfl
 .refine List.eq_nil_iff_forall_not_mem.2 fun z hz=>?_
  have hw:=Rl.1 hz;obtain⟨V,rfl⟩:=List.getLast?_eq_some_iff.1 hx;have hs1:=List.pairwise_append.1 hs;have hxy:ltR x y:=hs1.2.2 x (by simp) y (by simp);have ht:(y.take (m+1)++z).take (m+1)=y.take (m+1):=by
   rw[List.take_append_of_le_length (by rw[zP];omega),List.take_take,Nat.min_self]
  have hl:m+1<=(y.take (m+1)++z).length:=by rw[zL,zP];omega
  generalize y.take (m+1)++z=w at hw ht hl;rcases zX.1 hw with hw | hw
  .have hwx:ltR w x:=(List.pairwise_append.1 hs1.1).2.2 w hw x (by simp);have:=qO hl (by omega) ht hwx hxy;omega
  .rw[List.mem_singleton.1 hw] at ht hl;have:=Ct hl (by omega) ht;omega
 .have:∀p:List Int,bhs [] p=[]:=fun p=>by
   unfold bhs
   induction p with
   |nil=>rfl
   |cons r p ih=>exact ih
  exact this _
def dgU (n:Int):List UInt8:=(lY n).map fun z=>UInt8.ofNat z.toNat
theorem Ec {n:Int}(h:0<=n):128<=dgB n/\dgB n<256/\dgB n=n % 128+128:=by
 unfold dgB;rw[Int.tmod_eq_emod_of_nonneg h];omega
theorem Lv {a b:Int}(ha:128<=a/\a<256) (hb:128<=b/\b<256) (h:UInt8.ofNat a.toNat=UInt8.ofNat b.toNat):a=b:=by
 have:=congrArg UInt8.toNat h;simp only[UInt8.toNat_ofNat'] at this;omega
theorem Pk {a:Int}(ha:128<=a/\a<256):UInt8.ofNat a.toNat≠0:=fun h=>by
 have:=congrArg UInt8.toNat h;simp only[UInt8.toNat_ofNat'] at this
 change _=0 at this
 omega
theorem oq {n:Int}(h:n<128):dgU n=[UInt8.ofNat (dgB n).toNat]:=by unfold dgU;rw[BI h];rfl
theorem lH {n:Int}(h:¬ n<128):dgU n=UInt8.ofNat (dgB n).toNat::dgU (n.tdiv 128):=by unfold dgU;rw[vQ h];rfl
theorem Lg (n:Int) (h:0<=n):∃a t,dgU n=a::t/\a≠0:=by
 have hb:=Ec h;by_cases h1:n<128
 .exact⟨_,_,oq h1,Pk ⟨hb.1,hb.2.1⟩⟩
 .exact⟨_,_,lH h1,Pk ⟨hb.1,hb.2.1⟩⟩
theorem Fq:∀(k:Nat) {n m:Int}{A B:List UInt8},n.toNat<k->0<=n->0<=m->dgU n++0::A=dgU m++0::B->n=m/\A=B
 |0,n,m,A,B,hk,_,_,_=>by omega
 | k+1,n,m,A,B,hk,hn,hm,h=>by
   have bn:=Ec hn;have bm:=Ec hm;by_cases h1:n<128 <;> by_cases h2:m<128
   .rw[oq h1,oq h2] at h;simp only[List.cons_append,List.nil_append,zG,true_and] at h;have:=Lv ⟨bn.1,bn.2.1⟩ ⟨bm.1,bm.2.1⟩ h.1;exact⟨by omega,h.2⟩
   .rw[oq h1,lH h2] at h;simp only[List.cons_append,List.nil_append,zG] at h;obtain⟨a,t,e,ha⟩:=Lg (m.tdiv 128) (kR h2).1;rw[e] at h;simp only[List.cons_append,zG] at h;exact absurd h.2.1.symm ha
   .rw[lH h1,oq h2] at h;simp only[List.cons_append,List.nil_append,zG] at h;obtain⟨a,t,e,ha⟩:=Lg (n.tdiv 128) (kR h1).1;rw[e] at h;simp only[List.cons_append,zG] at h;exact absurd h.2.1 ha
   .rw[lH h1,lH h2] at h;simp only[List.cons_append,zG] at h;have e1:=Lv ⟨bn.1,bn.2.1⟩ ⟨bm.1,bm.2.1⟩ h.1;have tn:=kR h1;have tm:=kR h2;obtain⟨e2,e3⟩:=Fq k (by omega) tn.1 tm.1 h.2;rw[Int.tdiv_eq_ediv_of_nonneg hn,Int.tdiv_eq_ediv_of_nonneg hm] at e2;exact⟨by omega,e3⟩
theorem NF {r q:Int}{A B:List UInt8}(hr:Utf8.valid r=true) (hq:Utf8.valid q=true) (h:jd r++A=jd q++B):r=q/\A=B:=by
 have h1:=pQ hr A;rw[h,pQ hq B] at h1;simp only[zG,zF,and_true] at h1;have e:=h1.1;subst e;exact⟨rfl,List.append_cancel_left h⟩
def xN (out:List Ed):List UInt8:=out.flatMap fun e=>jd e.1++dgU e.2++[0]
theorem Fw (out:List Ed) (b:Bool):jY out b=(if b then 43 else 45)::xN out:=by
 unfold jY lc xN;rw[zK,List.map_flatMap]
 congr 1
 .cases b <;> rfl
 .congr 1
  funext e
  unfold Hq dgU;rw[List.map_append,List.map_append,unB];rfl
theorem mR (e:Ed) (out:List Ed):xN (e::out)=jd e.1++(dgU e.2++0::xN out):=by
 unfold xN;simp[List.flatMap_cons,zO]
theorem Bf:∀{a b:List Ed},OkE a->OkE b->xN a=xN b->a=b
 |[],[],_,_,_=>rfl
 | [],e::b,_,_,h=>by
   rw[mR] at h;have:=congrArg List.length h;simp only[zL,zM] at this;simp[xN] at this
 | e::a,[],_,_,h=>by
   rw[mR] at h;have:=congrArg List.length h;simp only[zL,zM] at this;simp[xN] at this
 | (r,n)::a,(q,m)::b,ha,hb,h=>by
   rw[mR,mR] at h;have h1:=ha _ (List.mem_cons_self ..);have h2:=hb _ (List.mem_cons_self ..);obtain⟨e1,h⟩:=NF h1.1 h2.1 h;obtain⟨e2,h⟩:=Fq _ (Nat.lt_succ_self _) h1.2.1 h2.2.1 h;have:=Bf (fun e he=>ha e (List.mem_cons_of_mem _ he)) (fun e he=>hb e (List.mem_cons_of_mem _ he)) h;dsimp only at e1 e2;rw[e1,e2,this]
theorem Mr {a b:List Ed}{s t:Bool}(ha:OkE a) (hb:OkE b) (h:jY a s=jY b t):a=b/\s=t:=by
 rw[Fw,Fw] at h;simp only[zG] at h;refine⟨Bf ha hb h.2,?_⟩;cases s <;> cases t <;> first | rfl | (exact absurd h.1 (by decide))
end Go.EA
end
section
namespace Go.EA
theorem rX (D:List StD) (i j:Nat) (s:StD) (hi:i<D.length):stA (D.set i s) j=if i=j then s else stA D j:=by
 unfold stA;rw[zA,zA,List.getElem?_set];by_cases h:i=j
 .subst h;rw[if_pos rfl,if_pos rfl,if_pos hi];rfl
 .rw[if_neg h,if_neg h]
theorem rY (D:List StD) (s:StD) {j:Nat}(h:j<D.length):stA (D++[s]) j=stA D j:=by
 unfold stA;rw[zA,zA,zV h]
theorem Cb (D:List StD) (s:StD):stA (D++[s]) D.length=s:=ig D s _
theorem cu {l:List Int}{k i:Nat}(h:i<k):(l.take k).getD i 0=l.getD i 0:=by
 rw[zA,zA,List.getElem?_take_of_lt h]
theorem eY {l:List Int}{i:Nat}(h:i<l.length):l.getD i 0∈l:=by
 rw[zA,zB h];exact List.getElem_mem _
def Tg (f:Int->Rst) (M:Mp) (lab:Rst) (e:Ed):Prop:=(∃k,fe M k=some e.2)/\f e.2=aZ lab e.1
def Lc (f:Int->Rst) (M:Mp) (s:StD) (lab:Rst):Prop:=s.2.1=aH lab/\s.1.map (·.1)=aD lab/\∀e∈s.1,Tg f M lab e
def Po (f:Int->Rst) (M:Mp) (s:StD) (lab:Rst) (r to:Int):Prop:=s.2.1=aH lab/\s.1.map (·.1)=aD lab/\∃init,s.1=init++[(r,to)]/\∀e∈init,Tg f M lab e
structure PI0 (f:Int->Rst) (T:Nat) (L:Nat->Rst) (le:Rst) (p:List Int) (D:List StD) (M:Mp) (path:List Int):Prop where
 len:path.length=p.length+1
 p0:path.getD 0 0=0
 bd:∀i,i<path.length->0<=path.getD i 0/\path.getD i 0<D.length
 inc:∀i j,i<j->j<path.length->path.getD i 0<path.getD j 0
 sm:D.length<=8388608
 mp:∀k v,fe M k=some v->0<=v/\v<D.length/\v ∉ path/\jY (stA D v.toNat).1 (stA D v.toNat).2.1=k
 ok:∀i,OkE (stA D i).1
 fr:∀k v,fe M k=some v->Lc f M (stA D v.toNat) (f v)/\dL (f v)/\tot (f v)<T
 pth:∀i,i<p.length->Po f M (stA D (path.getD i 0).toNat) (L i) (p.getD i 0) (path.getD (i+1) 0)
 last:Lc f M (stA D (path.getD p.length 0).toNat) le
theorem PI0.free {f:Int->Rst}{T:Nat}{L:Nat->Rst}{le:Rst}{p:List Int}{D:List StD}{M:Mp}{path:List Int}(h:PI0 f T L le p D M path) {k:List UInt8}{v:Int}(hv:fe M k=some v) {i:Nat}(hi:i<path.length):(path.getD i 0).toNat≠v.toNat:=fun e=>by
 obtain⟨h1,h2,h3,_⟩:=h.mp k v hv;have h4:=(h.bd i hi).1;exact h3 ((by omega:path.getD i 0=v) ▸ eY hi)
theorem PI0.apart {f:Int->Rst}{T:Nat}{L:Nat->Rst}{le:Rst}{p:List Int}{D:List StD}{M:Mp}{path:List Int}(h:PI0 f T L le p D M path) {i j:Nat}(hij:i<j) (hj:j<path.length):(path.getD i 0).toNat≠(path.getD j 0).toNat:=fun e=>by
 have h1:=h.inc i j hij hj;have h2:=(h.bd i (by omega)).1;have h3:=(h.bd j hj).1;omega
theorem TH {path:List Int}{m:Nat}(h:∀i j,i<j->j<path.length->path.getD i 0<path.getD j 0) (hm:m<path.length):path.getD m 0 ∉ path.take m:=fun hi=>by
 obtain⟨i,hi,e⟩:=List.getElem_of_mem hi;rw[zP] at hi;have:=h i m (by omega) hm;rw[List.getElem_take] at e;rw[zA,zB (by omega)] at this;simp only[Option.getD_some] at this;omega
theorem Lc.same {f:Int->Rst}{M:Mp}{s:StD}{a b:Rst}(ha:dL a) (hb:dL b) (h1:Lc f M s a) (h2:Lc f M s b):a=b:=by
 refine Bv ha hb (h1.1.symm.trans h2.1) (h1.2.1.symm.trans h2.2.1) fun r hr=>?_
 rw[<- h1.2.1] at hr;obtain⟨e,he,rfl⟩:=List.mem_map.1 hr;exact(h1.2.2 e he).2.symm.trans (h2.2.2 e he).2
theorem Lc.congr {f:Int->Rst}{M:Mp}{s t:StD}{a:Rst}(h:Lc f M s a) (h1:t.1=s.1) (h2:t.2.1=s.2.1):Lc f M t a:=by
 unfold Lc at *;rw[h1,h2];exact h
theorem GI (init:List Ed) (x y:Ed):(init++[x]).set ((init++[x]).length-1) y=init++[y]:=by
 rw[show (init++[x]).length-1=init.length by simp];exact KC ..
theorem yf (init:List Ed) (x d:Ed):(init++[x]).getD ((init++[x]).length-1) d=x:=by
 rw[show (init++[x]).length-1=init.length by simp];exact ig ..
theorem PI0.found {f:Int->Rst}{T:Nat}{L:Nat->Rst}{le:Rst}{p:List Int}{D:List StD}{M:Mp}{path:List Int}(h:PI0 f T L le p D M path) {m:Nat}(hm:p.length=m+1)
 (hL:le=aZ (L m) (p.getD m 0)) (hs:dL le) {v:Int} (hv:fe M (jY (stA D (path.getD (m+1) 0).toNat).1 (stA D (path.getD (m+1) 0).toNat).2.1)=some v) :
 PI0 f T L (L m) (p.take m) (pI D (path.getD m 0).toNat v) M (path.take (m+1)):=by
 have hlen:=h.len;have hb:=h.bd m (by omega);have hpl:(p.take m).length=m:=by rw[zP];omega
 have hDl:(pI D (path.getD m 0).toNat v).length=D.length:=by unfold pI;rw[List.length_set]
 have hst:∀j,stA (pI D (path.getD m 0).toNat v) j=if (path.getD m 0).toNat=j then _ else stA D j:=fun j=>rX D _ j _ (by omega)
 obtain⟨q1,q2,init,q3,q4⟩:=h.pth m (by omega);obtain⟨v0,v1,v2,v3⟩:=h.mp _ _ hv;have hlast:=h.last;rw[hm] at hlast;have hfv:f v=le:=by
  obtain⟨g1,g2,_⟩:=h.fr _ _ hv;obtain⟨e1,e2⟩:=Mr (h.ok _) (h.ok _) v3;exact Lc.same g2 hs g1 (hlast.congr e1 e2)
 refine⟨by rw[zP,hpl];omega,by rw[cu (by omega)];exact h.p0,fun i hi=>?_,fun i j hij hj=>?_,by rw[hDl];exact h.sm,fun k w hw=>?_,fun i=>?_,fun k w hw=>?_,fun i hi=>?_,?_⟩
 .rw[zP] at hi;rw[cu (by omega),hDl];exact h.bd i (by omega)
 .rw[zP] at hj;rw[cu (by omega),cu (by omega)];exact h.inc i j hij (by omega)
 .obtain⟨w0,w1,w2,w3⟩:=h.mp k w hw;rw[hst,if_neg (h.free hw (by omega)),hDl];exact⟨w0,w1,fun hc=>w2 (List.mem_of_mem_take hc),w3⟩
 .rw[hst];split
  .intro e he;rcases List.mem_or_eq_of_mem_set he with he | he
   .exact h.ok _ e he
   .rw[he,q3,yf];have h4:=h.ok (path.getD m 0).toNat (p.getD m 0,path.getD (m+1) 0) (by rw[q3];simp);have h5:=h.sm;exact⟨h4.1,v0,by show v<=_;omega⟩
  .exact h.ok i
 .rw[hst,if_neg (h.free hw (by omega))];exact h.fr k w hw
 .rw[hpl] at hi;rw[cu (by omega),cu (by omega),cu (by omega),hst,if_neg (fun e=>h.apart hi (by omega) e.symm)];exact h.pth i (by omega)
 .rw[hpl,cu (by omega),hst,if_pos rfl];refine⟨q1,?_,?_⟩
  .show List.map _ (List.set _ _ _)=_;rw[q3,GI,yf,<- q2,q3];simp
  .show ∀e∈List.set _ _ _,_;rw[q3,GI,yf];intro e he;rcases zX.1 he with he | he
   .exact q4 e he
   .rw[List.mem_singleton.1 he];exact⟨⟨_,hv⟩,hfv.trans hL⟩
theorem PI0.fresh {f:Int->Rst}{T:Nat}{L:Nat->Rst}{le:Rst}{p:List Int}{D:List StD}{M:Mp}{path:List Int}(h:PI0 f T L le p D M path) {m:Nat}(hm:p.length=m+1)
 (hL:le=aZ (L m) (p.getD m 0)) (hs:dL le) (ht:tot le<T) (hv:fe M (jY (stA D (path.getD (m+1) 0).toNat).1 (stA D (path.getD (m+1) 0).toNat).2.1)=none) :
 PI0 (fun z=>if z=path.getD (m+1) 0 then le else f z) T L (L m) (p.take m) D (oD M (jY (stA D (path.getD (m+1) 0).toNat).1 (stA D (path.getD (m+1) 0).toNat).2.1) (path.getD (m+1) 0)) (path.take (m+1)):=by
 have hlen:=h.len;have hpl:(p.take m).length=m:=by rw[zP];omega
 have hlast:=h.last;rw[hm] at hlast;obtain⟨q1,q2,init,q3,q4⟩:=h.pth m (by omega);generalize hK:jY (stA D (path.getD (m+1) 0).toNat).1 (stA D (path.getD (m+1) 0).toNat).2.1=K at hv ⊢;have hb:=h.bd (m+1) (by omega);have hne:∀{k v},fe M k=some v->v≠path.getD (m+1) 0:=fun hv e=>(h.mp _ _ hv).2.2.1 (e ▸ eY (by omega))
 have hlift:∀{lab e},Tg f M lab e->Tg (fun z=>if z=path.getD (m+1) 0 then le else f z) (oD M K (path.getD (m+1) 0)) lab e:=fun {lab e} ⟨⟨k,hk⟩,he⟩=>by
  refine⟨⟨k,?_⟩,?_⟩
  .rw[tN,if_neg (fun e=>by rw[e,hk] at hv;cases hv)];exact hk
  .dsimp only;rw[if_neg (hne hk)];exact he
 have hnew:Tg (fun z=>if z=path.getD (m+1) 0 then le else f z) (oD M K (path.getD (m+1) 0)) (L m) (p.getD m 0,path.getD (m+1) 0):=
  ⟨⟨K,by rw[tN,if_pos rfl]⟩,by dsimp only;rw[if_pos rfl];exact hL⟩
 refine⟨by rw[zP,hpl];omega,by rw[cu (by omega)];exact h.p0,fun i hi=>?_,fun i j hij hj=>?_,h.sm,fun k w hw=>?_,h.ok,fun k w hw=>?_,fun i hi=>?_,?_⟩
 .rw[zP] at hi;rw[cu (by omega)];exact h.bd i (by omega)
 .rw[zP] at hj;rw[cu (by omega),cu (by omega)];exact h.inc i j hij (by omega)
 .rw[tN] at hw;split at hw
  .rename_i e;cases hw;exact⟨hb.1,hb.2,TH h.inc (by omega),hK.trans e⟩
  .obtain⟨w0,w1,w2,w3⟩:=h.mp k w hw;exact⟨w0,w1,fun hc=>w2 (List.mem_of_mem_take hc),w3⟩
 .rw[tN] at hw;split at hw
  .cases hw;rw[if_pos rfl];exact⟨⟨hlast.1,hlast.2.1,fun e he=>hlift (hlast.2.2 e he)⟩,hs,ht⟩
  .rw[if_neg (hne hw)];obtain⟨g1,g2⟩:=h.fr k w hw;exact⟨⟨g1.1,g1.2.1,fun e he=>hlift (g1.2.2 e he)⟩,g2⟩
 .rw[hpl] at hi;rw[cu (by omega),cu (by omega),cu (by omega)];obtain⟨r1,r2,ini,r3,r4⟩:=h.pth i (by omega);exact⟨r1,r2,ini,r3,fun e he=>hlift (r4 e he)⟩
 .rw[hpl,cu (by omega)];refine⟨q1,q2,?_⟩;rw[q3];intro e he;rcases zX.1 he with he | he
  .exact hlift (q4 e he)
  .rw[List.mem_singleton.1 he];exact hnew
theorem PI0.chain {f:Int->Rst}{T:Nat}{L:Nat->Rst}{le:Rst}{p:List Int}{D:List StD}{M:Mp}{path:List Int}(h:PI0 f T L le p D M path) {r:Int}{t:List Int}(hr:Utf8.valid r=true) (hd:D.length<8388608) (hn:aZ le r=[]) (hL:L p.length=le++[r::t]) :
 PI0 f T L [] (p++[r]) (chS (D,path) r).1 M (chS (D,path) r).2:=by
 have hlen:=h.len;have hb:=h.bd p.length (by omega);have hlast:=h.last;have e0:path.getD (path.length-1) 0=path.getD p.length 0:=by rw[hlen];rfl
 unfold chS;dsimp only;rw[e0];have hs0:stA (D++[([],false,0)]) (path.getD p.length 0).toNat=stA D (path.getD p.length 0).toNat:=rY _ _ (by omega);rw[hs0];generalize hD':(D++[([],false,0)]).set (path.getD p.length 0).toNat ((stA D (path.getD p.length 0).toNat).1++[(r,(D.length:Int))],(stA D (path.getD p.length 0).toNat).2)=D';have hDl:D'.length=D.length+1:=by rw[<- hD',List.length_set,zL];rfl
 have hst:∀j,stA D' j=if (path.getD p.length 0).toNat=j then ((stA D (path.getD p.length 0).toNat).1++[(r,(D.length:Int))],(stA D (path.getD p.length 0).toNat).2) else stA (D++[([],false,0)]) j:=fun j=>by
  rw[<- hD'];exact rX _ _ j _ (by rw[zL];omega)
 have hold:∀j,j<D.length->(path.getD p.length 0).toNat≠j->stA D' j=stA D j:=fun j hj hne=>by rw[hst,if_neg hne,rY _ _ hj]
 have hpa:∀i,i<path.length->(path++[(D.length:Int)]).getD i 0=path.getD i 0:=fun i hi=>by
  rw[zA,zA,zV hi]
 have hpl:(path++[(D.length:Int)]).getD (p.length+1) 0=D.length:=by rw[<- hlen];exact ig ..
 refine⟨by simp[hlen],by rw[hpa 0 (by omega)];exact h.p0,fun i hi=>?_,fun i j hij hj=>?_,by omega,fun k w hw=>?_,fun i=>?_,fun k w hw=>?_,fun i hi=>?_,?_⟩
 .rw[zL,zN] at hi;by_cases h1:i<path.length
  .rw[hpa i h1,hDl];have:=h.bd i h1;push_cast;omega
  .obtain rfl:i=p.length+1:=by omega
   rw[hpl,hDl];push_cast;omega
 .rw[zL,zN] at hj;by_cases h1:j<path.length
  .rw[hpa i (by omega),hpa j h1];exact h.inc i j hij h1
  .obtain rfl:j=p.length+1:=by omega
   rw[hpl,hpa i (by omega)];exact(h.bd i (by omega)).2
 .obtain⟨w0,w1,w2,w3⟩:=h.mp k w hw;rw[hold _ (by omega) (h.free hw (by omega)),hDl];refine⟨w0,by push_cast;omega,fun hc=>?_,w3⟩;rcases zX.1 hc with hc | hc
  .exact w2 hc
  .have:=List.mem_singleton.1 hc;omega
 .rw[hst];split
  .intro e he;rcases zX.1 he with he | he
   .exact h.ok _ e he
   .rw[List.mem_singleton.1 he];exact⟨hr,by dsimp only;omega,by dsimp only;omega⟩
  .by_cases h1:i<D.length
   .rw[rY _ _ h1];exact h.ok i
   .by_cases h2:i=D.length
    .rw[h2,Cb];intro e he;cases he
    .unfold stA;rw[zA,List.getElem?_eq_none (by rw[zL,zN];omega)];intro e he;cases he
 .obtain⟨w0,w1,_⟩:=h.mp k w hw;rw[hold _ (by omega) (h.free hw (by omega))];exact h.fr k w hw
 .rw[zL,zN] at hi;by_cases h1:i<p.length
  .rw[hpa i (by omega),hpa (i+1) (by omega)];have e:(p++[r]).getD i 0=p.getD i 0:=by rw[zA,zA,zV h1]
   have hbi:=h.bd i (by omega);rw[e,hold _ (by omega) (fun e=>h.apart h1 (by omega) e.symm)];exact h.pth i h1
  .obtain rfl:i=p.length:=by omega
   rw[hpa _ (by omega),hpl,ig,hst,if_pos rfl,hL];refine⟨?_,?_,_,rfl,fun e he=>?_⟩
   .rw[uq];exact hlast.1
   .dsimp only;rw[List.map_append,hlast.2.1,Jz hn];rfl
   .obtain⟨g1,g2⟩:=hlast.2.2 e he;have hne:e.1≠r:=fun e'=>uG hn (by rw[<- hlast.2.1,<- e'];exact List.mem_map_of_mem he)
    exact⟨g1,by rw[wW hne];exact g2⟩
 .rw[zL,zN,hpl];rw[hst,if_neg (by omega),Int.toNat_natCast,Cb];exact⟨rfl,rfl,fun e he=>by cases he⟩
theorem PI0.turn {f:Int->Rst}{T T':Nat}{L L':Nat->Rst}{le:Rst}{p:List Int}{D:List StD}{M:Mp}{path:List Int}(h:PI0 f T L le p D M path) (hT:T<=T') (hs:∀i,i<p.length->dL (L i)) (hL:∀i,i<p.length->∃t,L' i=L i++[p.getD i 0::t]):PI0 f T' L' le p D M path:=by
 refine⟨h.len,h.p0,h.bd,h.inc,h.sm,h.mp,h.ok,fun k w hw=>?_,fun i hi=>?_,h.last⟩
 .obtain⟨g1,g2,g3⟩:=h.fr k w hw;exact⟨g1,g2,by omega⟩
 .obtain⟨q1,q2,init,q3,q4⟩:=h.pth i hi;obtain⟨t,e⟩:=hL i hi;have hla:(aD (L i)).getLast?=some (p.getD i 0):=by rw[<- q2,q3];simp
  have hnd:=qW (hs i hi);rw[<- q2,q3,List.map_append] at hnd;rw[e];refine⟨q1.trans uq.symm,q2.trans (JF hla).symm,init,q3,fun a ha=>?_⟩;obtain⟨g1,g2⟩:=q4 a ha;have hne:a.1≠p.getD i 0:=fun e'=>(List.nodup_append.1 hnd).2.2 a.1 (List.mem_map_of_mem ha) (p.getD i 0) (by simp) e'
  exact⟨g1,by rw[wW hne];exact g2⟩
theorem PI0.ends {f:Int->Rst}{T:Nat}{L:Nat->Rst}{le:Rst}{p:List Int}{D:List StD}{M:Mp}{path:List Int}(h:PI0 f T L le p D M path):PI0 f T L (le++[[]]) p (nD D (path.getD p.length 0).toNat) M path:=by
 have hlen:=h.len;have hb:=h.bd p.length (by omega);have hlast:=h.last;have hDl:(nD D (path.getD p.length 0).toNat).length=D.length:=by unfold nD;rw[List.length_set]
 have hst:∀j,stA (nD D (path.getD p.length 0).toNat) j=if (path.getD p.length 0).toNat=j then _ else stA D j:=fun j=>rX D _ j _ (by omega)
 refine⟨h.len,h.p0,by rw[hDl];exact h.bd,h.inc,by rw[hDl];exact h.sm,fun k w hw=>?_,fun i=>?_,fun k w hw=>?_,fun i hi=>?_,?_⟩
 .rw[hst,if_neg (h.free hw (by omega)),hDl];exact h.mp k w hw
 .rw[hst];split
  .exact h.ok _
  .exact h.ok i
 .rw[hst,if_neg (h.free hw (by omega))];exact h.fr k w hw
 .rw[hst,if_neg (fun e=>h.apart hi (by omega) e.symm)];exact h.pth i hi
 .rw[hst,if_pos rfl];refine⟨IY.symm,hlast.2.1.trans ?_,fun e he=>?_⟩
  .rw[nS];rfl
  .obtain⟨g1,g2⟩:=hlast.2.2 e he;exact⟨g1,by rw[Pe];exact g2⟩
end Go.EA
end
section
namespace Go.EA
theorem PI0.congr {f:Int->Rst}{T:Nat}{L L':Nat->Rst}{le:Rst}{p:List Int}{D:List StD}{M:Mp}{path:List Int}(h:PI0 f T L le p D M path) (hL:∀i,i<p.length->L i=L' i):PI0 f T L' le p D M path:=
 ⟨h.len,h.p0,h.bd,h.inc,h.sm,h.mp,h.ok,h.fr,fun i hi=>hL i hi ▸ h.pth i hi,h.last⟩
theorem PI0.tot {f:Int->Rst}{T:Nat}{L:Nat->Rst}{le:Rst}{p:List Int}{D:List StD}{M:Mp}{path:List Int}(h:PI0 f T L le p D M path) (hL:∀i,i<p.length->L (i+1)=aZ (L i) (p.getD i 0)):∀i,i<p.length->EA.tot (L (i+1))<EA.tot (L 0):=by
 have hs:∀i,i<p.length->EA.tot (L (i+1))<EA.tot (L i):=fun i hi=>by
  obtain⟨q1,q2,init,q3,q4⟩:=h.pth i hi;rw[hL i hi];refine iA ?_;rw[<- q2,q3];simp
 intro i
 induction i with
 |zero=>exact hs 0
 |succ i ih=>intro hi;have:=ih (by omega);have:=hs (i+1) hi;omega
def MkI (W:Rst) (p:List Int) (D:List StD) (M:Mp) (path:List Int):Prop:=∃f,PI0 f (tot W) (fun i=>bhs W (p.take i)) (bhs W p) p D M path
def kyA (D:List StD) (i:Int):List UInt8:=jY (stA D i.toNat).1 (stA D i.toNat).2.1
theorem MkI.step {W:Rst}{p:List Int}{D:List StD}{M:Mp}{path:List Int}(hs:dL W) (h:MkI W p D M path) {m:Nat}(hm:p.length=m+1) :
 (∀v,fe M (kyA D (path.getD (m+1) 0))=some v->MkI W (p.take m) (pI D (path.getD m 0).toNat v) M (path.take (m+1)))/\
 (fe M (kyA D (path.getD (m+1) 0))=none->MkI W (p.take m) D (oD M (kyA D (path.getD (m+1) 0)) (path.getD (m+1) 0)) (path.take (m+1))):=by
 obtain⟨f,h⟩:=h;have hL:bhs W p=aZ (bhs W (p.take m)) (p.getD m 0):=by
  rw[<- oK (by omega),List.take_of_length_le (by omega)]
 have hc:∀i,i<(p.take m).length->bhs W (p.take i)=bhs W ((p.take m).take i):=fun i hi=>by
  rw[zP] at hi;rw[List.take_take,Nat.min_eq_left (by omega)]
 refine⟨fun v hv=>⟨f,(h.found (L:=fun i=>bhs W (p.take i)) hm hL (xz hs p) hv).congr hc⟩,fun hv=>⟨_,(h.fresh (L:=fun i=>bhs W (p.take i)) hm hL (xz hs p) ?_ hv).congr hc⟩⟩;have:=h.tot (fun i hi=>oK hi) m (by omega);rw[List.take_of_length_le (show p.length<=m+1 by omega)] at this;exact this
theorem yM (W:Rst) (p:List Int):(bhs W p).length<=W.length:=by
 unfold bhs
 induction p generalizing W with
 |nil=>exact zJ _
 |cons r p ih=>exact Nat.le_trans (ih (aZ W r)) (Fz W r)
theorem MkI.at {W:Rst}{p:List Int}{D:List StD}{M:Mp}{path:List Int}(h:MkI W p D M path) (hw:W.length<=1048576) :
 path.length=p.length+1/\(∀i,i<path.length->0<=path.getD i 0/\path.getD i 0<D.length)/\(stA D (path.getD p.length 0).toNat).1.length<=1048576/\(∀i,OkE (stA D i).1)/\(∀i,i<p.length->0<(stA D (path.getD i 0).toNat).1.length/\(stA D (path.getD i 0).toNat).1.length<=1048576)/\path.getD 0 0=0:=by
 obtain⟨f,h⟩:=h;refine⟨h.len,h.bd,?_,h.ok,fun i hi=>?_,h.p0⟩
 .have h1:=congrArg List.length h.last.2.1;rw[zR] at h1;have h2:=iq (bhs W p);have h3:=yM W p;omega
 .obtain⟨_,q2,init,q3,_⟩:=h.pth i hi;refine⟨by rw[q3];simp,?_⟩;have h1:=congrArg List.length q2;rw[zR] at h1;have h2:=iq (bhs W (p.take i));have h3:=yM W (p.take i);omega
def FzR (D0:List StD) (M0:Mp) (l3:List Int) (n dp:Nat) (s:Nat×List StD×Mp):Prop:=
 (s.1=0\/s.1+dp+1<=n)/\s.2.1.length=D0.length/\∀W p,dL W->n<=l3.length->MkI W p D0 M0 (l3.take n)->MkI W (p.take (n-1-s.1)) s.2.1 s.2.2 (l3.take (n-s.1))
theorem FzR.zero (D0:List StD) (M0:Mp) (l3:List Int) (n dp:Nat):FzR D0 M0 l3 n dp (0,D0,M0):=by
 refine⟨.inl rfl,rfl,fun W p hs hn h=>?_⟩;have hl:(l3.take n).length=p.length+1:=h.elim fun f h=>h.len
 rw[zP] at hl;dsimp only;rw[List.take_of_length_le (show p.length<=n-1-0 by omega)];exact h
theorem FzR.step {D0:List StD}{M0:Mp}{l3:List Int}{n dp j:Nat}{D:List StD}{M:Mp}(h:FzR D0 M0 l3 n dp (j,D,M)) (hj:dp+1<n-j) :
 (∀v,fe M (kyA D (l3.getD (n-j-1) 0))=some v->FzR D0 M0 l3 n dp (j+1,pI D (l3.getD (n-j-2) 0).toNat v,M))/\
 (fe M (kyA D (l3.getD (n-j-1) 0))=none->FzR D0 M0 l3 n dp (j+1,D,oD M (kyA D (l3.getD (n-j-1) 0)) (l3.getD (n-j-1) 0))):=by
 obtain⟨h1,h2,h3⟩:=h;dsimp only at h1 h2 h3;have key:∀W p,dL W->n<=l3.length->MkI W p D0 M0 (l3.take n)->(p.take (n-1-j)).length=(n-j-2)+1/\(∀q:List Int,q.take (n-1-(j+1))=(q.take (n-1-j)).take (n-j-2))/\l3.take (n-(j+1))=(l3.take (n-j)).take (n-j-2+1)/\(l3.take (n-j)).getD (n-j-2+1) 0=l3.getD (n-j-1) 0/\(l3.take (n-j)).getD (n-j-2) 0=l3.getD (n-j-2) 0:=fun W p hs hn h=>by
  have hl:(l3.take n).length=p.length+1:=h.elim fun f h=>h.len
  rw[zP] at hl;refine⟨by rw[zP];omega,fun q=>by rw[List.take_take];congr 1;omega,by rw[List.take_take];congr 1;omega,?_,cu (by omega)⟩;rw[show n-j-2+1=n-j-1 by omega];exact cu (by omega)
 refine⟨fun v hv=>⟨.inr (by dsimp only;omega),?_,fun W p hs hn h=>?_⟩,fun hv=>⟨.inr (by dsimp only;omega),h2,fun W p hs hn h=>?_⟩⟩
 .dsimp only;unfold pI;rw[List.length_set];exact h2
 .obtain⟨k1,k2,k3,k4,k5⟩:=key W p hs hn h;have:=(h3 W p hs hn h).step hs k1;dsimp only;rw[k4,k5] at this;rw[k2,k3];exact this.1 v hv
 .obtain⟨k1,k2,k3,k4,k5⟩:=key W p hs hn h;have:=(h3 W p hs hn h).step hs k1;dsimp only;rw[k4] at this;rw[k2,k3];exact this.2 hv
def CI (W:Rst) (y:List Int) (m:Nat) (D:List StD) (M:Mp) (path:List Int):Prop:=∃f,PI0 f (tot (W++[y])) (fun i=>bhs (W++[y]) (y.take i)) (bhs W (y.take m)) (y.take m) D M path
structure ChH (W:Rst) (x y:List Int) (D0:List StD) (M:Mp) (path rs:List Int):Prop where
 srt:dL (W++[y])
 lst:W.getLast?=some x\/W=[]
 cut:rs=y.drop (bi x y)
 val:∀r∈y,Utf8.valid r=true
 len:D0.length+rs.length<=8388608
 pi:MkI W (x.take (bi x y)) D0 M path
def ChR (D0:List StD) (M:Mp) (l3:List Int) (n:Nat) (rs:List Int) (s:Nat×List StD×List Int):Prop:=
 s.1<=rs.length/\s.2.1.length=D0.length+s.1/\n+s.1<=s.2.2.length/\∀W x y,ChH W x y D0 M (l3.take n) rs->CI W y (bi x y+s.1) s.2.1 M (s.2.2.take (n+s.1))
theorem yh (W:Rst) (y:List Int):tot (W++[y])=tot W+y.length:=by unfold tot;simp
theorem ChR.zero {D0:List StD}{M:Mp}{l3:List Int}{n:Nat}{rs:List Int}(hn:n<=l3.length):ChR D0 M l3 n rs (0,D0,l3):=by
 refine⟨Nat.zero_le _,rfl,hn,fun W x y h=>?_⟩;obtain⟨f,hf⟩:=h.pi;obtain⟨c1,c2,c3⟩:=qh x y;refine⟨f,?_⟩;show PI0 f _ _ (bhs W (y.take (bi x y))) (y.take (bi x y)) D0 M (l3.take n);have hs:dL W:=(List.pairwise_append.1 h.srt).1;rw[c3] at hf;refine hf.turn (by rw[yh];omega) (fun i hi=>xz hs _) fun i hi=>?_
 rw[zP] at hi;rw[og,rO y i (by omega),List.take_take,Nat.min_eq_left (by omega),cu (by omega),gu (by omega)];exact⟨_,rfl⟩
theorem ChR.step {D0:List StD}{M:Mp}{l3:List Int}{n:Nat}{rs:List Int}{j:Nat}{D:List StD}{P:List Int}(h:ChR D0 M l3 n rs (j,D,P)) (hj:j<rs.length) :
 ChR D0 M l3 n rs (j+1,(chS (D,P.take (n+j)) (rs.getD j 0)).1,P.take (n+j)++[(D.length:Int)]):=by
 obtain⟨h1,h2,h3,h4⟩:=h;dsimp only at h1 h2 h3 h4;refine⟨hj,?_,?_,fun W x y h=>?_⟩
 .show (List.set _ _ _).length=_;rw[List.length_set,zL,h2];simp;omega
 .show n+(j+1)<=(P.take (n+j)++[(D.length:Int)]).length;rw[zL,zP,zN];omega
 .obtain⟨f,hf⟩:=h4 W x y h;obtain⟨c1,c2,c3⟩:=qh x y;have hrl:rs.length=y.length-bi x y:=by rw[h.cut,List.length_drop]
  have hlen:=h.len;have hyr:rs.getD j 0=y.getD (bi x y+j) 0:=by
   rw[h.cut,zA,zA,List.getElem?_drop]
  have hpl:(y.take (bi x y+j)).length=bi x y+j:=by rw[zP];omega
  have hno:=Nl h.srt h.lst (m:=bi x y+j) (by omega) (by omega);refine⟨f,?_⟩;dsimp only;rw[List.take_of_length_le (show (P.take (n+j)++[(D.length:Int)]).length<=n+(j+1) by rw[zL,zP,zN];omega)];rw[show bi x y+(j+1)=bi x y+j+1 from rfl,hno,bF 0 (show bi x y+j<y.length by omega),hyr];rw[oK (by omega)] at hno;refine hf.chain (t:=y.drop (bi x y+j+1)) (h.val _ (eY (by omega))) (by omega) hno ?_;rw[hpl,og,rO y _ (by omega),<- gu (by omega)]
theorem ChR.done {D0:List StD}{M:Mp}{l3:List Int}{n:Nat}{rs:List Int}{D:List StD}{P:List Int}(h:ChR D0 M l3 n rs (rs.length,D,P)) {W:Rst}{x y:List Int}(hc:ChH W x y D0 M (l3.take n) rs) :
 MkI (W++[y]) y (nD D ((P.take (n+rs.length)).getD y.length 0).toNat) M (P.take (n+rs.length)):=by
 obtain⟨f,hf⟩:=h.2.2.2 W x y hc;obtain⟨c1,c2,c3⟩:=qh x y;have hrl:rs.length=y.length-bi x y:=by rw[hc.cut,List.length_drop]
 dsimp only at hf;rw[show bi x y+rs.length=y.length by omega,List.take_of_length_le (zJ y.length)] at hf;have:=hf.ends;refine⟨f,?_⟩;have e:bhs (W++[y]) y=bhs W y++[[]]:=by
  have:=rO y y.length (zJ _);rw[List.take_of_length_le (zJ y.length),List.drop_of_length_le (zJ y.length)] at this;rw[og,this]
 rw[e];exact this
structure OI (l:List Wd) (i:Nat) (D:List StD) (M:Mp) (path:List Int):Prop where
 le:i<=l.length
 sz:D.length<=1+tot (wdR (l.take i))
 pi:MkI (wdR (l.take i)) (bT l i) D M path
def IL (l:List Wd) (D:List StD):Prop:=(∃M,MkI (wdR l) [] D M [0])/\D.length<=1+tot (wdR l)
theorem OI.zero (l:List Wd):OI l 0 [([],false,0)] [] [0]:=by
 refine⟨Nat.zero_le _,zJ _,fun _=>[],?_⟩;refine⟨rfl,rfl,fun i hi=>?_,fun i j hij hj=>?_,by decide,fun k v h=>(by cases h),fun i=>?_,fun k v h=>(by cases h),fun i hi=>(by cases hi),⟨rfl,rfl,fun e he=>by cases he⟩⟩
 .obtain rfl:i=0:=by simp at hi;exact hi
  exact⟨Int.le_refl _,by decide⟩
 .simp at hj;omega
 .intro e he;unfold stA at he;cases i with
  |zero=>cases he
  |succ i=>cases he
theorem QQ {l:List Wd}{i:Nat}(h:i<=l.length):(wdR (l.take i)).getLast?=some (bT l i)\/wdR (l.take i)=[]:=by
 cases i with
 |zero=>exact .inr rfl
 |succ i=>rw[mE (by omega)];exact .inl (by simp;rfl)
theorem kD {s:List UInt8}(h:bH s=0):∀r∈aK s,Utf8.valid r=true:=by
 have h1:dD s=true:=(Dj s).symm.trans (decide_eq_true h);have this:=(qy _ s (zJ _) h1).2;unfold aK;rw[if_pos h1];exact fun r hr=>List.all_eq_true.1 this r hr
theorem Og (l:List Wd) (i:Nat):tot (wdR (l.take i))<=tot (wdR l):=by
 conv=>rhs;rw[<- List.take_append_drop i l]
 unfold wdR tot;rw[List.map_append,List.map_append,List.sum_append];omega
theorem OI.chh {l:List Wd}{i:Nat}{D0:List StD}{M0:Mp}{l3:List Int}{n:Nat}(hl:isE l=0) (h:OI l i D0 M0 (l3.take n)) (hn:n<=l3.length) (hi:i<l.length) {j:Nat}{D:List StD}{M:Mp}
 (hf:FzR D0 M0 l3 n (bi (bT l i) (aK (l.getD i ([],0)).1)) (j,D,M)) (he:¬ bi (bT l i) (aK (l.getD i ([],0)).1)+1<n-j) :
 n-j=bi (bT l i) (aK (l.getD i ([],0)).1)+1/\ChH (wdR (l.take i)) (bT l i) (aK (l.getD i ([],0)).1) D M (l3.take (n-j)) ((aK (l.getD i ([],0)).1).drop (bi (bT l i) (aK (l.getD i ([],0)).1))):=by
 have hN:=nml hl;have hs:=hN.srt;have hs1:dL (wdR (l.take i)++[aK (l.getD i ([],0)).1]):=by
  rw[<- mE hi];unfold wdR;rw[List.map_take];exact List.Pairwise.sublist (List.take_sublist ..) hs
 have hpl:(l3.take n).length=(bT l i).length+1:=h.pi.elim fun f h=>h.len
 rw[zP] at hpl;obtain⟨h1,h2,h3⟩:=hf;dsimp only at h1 h2 h3;obtain⟨c1,c2,c3⟩:=qh (bT l i) (aK (l.getD i ([],0)).1);have hn2:n-j=bi (bT l i) (aK (l.getD i ([],0)).1)+1:=by omega
 have hmem:l.getD i ([],0)∈l:=by rw[zA,zB hi];exact List.getElem_mem _
 refine⟨hn2,hs1,QQ h.le,rfl,kD (hN.dec _ hmem),?_,?_⟩
 .have g1:=hN.tot;have g2:=Og l (i+1);rw[mE hi,yh] at g2;have g3:=h.sz;rw[List.length_drop];omega
 .have:=h3 _ _ (List.pairwise_append.1 hs1).1 hn h.pi;rw[show n-1-j=bi (bT l i) (aK (l.getD i ([],0)).1) by omega] at this;exact this
theorem OI.next {l:List Wd}{i:Nat}{D0 D:List StD}{M:Mp}{l3 P:List Int}{n:Nat}(hi:i<l.length) (hz:D0.length<=1+tot (wdR (l.take i)))
 (hc:ChH (wdR (l.take i)) (bT l i) (aK (l.getD i ([],0)).1) D0 M (l3.take n) ((aK (l.getD i ([],0)).1).drop (bi (bT l i) (aK (l.getD i ([],0)).1))))
 (h:ChR D0 M l3 n ((aK (l.getD i ([],0)).1).drop (bi (bT l i) (aK (l.getD i ([],0)).1))) (((aK (l.getD i ([],0)).1).drop (bi (bT l i) (aK (l.getD i ([],0)).1))).length,D,P)) :
 OI l (i+1) (nD D ((P.take (n+((aK (l.getD i ([],0)).1).drop (bi (bT l i) (aK (l.getD i ([],0)).1))).length)).getD (aK (l.getD i ([],0)).1).length 0).toNat) M (P.take (n+((aK (l.getD i ([],0)).1).drop (bi (bT l i) (aK (l.getD i ([],0)).1))).length)):=by
 refine⟨hi,?_,?_⟩
 .unfold nD;rw[List.length_set,mE hi,yh];have:=h.2.1;dsimp only at this;rw[List.length_drop] at this;omega
 .rw[mE hi];exact h.done hc
theorem OI.done {l:List Wd}{D0:List StD}{M0:Mp}{l3:List Int}{n:Nat}(hl:isE l=0) (h:OI l l.length D0 M0 (l3.take n)) (hn:n<=l3.length) {j:Nat}{D:List StD}{M:Mp}
 (hf:FzR D0 M0 l3 n 0 (j,D,M)) (he:¬ 0+1<n-j):IL l D:=by
 have hpl:(l3.take n).length=(bT l l.length).length+1:=h.pi.elim fun f h=>h.len
 rw[zP] at hpl;obtain⟨h1,h2,h3⟩:=hf;dsimp only at h1 h2 h3;have hp:=h.pi;have hz:=h.sz;rw[List.take_of_length_le (zJ _)] at hp hz;have:=h3 _ _ (nml hl).srt hn hp;rw[show n-1-j=0 by omega,show n-j=1 by omega] at this;have e:l3.take 1=[0]:=by
  have h0:(l3.take 1).getD 0 0=0:=this.elim fun f h=>h.p0
  cases l3 with
  |nil=>simp at hpl
  |cons a t=>simp at h0;simp[h0]
 rw[e] at this;exact⟨⟨M,this⟩,by omega⟩
theorem Uw {W:Rst}{p:List Int}{D0:List StD}{M0:Mp}{l3:List Int}{n dp j:Nat}{D:List StD}{M:Mp}(hs:dL W) (hW:W.length<=1048576) (hn:n<=l3.length) (hp:MkI W p D0 M0 (l3.take n)) (h:FzR D0 M0 l3 n dp (j,D,M)) (hj:dp+1<n-j) :
 (0<=l3.getD (n-j-1) 0/\l3.getD (n-j-1) 0<D.length)/\(0<=l3.getD (n-j-2) 0/\l3.getD (n-j-2) 0<D.length)/\(stA D (l3.getD (n-j-1) 0).toNat).1.length<=1048576/\OkE (stA D (l3.getD (n-j-1) 0).toNat).1/\0<(stA D (l3.getD (n-j-2) 0).toNat).1.length/\(stA D (l3.getD (n-j-2) 0).toNat).1.length<=1048576:=by
 have hl:(l3.take n).length=p.length+1:=hp.elim fun f h=>h.len
 rw[zP] at hl;obtain⟨a1,a2,a3,a4,a5,_⟩:=(h.2.2 W p hs hn hp).at hW;dsimp only at a1 a2 a3 a4 a5;rw[zP] at a1;have hpl:(p.take (n-1-j)).length=n-j-1:=by rw[zP];omega
 rw[hpl] at a3 a5;have b1:=a2 (n-j-1) (by rw[zP];omega);have b2:=a2 (n-j-2) (by rw[zP];omega);have b3:=a5 (n-j-2) (by omega);rw[cu (by omega)] at b1 b2 b3 a3;exact⟨b1,b2,a3,a4 _,b3⟩
theorem YK {W:Rst}{y:List Int}{m:Nat}{D:List StD}{M:Mp}{path:List Int}(h:CI W y m D M path) (hW:W.length<=1048576) (hm:m<=y.length):path.length=m+1/\(0<=path.getD m 0/\path.getD m 0<D.length)/\(stA D (path.getD m 0).toNat).1.length<=1048576:=by
 obtain⟨f,h⟩:=h;have hpl:(y.take m).length=m:=by rw[zP];omega
 have h1:=h.len;have h2:=h.last.2.1;rw[hpl] at h1 h2;refine⟨h1,h.bd m (by omega),?_⟩;have h3:=congrArg List.length h2;rw[zR] at h3;have h4:=iq (bhs W (y.take m));have h5:=yM W (y.take m);omega
end Go.EA
end
section
namespace Go.EA
abbrev Ki:=List (Int×Int)
def eT (m:Ki) (k:Int):Option Int:=Ty.mget (.int .i64) m k
def GH (m:Ki) (k:Int) (v:Int):Ki:=Ty.mput (.int .i64) m k v
theorem Pg (q s:Int) (v:Int):∀(es:Ki),eT (GH es q v) s=if q=s then some v else eT es s
 | []=>by
   show (match decide (q=s) with | true=>some v | false=>none)=if q=s then some v else none
   by_cases h:q=s <;> simp[h]
 | (a,b)::es=>by
   have ih:=Pg q s v es;unfold eT GH at ih ⊢;show Ty.mget (.int .i64) (match decide (a=q) with | true=>(q,v)::es | false=>(a,b)::Ty.mput (.int .i64) es q v) s=if q=s then some v else (match decide (a=s) with | true=>some b | false=>Ty.mget (.int .i64) es s)
   by_cases h:a=q
   .subst h;simp only[decide_true];show (match decide (a=s) with | true=>some v | false=>Ty.mget (.int .i64) es s)=_;by_cases h2:a=s <;> simp[h2]
   .simp only[h,decide_false];show (match decide (a=s) with | true=>some b | false=>Ty.mget (.int .i64) (Ty.mput (.int .i64) es q v) s)=_;rw[ih];by_cases h2:a=s
    .subst h2;simp[show ¬ q=a from fun e=>h e.symm]
    .simp[h2]
abbrev rAt (all:List RSt) (n:Nat):RSt:=all.getD n ([],false,[])
theorem gm {a b:List RSt}{n:Nat}(h:n<a.length):rAt (a++b) n=rAt a n:=by
 unfold rAt;rw[zA,zA,zV h]
theorem lK {a b:List RSt}{n:Nat}(h:a.length<=n):rAt (a++b) n=rAt b (n-a.length):=by
 unfold rAt;rw[zA,zA,List.getElem?_append_right h]
theorem Uh {a b:List StD}{n:Nat}(h:n<a.length):stA (a++b) n=stA a n:=by
 unfold stA;rw[zA,zA,zV h]
theorem Us {a b:List StD}{n:Nat}(h:a.length<=n):stA (a++b) n=stA b (n-a.length):=by
 unfold stA;rw[zA,zA,List.getElem?_append_right h]
def stD (s:RSt):StD:=(s.2.2,s.2.1,(s.1.length:Int))
theorem eP {a:List RSt}{n:Nat}(h:n<a.length):stA (a.map stD) n=stD (rAt a n):=by
 unfold stA rAt;rw[zA,zA,List.getElem?_map,zB h];rfl
def Nd (all:List RSt):Prop:=∀n m,n<all.length->m<all.length->(rAt all n).1=(rAt all m).1->n=m
def KA (all:List RSt) (rests:Rst):Prop:=∃new,(iF all rests).1=all++new/\Nd (all++new)/\(iF all rests).2<(all++new).length/\(rAt (all++new) (iF all rests).2).1=rests/\∀s∈new,s.2.2.length<=rests.length/\tot s.1<=tot rests
def Xx (all:List RSt) (rests:Rst) (j:Nat):Prop:=∃new,(dh all rests j).1=all++[(rests,aH rests,[])]++new/\Nd (all++[(rests,aH rests,[])]++new)/\(dh all rests j).2.length=j/\∀s∈new,s.2.2.length<=rests.length/\tot s.1<tot rests
theorem Nd.snoc {all:List RSt}(h:Nd all) {s:RSt}(hs:∀n,n<all.length->(rAt all n).1≠s.1):Nd (all++[s]):=by
 intro n m hn hm e;rw[zL,zN] at hn hm;have hl:rAt (all++[s]) all.length=s:=ig all s _;by_cases h1:n<all.length <;> by_cases h2:m<all.length
 .rw[gm h1,gm h2] at e;exact h n m h1 h2 e
 .obtain rfl:m=all.length:=by omega
  rw[gm h1,hl] at e;exact absurd e (hs n h1)
 .obtain rfl:n=all.length:=by omega
  rw[gm h2,hl] at e;exact absurd e.symm (hs m h2)
 .omega
theorem QV {all:List RSt}{rests:Rst}(h:mX all rests=none):∀n,n<all.length->(rAt all n).1≠rests:=by
 intro n hn e;unfold mX at h;rw[List.findIdx?_eq_none_iff] at h;have h1:=h all[n] (List.getElem_mem _);have h2:rAt all n=all[n]:=by unfold rAt;rw[zA,zB hn];rfl
 rw[<- h2] at h1;exact absurd e (of_decide_eq_false h1)
theorem Bb {all:List RSt}{rests:Rst}{i:Nat}(h:mX all rests=some i):i<all.length/\(rAt all i).1=rests:=by
 unfold mX at h;rw[List.findIdx?_eq_some_iff_getElem] at h;obtain⟨h1,h2,_⟩:=h;have h3:rAt all i=all[i]:=by unfold rAt;rw[zA,zB h1];rfl
 exact⟨h1,by rw[h3];simpa using h2⟩
theorem Mt {all:List RSt}{rests:Rst}(hn:Nd all) (hf:mX all rests=none) (ih:∀r∈aD rests,∀a,Nd a->KA a (aZ rests r)):∀j,j<=(aD rests).length->Xx all rests j
 |0,_=>⟨[],by rw[List.append_nil];rfl,by rw[List.append_nil];exact hn.snoc (QV hf),rfl,fun s hs=>by cases hs⟩
 | j+1,hj=>by
   obtain⟨new,h1,h2,h3,h4⟩:=Mt hn hf ih j (by omega);have hr:(aD rests).getD j 0∈aD rests:=eY (by omega);obtain⟨n2,g1,g2,g3,g4,g5⟩:=ih _ hr _ h2;rw[Xx,kV (by omega)];unfold jB;rw[h1,g1];refine⟨new++n2,by simp,by rw[<- zO];exact g2,by simp[h3],fun s hs=>?_⟩;rcases zX.1 hs with hs | hs
   .exact h4 s hs
   .obtain⟨q1,q2⟩:=g5 s hs;have:=iA hr;exact⟨Nat.le_trans q1 (Fz ..),by omega⟩
theorem nT (all new:List RSt) (rests:Rst) (e:Bool) (out:List Ed):kG (all++[(rests,e,[])]++new) all.length out=all++[(rests,e,out)]++new:=by
 unfold kG;have:(all++[(rests,e,([]:List Ed))]++new).getD all.length ([],false,[])=(rests,e,[]):=by
  rw[zA,zO,List.getElem?_append_right (zJ _)];simp
 rw[this,zO,List.set_append_right _ _ (zJ _)];simp
theorem sJ:∀(n:Nat) (rests:Rst),tot rests<n->∀all,Nd all->KA all rests
 |0,_,h,_,_=>by omega
 | n+1,rests,h,all,hn=>by
   unfold KA;rw[mQ];cases hf:mX all rests with
   | some i=>
     obtain⟨h1,h2⟩:=Bb hf;exact⟨[],by simp,by simpa using hn,by simpa using h1,by simpa using h2,fun s hs=>by cases hs⟩
   | none=>
     obtain⟨new,h1,h2,h3,h4⟩:=Mt hn hf (fun r hr a ha=>sJ n (aZ rests r) (by have:=iA hr;omega) a ha) _ (zJ _);dsimp only;rw[h1,nT];refine⟨[(rests,aH rests,(dh all rests (aD rests).length).2)]++new,by rw[zO],?_,by simp,?_,fun s hs=>?_⟩
     .rw[<- zO];have hsame:∀k,(rAt (all++[(rests,aH rests,(dh all rests (aD rests).length).2)]++new) k).1=(rAt (all++[(rests,aH rests,[])]++new) k).1:=fun k=>by
       by_cases hk:k<all.length
       .rw[zO,zO,gm hk,gm hk]
       .rw[zO,zO,lK (a:=all) (by omega),lK (a:=all) (by omega)];cases k-all.length <;> rfl
      intro a b ha hb e;rw[hsame,hsame] at e;exact h2 a b (by simpa using ha) (by simpa using hb) e
     .rw[lK (zJ _)];simp
     .rcases zX.1 hs with hs | hs
      .rw[List.mem_singleton.1 hs];exact⟨by dsimp only;rw[h3];exact iq _,zJ _⟩
      .obtain⟨q1,q2⟩:=h4 s hs;exact⟨q1,by omega⟩
theorem Ua {all:List RSt}{rests:Rst}(hn:Nd all) (hf:mX all rests=none) (j:Nat) (hj:j<=(aD rests).length):Xx all rests j:=
 Mt hn hf (fun r hr a ha=>sJ _ _ (Nat.lt_succ_self _) a ha) j hj
theorem QJ {hs:List Int}(hn:hs.Nodup) (a:Int):(hs.map fun r=>if a=r then 1 else 0).sum=if a∈hs then 1 else 0:=by
 induction hs with
 |nil=>rfl
 | cons r hs ih=>
   have h:=List.nodup_cons.1 hn;rw[zK,List.sum_cons,ih h.2];by_cases he:a=r
   .subst he;simp[h.1]
   .simp[he]
theorem RD {hs:List Int}(f g:Int->Nat):(hs.map fun r=>f r+g r).sum=(hs.map f).sum+(hs.map g).sum:=by
 induction hs with
 |nil=>rfl
 |cons r hs ih=>simp only[zK,List.sum_cons,ih];omega
theorem vS {hs:List Int}(hn:hs.Nodup):∀{l:Rst},(∀a t,a::t∈l->a∈hs)->(hs.map fun r=>(l.filter (dI r)).length).sum+(l.filter List.isEmpty).length=l.length
 | [],_=>by
   have:(hs.map fun r=>(([]:Rst).filter (dI r)).length).sum=0:=by
    clear hn;induction hs with
    |nil=>rfl
    |cons r hs ih=>simpa using ih
   simpa using this
 | x::l,h=>by
   have ih:=vS hn (l:=l) fun a t hm=>h a t (by simp[hm])
   cases x with
   | nil=>
     have e:(hs.map fun r=>((([]:List Int)::l).filter (dI r)).length)=hs.map fun r=>(l.filter (dI r)).length:=by
      refine List.map_congr_left fun r _=>?_
      rw[List.filter_cons,if_neg (by simp[dI])]
     rw[e];simp only[List.filter_cons,List.isEmpty_nil,if_true,zM];omega
   | cons a t=>
     have e:(hs.map fun r=>(((a::t)::l).filter (dI r)).length)=hs.map fun r=>(if a=r then 1 else 0)+(l.filter (dI r)).length:=by
      refine List.map_congr_left fun r _=>?_
      rw[List.filter_cons];by_cases he:a=r
      .simp[dI,he];omega
      .simp[dI,he]
     rw[e,RD,QJ hn,if_pos (h a t (by simp))];simp only[List.filter_cons,List.isEmpty_cons,zM];simp only[Bool.false_eq_true,if_false];omega
theorem qf:∀{l:Rst},dL l->(l.filter List.isEmpty).length=if aH l then 1 else 0
 |[],_=>rfl
 | x::l,h=>by
   have h':=List.pairwise_cons.1 h;have ih:=qf h'.2;cases x with
   | nil=>
     have hl:aH l=false:=by
      rw[Bool.eq_false_iff];intro he;unfold aH at he;obtain⟨y,hy,hy2⟩:=List.any_eq_true.1 he;rw[List.isEmpty_iff] at hy2;subst hy2;exact h'.1 _ hy
     rw[hl] at ih;simp only[List.filter_cons,List.isEmpty_nil,if_true,zM,ih];simp[aH]
   | cons a t=>
     simp only[List.filter_cons,List.isEmpty_cons,Bool.false_eq_true,if_false,ih];simp[aH]
def yS (l:Rst) (j:Nat):Nat:=(if aH l then 1 else 0)+(((aD l).take j).map fun r=>(aZ l r).length).sum
theorem wR {l:Rst}{j:Nat}(h:j<(aD l).length):yS l (j+1)=yS l j+(aZ l ((aD l).getD j 0)).length:=by
 unfold yS;rw[bF 0 h,List.map_append,List.sum_append];simp;omega
theorem tQ {l:Rst}(h:dL l):yS l (aD l).length=l.length:=by
 have h1:=vS (qW h) (l:=l) fun a t hm=>fD hm
 rw[qf h] at h1;unfold yS;rw[List.take_length];have e:(fun r=>(aZ l r).length)=fun r=>(l.filter (dI r)).length:=by funext r;unfold aZ;rw[zR]
 rw[e];omega
theorem He {l:Rst}(h:dL l):∀(d j:Nat),j+d=(aD l).length->yS l j<=l.length
 |0,j,hj=>by rw[show j=(aD l).length by omega,tQ h];exact zJ _
 | d+1,j,hj=>by
   have:=He h d (j+1) (by omega);rw[wR (by omega)] at this;omega
structure Au (F:List StD) (f:Int->Rst) (LV:Int->Prop):Prop where
 lv:∀j,LV j->0<=j/\j<F.length
 st:∀j,LV j->(stA F j.toNat).2.1=aH (f j)/\(stA F j.toNat).1.map (·.1)=aD (f j)/\∀e∈(stA F j.toNat).1,LV e.2/\f e.2=aZ (f j) e.1
 srt:∀j,LV j->dL (f j)
 few:∀j,LV j->(f j).length<=4194305
 inj:∀j j',LV j->LV j'->f j=f j'->j=j'
def Kn (f:Int->Rst) (LV:Int->Prop) (all:List RSt) (K:Ki):Prop:=∀j m,eT K j=some m↔LV j/\∃n:Nat,n<all.length/\m=n/\(rAt all n).1=f j
structure Nm (f:Int->Rst) (LV:Int->Prop) (t:Nat) (all:List RSt) (S:List StD) (K:Ki):Prop where
 len:S.length=all.length
 dn:∀n,n<all.length->tot (rAt all n).1<t->stA S n=stD (rAt all n)
 kn:Kn f LV all K
 nd:Nd all
abbrev NA:=List StD×Int×List StD×Mp×Int×Ki
structure NGh (a:NA) (f:Int->Rst) (LV:Int->Prop) (all:List RSt):Prop where
 au:Au a.2.2.1 f LV
 li:LV a.2.2.2.2.1
 nm:Nm f LV (tot (f a.2.2.2.2.1)+1) all a.1 a.2.2.2.2.2
def IQ (a:NA) (k:Nat):Prop:=∃f LV all,NGh a f LV all/\tot (f a.2.2.2.2.1)<k/\all.length+tot (f a.2.2.2.2.1)+1<=8388608/\0<=a.2.1/\a.2.1+4194305*((tot (f a.2.2.2.2.1):Int)+1)<=4611686018427387904
abbrev NX:=List StD×Int×Ki×Int
def iW (a:NA) (x:NX):Prop:=∀f LV all,NGh a f LV all->∃new,(iF all (f a.2.2.2.2.1)).1=all++new/\x.1=a.1++new.map stD/\x.2.1=a.2.1+nQ new/\Kn f LV (all++new) x.2.2.1/\x.2.2.2=((iF all (f a.2.2.2.2.1)).2:Int)
theorem NGh.found {a:NA}{f:Int->Rst}{LV:Int->Prop}{all:List RSt}(h:NGh a f LV all) {m:Int}(hk:eT a.2.2.2.2.2 a.2.2.2.2.1=some m):iF all (f a.2.2.2.2.1)=(all,m.toNat)/\0<=m:=by
 obtain⟨h1,n,h2,h3,h4⟩:=(h.nm.kn _ _).1 hk;have:mX all (f a.2.2.2.2.1)=some n:=Kc h2 (fun j hj e=>by have:=h.nm.nd j n (by omega) h2 (e.trans h4.symm);omega) h4;rw[mQ,this];subst h3;exact⟨rfl,by omega⟩
theorem NGh.fresh {a:NA}{f:Int->Rst}{LV:Int->Prop}{all:List RSt}(h:NGh a f LV all) (hk:eT a.2.2.2.2.2 a.2.2.2.2.1=none):mX all (f a.2.2.2.2.1)=none:=Ij fun j hj e=>by
 have:=(h.nm.kn a.2.2.2.2.1 j).2 ⟨h.li,j,hj,rfl,e⟩;rw[hk] at this;cases this
theorem iW.found {a:NA}{m:Int}(hk:eT a.2.2.2.2.2 a.2.2.2.2.1=some m):iW a (a.1,a.2.1,a.2.2.2.2.2,m):=fun f LV all h=>by
 obtain⟨e,h0⟩:=h.found hk;rw[e];refine⟨[],by simp,by simp,by simp[nQ],by rw[List.append_nil];exact h.nm.kn,?_⟩;show m=(m.toNat:Int);omega
abbrev NS:=Nat×List StD×Int×Ki×List Ed×Int
def NLp (a:NA) (s:NS):Prop:=∀f LV all,NGh a f LV all->s.1<=(aD (f a.2.2.2.2.1)).length/\∃new,(dh all (f a.2.2.2.2.1) s.1).1=all++[(f a.2.2.2.2.1,aH (f a.2.2.2.2.1),[])]++new/\s.2.1=a.1++[([],aH (f a.2.2.2.2.1),0)]++new.map stD/\s.2.2.1=a.2.1+nQ new/\Kn f LV (all++[(f a.2.2.2.2.1,aH (f a.2.2.2.2.1),[])]++new) s.2.2.2.1/\s.2.2.2.2.1=(dh all (f a.2.2.2.2.1) s.1).2/\s.2.2.2.2.2=(yS (f a.2.2.2.2.1) s.1:Int)
theorem Kn.snoc {f:Int->Rst}{LV:Int->Prop}{all:List RSt}{K:Ki}{F:List StD}(hA:Au F f LV) (h:Kn f LV all K) {i:Int}(hi:LV i) (hk:eT K i=none) {e:Bool}{o:List Ed}:Kn f LV (all++[(f i,e,o)]) (GH K i all.length):=by
 intro j m;have hl:rAt (all++[(f i,e,o)]) all.length=(f i,e,o):=ig all _ _;rw[Pg];by_cases hij:i=j
 .subst hij;rw[if_pos rfl];constructor
  .intro h1;cases h1;exact⟨hi,all.length,by simp,rfl,by rw[hl]⟩
  .rintro⟨_,n,h1,rfl,h2⟩;by_cases h3:n<all.length
   .rw[gm h3] at h2;have:=(h i n).2 ⟨hi,n,h3,rfl,h2⟩;rw[hk] at this;cases this
   .rw[zL,zN] at h1;rw[show n=all.length by omega]
 .rw[if_neg hij,h j m];constructor
  .rintro⟨h1,n,h2,h3,h4⟩;exact⟨h1,n,by rw[zL];omega,h3,by rw[gm h2];exact h4⟩
  .rintro⟨h1,n,h2,h3,h4⟩;by_cases h5:n<all.length
   .rw[gm h5] at h4;exact⟨h1,n,h5,h3,h4⟩
   .rw[zL,zN] at h2;rw[show n=all.length by omega,hl] at h4;exact absurd (hA.inj i j hi h1 h4) hij
theorem NLp.zero {a:NA}(hk:eT a.2.2.2.2.2 a.2.2.2.2.1=none):NLp a (0,a.1++[([],(stA a.2.2.1 a.2.2.2.2.1.toNat).2.1,0)],a.2.1,GH a.2.2.2.2.2 a.2.2.2.2.1 a.1.length,[],if (stA a.2.2.1 a.2.2.2.2.1.toNat).2.1 then 1 else 0):=fun f LV all h=>by
 refine⟨Nat.zero_le _,[],by rw[List.append_nil];rfl,?_,by simp[nQ],?_,rfl,?_⟩
 .rw[(h.au.st _ h.li).1];simp
 .rw[List.append_nil];have:=h.nm.kn.snoc h.au h.li hk (e:=aH (f a.2.2.2.2.1)) (o:=[]);rw[<- h.nm.len] at this;exact this
 .rw[(h.au.st _ h.li).1];unfold yS;cases aH (f a.2.2.2.2.1) <;> simp
theorem NLp.nm {a:NA}{s:NS}(hl:NLp a s) {f:Int->Rst}{LV:Int->Prop}{all:List RSt}(h:NGh a f LV all) (hk:eT a.2.2.2.2.2 a.2.2.2.2.1=none) {t:Nat}(ht:t<=tot (f a.2.2.2.2.1)):Nm f LV t (dh all (f a.2.2.2.2.1) s.1).1 s.2.1 s.2.2.2.1:=by
 obtain⟨h0,new,h1,h2,h3,h4,h5,h6⟩:=hl f LV all h;obtain⟨n2,g1,g2,_,g4⟩:=Ua h.nm.nd (h.fresh hk) s.1 h0;have e:new=n2:=List.append_cancel_left (h1.symm.trans g1);subst e;have hln:=h.nm.len;rw[h1,h2];refine⟨by simp[hln],fun n hn htn=>?_,h4,g2⟩;by_cases c1:n<all.length
 .rw[zO,zO,gm c1] at *;rw[Uh (by omega)];exact h.nm.dn n c1 (by omega)
 .by_cases c2:n=all.length
  .subst c2;rw[zO,lK (zJ _)] at htn;simp at htn;omega
  .rw[lK (by simp;omega),Us (by simp;omega)];simp only[zL,zM,List.length_nil] at hn ⊢;rw[hln];exact eP (by omega)
end Go.EA
end
section
namespace Go.EA
theorem Ii {l:List Ed}{i:Nat}:(l.map (·.1)).getD i 0=(l.getD i (0,0)).1:=by
 rw[zA,zA,List.getElem?_map];cases l[i]? <;> rfl
theorem sD {l:List Ed}{i:Nat}(h:i<l.length):l.getD i (0,0)∈l:=by
 rw[zA,zB h];exact List.getElem_mem _
theorem NGh.heads {a:NA}{f:Int->Rst}{LV:Int->Prop}{all:List RSt}(h:NGh a f LV all):(stA a.2.2.1 a.2.2.2.2.1.toNat).1.length=(aD (f a.2.2.2.2.1)).length:=by
 have:=congrArg List.length (h.au.st _ h.li).2.1;rw[zR] at this;exact this
theorem NGh.edge {a:NA}{f:Int->Rst}{LV:Int->Prop}{all:List RSt}(h:NGh a f LV all) {j:Nat}(hj:j<(stA a.2.2.1 a.2.2.2.2.1.toNat).1.length) :
 ((stA a.2.2.1 a.2.2.2.2.1.toNat).1.getD j (0,0)).1=(aD (f a.2.2.2.2.1)).getD j 0/\LV ((stA a.2.2.1 a.2.2.2.2.1.toNat).1.getD j (0,0)).2/\f ((stA a.2.2.1 a.2.2.2.2.1.toNat).1.getD j (0,0)).2=aZ (f a.2.2.2.2.1) ((aD (f a.2.2.2.2.1)).getD j 0)/\tot (f ((stA a.2.2.1 a.2.2.2.2.1.toNat).1.getD j (0,0)).2)<tot (f a.2.2.2.2.1):=by
 have h1:=h.au.st _ h.li;have e:((stA a.2.2.1 a.2.2.2.2.1.toNat).1.getD j (0,0)).1=(aD (f a.2.2.2.2.1)).getD j 0:=by rw[<- h1.2.1,Ii]
 obtain⟨g1,g2⟩:=h1.2.2 _ (sD hj);rw[e] at g2;refine⟨e,g1,g2,?_⟩;rw[g2];exact iA (eY (by rw[<- h.heads];exact hj))
theorem NLp.child {a:NA}{s:NS}(hl:NLp a s) {f:Int->Rst}{LV:Int->Prop}{all:List RSt}(h:NGh a f LV all) (hk:eT a.2.2.2.2.2 a.2.2.2.2.1=none) (hj:s.1<(stA a.2.2.1 a.2.2.2.2.1.toNat).1.length) :
 NGh (s.2.1,s.2.2.1,a.2.2.1,a.2.2.2.1,((stA a.2.2.1 a.2.2.2.2.1.toNat).1.getD s.1 (0,0)).2,s.2.2.2.1) f LV (dh all (f a.2.2.2.2.1) s.1).1:=
 ⟨h.au,(h.edge hj).2.1,hl.nm h hk (h.edge hj).2.2.2⟩
theorem CW (a b:List RSt):nQ (a++b)=nQ a+nQ b:=by unfold nQ;rw[List.map_append,List.sum_append]
theorem NLp.step {a:NA}{s:NS}(hl:NLp a s) (hk:eT a.2.2.2.2.2 a.2.2.2.2.1=none) (hj:s.1<(stA a.2.2.1 a.2.2.2.2.1.toNat).1.length) {x:NX}
 (hx:iW (s.2.1,s.2.2.1,a.2.2.1,a.2.2.2.1,((stA a.2.2.1 a.2.2.2.2.1.toNat).1.getD s.1 (0,0)).2,s.2.2.2.1) x) :
 NLp a (s.1+1,x.1,x.2.1,x.2.2.1,s.2.2.2.2.1++[(((stA a.2.2.1 a.2.2.2.2.1.toNat).1.getD s.1 (0,0)).1,x.2.2.2)],s.2.2.2.2.2+(stA x.1 x.2.2.2.toNat).2.2):=fun f LV all h=>by
 have hc:=hl.child h hk hj;obtain⟨n2,g1,g2,g3,g4,g5⟩:=hx f LV _ hc;obtain⟨e1,e2,e3,e4⟩:=h.edge hj;obtain⟨h0,new,h1,h2,h3,h4,h5,h6⟩:=hl f LV all h;have hhj:s.1<(aD (f a.2.2.2.2.1)).length:=by rw[<- h.heads];exact hj
 have hnd:=hc.nm.nd;obtain⟨n3,v1,v2,v3,v4,_⟩:=sJ _ (f ((stA a.2.2.1 a.2.2.2.2.1.toNat).1.getD s.1 (0,0)).2) (Nat.lt_succ_self _) _ hnd;dsimp only at g1 g2 g3 g4 g5 h1 h2 h3 h4 h5 h6 h0 ⊢;have en:n3=n2:=List.append_cancel_left (v1.symm.trans g1);subst en;have hlen:=hc.nm.len;dsimp only at hlen;have hw:stA x.1 x.2.2.2.toNat=stD (rAt ((dh all (f a.2.2.2.2.1) s.1).1++n3) x.2.2.2.toNat):=by
  rw[g5,Int.toNat_natCast,g2];by_cases c:(iF (dh all (f a.2.2.2.2.1) s.1).1 (f ((stA a.2.2.1 a.2.2.2.2.1.toNat).1.getD s.1 (0,0)).2)).2<(dh all (f a.2.2.2.2.1) s.1).1.length
  .rw[Uh (by omega),gm c];rw[gm c] at v4;exact hc.nm.dn _ c (by rw[v4];exact Nat.lt_succ_self _)
  .rw[Us (by omega),lK (by omega),hlen];rw[zL] at v3;exact eP (by omega)
 have hw2:(stA x.1 x.2.2.2.toNat).2.2=((aZ (f a.2.2.2.2.1) ((aD (f a.2.2.2.2.1)).getD s.1 0)).length:Int):=by
  rw[hw,g5,Int.toNat_natCast];show ((rAt _ _).1.length:Int)=_;rw[v4,e3]
 refine⟨hhj,new++n3,?_,?_,?_,?_,?_,?_⟩
 .rw[kV hhj];show (iF _ _).1=_;rw[<- e3,g1,h1];simp
 .rw[g2,h2];simp
 .rw[g3,h3,CW];omega
 .rw[h1] at g4;rw[<- zO];exact g4
 .rw[kV hhj,h5];show _=(dh all (f a.2.2.2.2.1) s.1).2++[(_,((iF _ _).2:Int))];rw[e1,g5,<- e3]
 .rw[wR hhj,hw2,h6];push_cast;rfl
theorem NLp.done {a:NA}{s:NS}(hl:NLp a s) (hk:eT a.2.2.2.2.2 a.2.2.2.2.1=none) (hj:s.1=(stA a.2.2.1 a.2.2.2.2.1.toNat).1.length) :
 iW a (s.2.1.set a.1.length (s.2.2.2.2.1,(stA s.2.1 a.1.length).2.1,s.2.2.2.2.2),s.2.2.1+(s.2.2.2.2.1.length:Int),s.2.2.2.1,(a.1.length:Int)):=fun f LV all h=>by
 obtain⟨h0,new,h1,h2,h3,h4,h5,h6⟩:=hl f LV all h;rw[h.heads] at hj;have hln:=h.nm.len;have hmid:∀(x:StD) (y:List StD),stA (a.1++[x]++y) a.1.length=x:=fun x y=>by
  unfold stA;rw[zA,zO,List.getElem?_append_right (zJ _)];simp
 have hset:∀(x z:StD) (y:List StD),(a.1++[x]++y).set a.1.length z=a.1++[z]++y:=fun x z y=>by
  rw[zO,List.set_append_right _ _ (zJ _)];simp
 have hcn:s.2.2.2.2.2=((f a.2.2.2.2.1).length:Int):=by rw[h6,hj,tQ (h.au.srt _ h.li)]
 rw[mQ,h.fresh hk];dsimp only;rw[hj] at h1 h5;rw[h1,nT,<- h5,hcn,h2,hmid,hset];refine⟨[(f a.2.2.2.2.1,aH (f a.2.2.2.2.1),s.2.2.2.2.1)]++new,by rw[zO],?_,?_,?_,by rw[hln]⟩
 .rw[List.map_append,<- zO];rfl
 .rw[CW,h3];have:nQ [(f a.2.2.2.2.1,aH (f a.2.2.2.2.1),s.2.2.2.2.1)]=(s.2.2.2.2.1.length:Int):=by unfold nQ;simp
  rw[this];omega
 .intro j m;rw[h4 j m,<- zO];have hsame:∀k,(rAt (all++[(f a.2.2.2.2.1,aH (f a.2.2.2.2.1),s.2.2.2.2.1)]++new) k).1=(rAt (all++[(f a.2.2.2.2.1,aH (f a.2.2.2.2.1),[])]++new) k).1:=fun k=>by
   by_cases hk:k<all.length
   .rw[zO,zO,gm hk,gm hk]
   .rw[zO,zO,lK (a:=all) (by omega),lK (a:=all) (by omega)];cases k-all.length <;> rfl
  constructor
  .rintro⟨q1,n,q2,q3,q4⟩;exact⟨q1,n,by simpa using q2,q3,by rw[hsame];exact q4⟩
  .rintro⟨q1,n,q2,q3,q4⟩;exact⟨q1,n,by simpa using q2,q3,by rw[hsame] at q4;exact q4⟩
theorem Pv {l:List RSt}{b:Nat}(h:∀s∈l,s.2.2.length<=b):0<=nQ l/\nQ l<=(b:Int)*l.length:=by
 induction l with
 |nil=>simp[nQ]
 | cons s l ih=>
   obtain⟨h1,h2⟩:=ih fun x hx=>h x (by simp[hx])
   have h3:=h s (by simp);unfold nQ at h1 h2 ⊢;simp only[zK,List.sum_cons,zM];have:(b:Int)*((l.length+1:Nat):Int)=(b:Int)*l.length+b:=by push_cast;rw[Int.mul_add,Int.mul_one]
   rw[this];constructor <;> omega
theorem NLp.bd {a:NA}{s:NS}(hl:NLp a s) {f:Int->Rst}{LV:Int->Prop}{all:List RSt}(h:NGh a f LV all) (hk:eT a.2.2.2.2.2 a.2.2.2.2.1=none) :
 s.2.1.length=(dh all (f a.2.2.2.2.1) s.1).1.length/\a.1.length+1<=s.2.1.length/\s.2.1.length<=all.length+tot (f a.2.2.2.2.1)+1/\
 (s.1<(stA a.2.2.1 a.2.2.2.2.1.toNat).1.length->s.2.1.length+tot (f ((stA a.2.2.1 a.2.2.2.2.1.toNat).1.getD s.1 (0,0)).2)+1<=all.length+tot (f a.2.2.2.2.1)+1)/\
 a.2.1<=s.2.2.1/\s.2.2.1<=a.2.1+4194305*((s.2.1.length:Int)-all.length-1)/\s.2.2.2.2.1.length=s.1/\s.1<=4194305/\0<=s.2.2.2.2.2/\s.2.2.2.2.2<=4194305/\a.1.length=all.length:=by
 obtain⟨h0,new,h1,h2,h3,h4,h5,h6⟩:=hl f LV all h;obtain⟨n2,g1,g2,g3,g4⟩:=Ua h.nm.nd (h.fresh hk) s.1 h0;have e:new=n2:=List.append_cancel_left (h1.symm.trans g1);subst e;have hln:=h.nm.len;have hsl:s.2.1.length=(dh all (f a.2.2.2.2.1) s.1).1.length:=by rw[h1,h2];simp[hln]
 have hsn:s.2.1.length=all.length+1+new.length:=by rw[h2];simp[hln];omega
 obtain⟨w1,w2⟩:=Jc (all:=all) (h.au.srt _ h.li) s.1;have hfew:=h.au.few _ h.li;obtain⟨e1,e2⟩:=Pv (b:=4194305) fun x hx=>Nat.le_trans (g4 x hx).1 hfew
 have hhl:=iq (f a.2.2.2.2.1);have hcj:=He (h.au.srt _ h.li) ((aD (f a.2.2.2.2.1)).length-s.1) s.1 (by omega);refine⟨hsl,by omega,by omega,fun hj=>?_,by omega,by rw[h3];omega,by rw[h5,g3],by omega,by omega,by omega,hln⟩;have:=w2 (by rw[<- h.heads];exact hj);rw[(h.edge hj).2.2.1];omega
theorem iW.bd {a:NA}{x:NX}(hx:iW a x) {f:Int->Rst}{LV:Int->Prop}{all:List RSt}(h:NGh a f LV all):0<=x.2.2.2/\x.2.2.2<x.1.length:=by
 obtain⟨new,g1,g2,g3,g4,g5⟩:=hx f LV all h;obtain⟨n3,v1,v2,v3,v4,_⟩:=sJ _ (f a.2.2.2.2.1) (Nat.lt_succ_self _) _ h.nm.nd;have e:n3=new:=List.append_cancel_left (v1.symm.trans g1);subst e;have hln:=h.nm.len;rw[g5,g2];simp only[zL,zR] at v3 ⊢;omega
end Go.EA
end
section
namespace Go.EA
theorem si {l:Rst}(h:dL l):l.length<=tot l+1:=by
 have h1:=qf h;have h2:∀m:Rst,m.length<=tot m+(m.filter List.isEmpty).length:=by
  intro m
  induction m with
  |nil=>exact zJ _
  | cons x m ih=>
    unfold tot at ih ⊢;cases x with
    |nil=>simp only[zM,zK,List.sum_cons,List.filter_cons,List.isEmpty_nil,if_true];omega
    |cons a t=>simp only[zM,zK,List.sum_cons,List.filter_cons,List.isEmpty_cons,Bool.false_eq_true,if_false];omega
 have h3:=h2 l;have h4:(l.filter List.isEmpty).length<=1:=by rw[h1]; split <;> omega
 omega
theorem Mo:∀{a b:List Ed},a.map (·.1)=b.map (·.1)->(∀e∈a,∀e'∈b,e.1=e'.1->e.2=e'.2)->a=b
 |[],[],_,_=>rfl
 |[],_::_,h,_=>by simp at h
 |_::_,[],h,_=>by simp at h
 | (r,x)::a,(q,y)::b,h,h'=>by
   simp only[zK,zG] at h;have e:=h' (r,x) (by simp) (q,y) (by simp) h.1;dsimp only at e;rw[Mo h.2 fun e he e' he'=>h' e (by simp[he]) e' (by simp[he']),h.1,e]
theorem PI0.inj {f:Int->Rst}{T:Nat}{L:Nat->Rst}{le:Rst}{p:List Int}{D:List StD}{M:Mp}{path:List Int}(h:PI0 f T L le p D M path):∀(n:Nat) {k k':List UInt8}{v v':Int},EA.tot (f v)<n->fe M k=some v->fe M k'=some v'->f v=f v'->v=v'
 |0,_,_,_,_,hn,_,_,_=>by omega
 | n+1,k,k',v,v',hn,h1,h2,e=>by
   obtain⟨⟨a1,a2,a3⟩,_,_⟩:=h.fr k v h1;obtain⟨⟨b1,b2,b3⟩,_,_⟩:=h.fr k' v' h2;have ho:(stA D v.toNat).1=(stA D v'.toNat).1:=by
    refine Mo (by rw[a2,b2,e]) fun x hx x' hx' ee=>?_
    obtain⟨⟨q,hq⟩,g1⟩:=a3 x hx;obtain⟨⟨q',hq'⟩,g2⟩:=b3 x' hx';have hlt:EA.tot (f x.2)<EA.tot (f v):=by
     rw[g1];exact iA (by rw[<- a2];exact List.mem_map_of_mem hx)
    exact h.inj n (by omega) hq hq' (by rw[g1,g2,e,ee])
   have he:(stA D v.toNat).2.1=(stA D v'.toNat).2.1:=by rw[a1,b1,e]
   have k1:=(h.mp k v h1).2.2.2;have k2:=(h.mp k' v' h2).2.2.2;rw[ho,he,k2] at k1;subst k1;rw[h1] at h2;cases h2;rfl
theorem VB {l:List Wd}{F:List StD}{M:Mp}(hl:isE l=0) (h:IL l F):∃f LV,NGh ([],0,F,M,0,[]) f LV []/\f 0=wdR l:=by
 obtain⟨⟨M0,f,h⟩,_⟩:=h;have hN:=nml hl;have hb:=h.bd 0 (by simp);have hne:∀{k v},fe M0 k=some v->v≠0:=fun hv e=>(h.mp _ _ hv).2.2.1 (by rw[e];simp)
 have hlast:Lc f M0 (stA F 0) (wdR l):=h.last;refine⟨fun z=>if z=0 then wdR l else f z,fun z=>z=0\/∃k,fe M0 k=some z,⟨⟨fun j hj=>?_,fun j hj=>?_,fun j hj=>?_,fun j hj=>?_,fun j j' hj hj' e=>?_⟩,.inl rfl,⟨rfl,fun n hn=>absurd hn (zS _),fun j m=>⟨fun h=>(by cases h),fun⟨_,n,hn,_⟩=>absurd hn (zS _)⟩,fun n m hn=>absurd hn (zS _)⟩⟩,if_pos rfl⟩
 .rcases hj with rfl | ⟨k,hk⟩
  .exact hb
  .obtain⟨h1,h2,_⟩:=h.mp k j hk;exact⟨h1,h2⟩
 .have lift:∀{lab e},Tg f M0 lab e->(e.2=0\/∃k,fe M0 k=some e.2)/\(if e.2=0 then wdR l else f e.2)=aZ lab e.1:=fun {lab e} ⟨⟨k,hk⟩,he⟩=>⟨.inr ⟨k,hk⟩,by rw[if_neg (hne hk)];exact he⟩
  rcases hj with rfl | ⟨k,hk⟩
  .dsimp only;rw[if_pos rfl];exact⟨hlast.1,hlast.2.1,fun e he=>lift (hlast.2.2 e he)⟩
  .rw[if_neg (hne hk)];obtain⟨g1,g2,g3⟩:=(h.fr k j hk).1;exact⟨g1,g2,fun e he=>lift (g3 e he)⟩
 .rcases hj with rfl | ⟨k,hk⟩
  .rw[if_pos rfl];exact hN.srt
  .rw[if_neg (hne hk)];exact(h.fr k j hk).2.1
 .have ht:=hN.tot;rcases hj with rfl | ⟨k,hk⟩
  .rw[if_pos rfl];have:=si hN.srt;omega
  .rw[if_neg (hne hk)];obtain⟨_,g2,g3⟩:=h.fr k j hk;have:=si g2;omega
 .rcases hj with rfl | ⟨k,hk⟩ <;> rcases hj' with rfl | ⟨k',hk'⟩
  .rfl
  .rw[if_pos rfl,if_neg (hne hk')] at e;have:=(h.fr k' j' hk').2.2;rw[<- e] at this;omega
  .rw[if_pos rfl,if_neg (hne hk)] at e;have:=(h.fr k j hk).2.2;rw[e] at this;omega
  .rw[if_neg (hne hk),if_neg (hne hk')] at e;exact h.inj _ (Nat.lt_succ_self _) hk hk' e
def iG (l:List Wd):List StD×Int×List Int:=((aM l).map stD,nQ (aM l),l.map (·.2))
theorem WW {l:List Wd}{F:List StD}{M:Mp}(hl:isE l=0) (h:IL l F):(∃k,IQ ([],0,F,M,0,[]) k/\0<k)/\∀x,iW ([],0,F,M,0,[]) x->x.1=(iG l).1/\x.2.1=(iG l).2.1:=by
 obtain⟨f,LV,hg,h0⟩:=VB (M:=M) hl h;have ht:=(nml hl).tot;refine⟨⟨tot (wdR l)+1,⟨f,LV,[],hg,?_,?_,Int.le_refl _,?_⟩,Nat.succ_pos _⟩,fun x hx=>?_⟩
 .dsimp only;rw[h0];exact Nat.lt_succ_self _
 .dsimp only;rw[h0];simp;omega
 .dsimp only;rw[h0];omega
 .obtain⟨new,g1,g2,g3,_⟩:=hx f LV [] hg;dsimp only at g1 g2 g3;rw[h0,List.nil_append] at g1;rw[g2,g3,<- g1];exact⟨rfl,Int.zero_add _⟩
end Go.EA
end
