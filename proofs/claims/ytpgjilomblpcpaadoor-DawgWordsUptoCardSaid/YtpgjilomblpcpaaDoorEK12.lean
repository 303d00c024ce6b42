/- Texts. Conditions: none. -/
import Derived.Test.YtpgjilomblpcpaaDoorEK24
import Derived.Test.YtpgjilomblpcpaaDoorEMean3
import Derived.Test.YtpgjilomblpcpaaDoorEK9
set_option linter.unusedVariables false
set_option linter.unusedSimpArgs false
section
namespace Go.EA
open F
def wE (w:Wd):Int:=if fQ w.1=0 then (if w.2<1\/1073741824<w.2 then 2 else 0) else fQ w.1
def jG (w:Wd):Bool:=!decide (wE w=0)
def lY (l:List Wd):Int:=match l.findIdx? jG with | some i=>i | none => -1
def eO (l:List Wd):Int:=orV (l.map wE)
def SmW (l:List Wd):Prop:=∀x∈l,x.1.length<=1099511627776
theorem SmW.at {l:List Wd}(h:SmW l) (i:Nat):(l.getD i ([],0)).1.length<=1099511627776:=by
 rw[zA];cases hi:l[i]? with
 |none=>exact Nat.zero_le _
 |some x=>exact h x (zU hi)
theorem Uh {w:Wd}:jG w=true↔¬ wE w=0:=by unfold jG;simp
theorem Dx {w:Wd}:jG w=false↔wE w=0:=by unfold jG;simp
theorem qL {α:Type}{p:α->Bool}:∀{l:List α}{d:α}{i:Nat},i<l.length->(∀j,j<i->p (l.getD j d)=false)->p (l.getD i d)=true->l.findIdx? p=some i
 |[],_,_,h,_,_=>by cases h
 |x::l,d,0,_,_,h=>by rw[List.findIdx?_cons];rw[show p x=true from h];rfl
 | x::l,d,i+1,hi,hn,h=>by
   rw[List.findIdx?_cons,show p x=false from hn 0 (Nat.succ_pos i),qL (l:=l) (d:=d) (i:=i) (Nat.lt_of_succ_lt_succ hi) (fun j hj=>hn (j+1) (Nat.succ_lt_succ hj)) h]
   rfl
theorem oN {α:Type}{p:α->Bool}:∀{l:List α}{d:α},(∀j,j<l.length->p (l.getD j d)=false)->l.findIdx? p=none
 |[],_,_=>rfl
 | x::l,d,hn=>by
   rw[List.findIdx?_cons,show p x=false from hn 0 (Nat.succ_pos _),oN (l:=l) (d:=d) fun j hj=>hn (j+1) (Nat.succ_lt_succ hj)]
   rfl
theorem EJ:∀{l:List Wd}{i:Nat},i<l.length->(∀j,j<i->jG (l.getD j ([],0))=false)->jG (l.getD i ([],0))=true->eO l=wE (l.getD i ([],0))
 |[],_,h,_,_=>by cases h
 | x::l,0,_,_,h=>by
   have h1:¬ wE x=0:=Uh.1 h;simp[eO,orV,h1]
 | x::l,i+1,hi,hn,h=>by
   have h0:wE x=0:=Dx.1 (hn 0 (Nat.succ_pos i));have:=EJ (l:=l) (i:=i) (Nat.lt_of_succ_lt_succ hi) (fun j hj=>hn (j+1) (Nat.succ_lt_succ hj)) h;simpa [eO,orV,h0] using this
theorem vK {l:List Wd}(hn:∀j,j<l.length->jG (l.getD j ([],0))=false):eO l=0:=by
 refine(LM ?_).symm;rw[List.all_eq_true];intro x hx;obtain⟨w,hw,rfl⟩:=List.mem_map.1 hx;obtain⟨j,hj,rfl⟩:=List.mem_iff_getElem.1 hw;have:=hn j hj;rw[zA,zB hj] at this;simpa using Dx.1 this
theorem pE {l:List Wd}(h:eO l=0):∀x∈l,wE x=0:=by
 intro x hx;unfold eO orV at h;cases hf:(l.map wE).find? (fun x=>!decide (x=0)) with
 | none=>
   have:=List.find?_eq_none.1 hf (wE x) (List.mem_map_of_mem hx);simpa using this
 | some e=>
   rw[hf] at h;have:=List.find?_some hf;simp only[Option.getD_some] at h;rw[h] at this;simp at this
def Ris (l:List Wd):Prop:=∀i,i+1<l.length->ltW (l.getD i ([],0)) (l.getD (i+1) ([],0))=true
def Ve (l:List Wd):Bool:=(List.range l.length).all fun i=>decide (i+1<l.length->ltW (l.getD i ([],0)) (l.getD (i+1) ([],0))=true)
theorem oJ (l:List Wd):Ve l=true↔Ris l:=by
 simp only[Ve,List.all_eq_true,List.mem_range,decide_eq_true_eq];exact⟨fun h i hi=>h i (by omega) hi,fun h i _ hi=>h i hi⟩
def isE (l:List Wd):Int:=if eO l=0 then (if Ve l=true then (if 65536<l.length then 6 else 0) else 7) else eO l
def dm (w:Wd):List Wd->List Wd
 |[]=>[w]
 |x::r=>if bu x.1 w.1=true then x::dm w r else if x.1=w.1 then (x.1,min 1073741824 (x.2+w.2))::r else w::x::r
def aJ (l:List Wd):List Wd:=l.foldl (fun o w=>dm w o) []
def lg (l:List Wd):Int:=if eO l=0 then (if 65536<(aJ l).length then 6 else 0) else eO l
def bf (l:List Wd):List Wd:=if lg l=0 then aJ l else []
theorem rY {p q:List UInt8}{m n:Int}(hm:0<=m) (hn:0<=n):∀o,dm (p,m) (dm (q,n) o)=dm (q,n) (dm (p,m) o)
 | []=>by
   have nn:∀{p q:List UInt8},bu p q=true->q≠p:=fun h e=>by rw[e,gq] at h;cases h
   rcases jk p q with h | h | h
   .simp[dm,h,fK h,nn h]
   .subst h;simp[dm,gq];omega
   .simp[dm,h,fK h,nn h]
 | (s,k)::o=>by
   have ih:=rY (p:=p) (q:=q) hm hn o;have nn:∀{p q:List UInt8},bu p q=true->q≠p:=fun h e=>by rw[e,gq] at h;cases h
   rcases jk s p with h1 | h1 | h1
   .rcases jk s q with h2 | h2 | h2
    .simp[dm,h1,h2,ih]
    .subst h2;simp[dm,h1,gq]
    .simp[dm,h1,fK h2,nn h2,iM h2 h1]
   .subst h1;rcases jk s q with h2 | h2 | h2
    .simp[dm,h2,gq]
    .subst h2;simp[dm,gq];omega
    .simp[dm,h2,fK h2,nn h2,gq]
   .rcases jk s q with h2 | h2 | h2
    .simp[dm,h2,fK h1,nn h1,iM h1 h2]
    .subst h2;simp[dm,h1,fK h1,nn h1,gq]
    .rcases jk p q with h | h | h
     .simp[dm,h,fK h,nn h,fK h1,nn h1,fK h2,nn h2]
     .subst h;simp[dm,gq,fK h1,nn h1];omega
     .simp[dm,h,fK h,nn h,fK h1,nn h1,fK h2,nn h2]
theorem Gv {a b:Wd}(ha:0<=a.2) (hb:0<=b.2) (o:List Wd):dm a (dm b o)=dm b (dm a o):=rY ha hb o
def Nn (l:List Wd):Prop:=∀x∈l,0<=x.2
theorem DW {l y:List Wd}(h:l.Perm y) (hn:Nn l):aJ l=aJ y:=by
 unfold aJ;exact List.Perm.foldl_eq' h (fun a ha b hb z=>Gv (hn b hb) (hn a ha) z) []
theorem rV (l:List Wd) (w:Wd):aJ (l++[w])=dm w (aJ l):=by
 unfold aJ;rw[List.foldl_append];rfl
theorem Be {w x:Wd}:∀{o:List Wd},x∈dm w o->x.1=w.1\/∃z∈o,z.1=x.1
 |[],h=>by simp only[dm,List.mem_singleton] at h;exact .inl (by rw[h])
 | y::o,h=>by
   simp only[dm] at h;split at h
   .rcases List.mem_cons.1 h with rfl | h
    .exact .inr ⟨_,List.mem_cons_self ..,rfl⟩
    .rcases Be h with h | ⟨z,hz,e⟩
     .exact .inl h
     .exact .inr ⟨z,List.mem_cons_of_mem _ hz,e⟩
   .split at h
    .rcases List.mem_cons.1 h with rfl | h
     .exact .inr ⟨_,List.mem_cons_self ..,rfl⟩
     .exact .inr ⟨x,List.mem_cons_of_mem _ h,rfl⟩
    .rcases List.mem_cons.1 h with rfl | h
     .exact .inl rfl
     .exact .inr ⟨x,h,rfl⟩
theorem yJ {P:Wd->Prop}{w:Wd}(hw:P w) (hm:∀x,P x->x.1=w.1->P (x.1,min 1073741824 (x.2+w.2))):∀{o:List Wd},(∀x∈o,P x)->∀x∈dm w o,P x
 |[],_,x,h=>by simp only[dm,List.mem_singleton] at h;rw[h];exact hw
 | y::o,ho,x,h=>by
   simp only[dm] at h;split at h
   .rcases List.mem_cons.1 h with rfl | h
    .exact ho _ (List.mem_cons_self ..)
    .exact yJ hw hm (fun z hz=>ho z (List.mem_cons_of_mem _ hz)) x h
   .split at h
    .rename_i e;rcases List.mem_cons.1 h with rfl | h
     .exact hm y (ho _ (List.mem_cons_self ..)) e
     .exact ho x (List.mem_cons_of_mem _ h)
    .rcases List.mem_cons.1 h with rfl | h
     .exact hw
     .exact ho x h
theorem wD {P:Wd->Prop}{l:List Wd}(hl:∀w∈l,P w) (hm:∀w x,P w->P x->x.1=w.1->P (x.1,min 1073741824 (x.2+w.2))):∀x∈aJ l,P x:=by
 have:∀(l o:List Wd),(∀w∈l,P w)->(∀x∈o,P x)->∀x∈l.foldl (fun o w=>dm w o) o,P x:=by
  intro l
  induction l with
  |nil=>intro o _ ho;exact ho
  | cons w l ih=>
    intro o hl ho;exact ih (dm w o) (fun z hz=>hl z (List.mem_cons_of_mem _ hz)) (yJ (hl w (List.mem_cons_self ..)) (fun x hx e=>hm w x (hl w (List.mem_cons_self ..)) hx e) ho)
 exact this l [] hl fun x hx=>by cases hx
theorem rD {w:Wd}:wE w=0↔fQ w.1=0/\1<=w.2/\w.2<=1073741824:=by
 unfold wE;split
 .rename_i h;split
  .simp;omega
  .simp[h];omega
 .rename_i h;simp[h]
theorem BM {l:List Wd}(h:∀x∈l,wE x=0):∀x∈aJ l,wE x=0:=by
 refine wD h fun w x hw hx e=>?_
 rw[rD] at hw hx ⊢;dsimp only;exact⟨hx.1,by omega,by omega⟩
theorem wC {l:List Wd}:∀x∈aJ l,∃z∈l,z.1=x.1:=
 wD (P:=fun x=>∃z∈l,z.1=x.1) (fun w hw=>⟨w,hw,rfl⟩) fun w x _ hx _=>hx
theorem BS (w:Wd):∀o,(dm w o).length<=o.length+1
 |[]=>zJ _
 | x::o=>by
   simp only[dm];split
   .simp only[zM];have:=BS w o;omega
   .split <;> simp
theorem vC (l:List Wd):(aJ l).length<=l.length:=by
 have:∀(l o:List Wd),(l.foldl (fun o w=>dm w o) o).length<=o.length+l.length:=by
  intro l
  induction l with
  |nil=>intro o;exact zJ _
  |cons w l ih=>intro o;have h1:=ih (dm w o);have h2:=BS w o;simp only[List.foldl_cons,zM];omega
 have h:=this l [];rw[List.length_nil,Nat.zero_add] at h;exact h
def rq (o:List Wd):Prop:=o.Pairwise fun a b=>bu a.1 b.1=true
theorem BR {w:Wd}:∀{o:List Wd},rq o->rq (dm w o)
 |[],_=>List.pairwise_singleton ..
 | x::o,h=>by
   have ⟨h1,h2⟩:=List.pairwise_cons.1 h;simp only[dm];split
   .rename_i hl;refine List.pairwise_cons.2 ⟨fun y hy=>?_,BR h2⟩;rcases Be hy with e | ⟨z,hz,e⟩
    .rw[e];exact hl
    .rw[<- e];exact h1 z hz
   .rename_i hl;split
    .exact List.pairwise_cons.2 ⟨h1,h2⟩
    .rename_i hne;have hlt:bu w.1 x.1=true:=by
      rcases jk x.1 w.1 with e | e | e
      .exact absurd e hl
      .exact absurd e hne
      .exact e
     refine List.pairwise_cons.2 ⟨fun y hy=>?_,h⟩;rcases List.mem_cons.1 hy with rfl | hy
     .exact hlt
     .exact iM hlt (h1 y hy)
theorem qH (l:List Wd):rq (aJ l):=by
 have:∀(l o:List Wd),rq o->rq (l.foldl (fun o w=>dm w o) o):=by
  intro l
  induction l with
  |nil=>intro o h;exact h
  |cons w l ih=>intro o h;exact ih _ (BR h)
 exact this l [] List.Pairwise.nil
theorem getD_lt {l:List Wd}{i:Nat}(h:i<l.length):l.getD i ([],0)=l[i]:=by
 rw[zA,zB h,Option.getD_some]
theorem rq.at {l:List Wd}(h:rq l) {i j:Nat}(hij:i<j) (hj:j<l.length):bu (l.getD i ([],0)).1 (l.getD j ([],0)).1=true:=by
 rw[getD_lt (by omega),getD_lt hj];exact List.pairwise_iff_getElem.1 h i j (by omega) hj hij
theorem EH (l:List Wd):Ris l↔rq l:=by
 constructor
 .intro h;refine List.pairwise_iff_getElem.2 fun i j hi hj hij=>?_
  rw[<- getD_lt hi,<- getD_lt hj];obtain⟨k,rfl⟩:∃k,j=i+1+k:=⟨j-(i+1),by omega⟩;clear hij
  induction k with
  |zero=>exact h i (by omega)
  |succ k ih=>exact iM (ih (by omega)) (h (i+1+k) (by omega))
 .intro h i hi;exact h.at (Nat.lt_succ_self i) hi
theorem yD {w:Wd}:∀{o:List Wd},rq o->(∀x∈o,bu w.1 x.1=false)->(o.length=0\/(o.getD (o.length-1) ([],0)).1≠w.1)->dm w o=o++[w]
 |[],_,_,_=>rfl
 | x::o,h,hw,hl=>by
   have ⟨h1,h2⟩:=List.pairwise_cons.1 h;simp only[dm];have h0:=hw x (List.mem_cons_self ..);have hlt:bu x.1 w.1=true:=by
    rcases jk x.1 w.1 with e | e | e
    .exact e
    .exfalso;cases o with
     | nil => rcases hl with hl | hl
              .cases hl
              .exact hl e
     | cons y o=>
       have h3:=h1 y (List.mem_cons_self ..);rw[e,hw y (List.mem_cons_of_mem _ (List.mem_cons_self ..))] at h3;cases h3
    .rw[h0] at e;cases e
   rw[if_pos hlt,yD h2 (fun z hz=>hw z (List.mem_cons_of_mem _ hz)) ?_]
   .rfl
   .cases o with
    |nil=>exact .inl rfl
    |cons y o=>exact .inr (by simpa using hl)
theorem Ai {w:Wd}:∀{o:List Wd}{n:Nat},rq o->o.length=n+1->(o.getD n ([],0)).1=w.1->dm w o=o.set n ((o.getD n ([],0)).1,min 1073741824 ((o.getD n ([],0)).2+w.2))
 |[],_,_,h,_=>by cases h
 | [x],0,_,_,e=>by
   have e:x.1=w.1:=e;simp only[dm];rw[if_neg (by rw[e,gq];decide),if_pos e]
   rfl
 |x::y::o,0,_,h,_=>by simp at h
 |[x],n+1,_,h,_=>by simp at h
 | x::y::o,n+1,h,hl,e=>by
   have ⟨h1,h2⟩:=List.pairwise_cons.1 h;have hl':(y::o).length=n+1:=by simpa using hl
   have e':((y::o).getD n ([],0)).1=w.1:=e;have hlt:bu x.1 w.1=true:=by
    rw[<- e'];refine h1 _ ?_;rw[getD_lt (by omega)];exact List.getElem_mem _
   rw[dm,if_pos hlt,Ai h2 hl' e']
   rfl
theorem Hf {y:List Wd}(hs:aW ltW ([],0) y 0 y.length) {i:Nat}(hi:i<y.length):∀x∈aJ (y.take i),bu (y.getD i ([],0)).1 x.1=false:=by
 intro x hx;obtain⟨z,hz,e⟩:=wC x hx;obtain⟨p,hp,rfl⟩:=List.mem_iff_getElem.1 hz;rw[zP] at hp;have:=hs p i (Nat.zero_le _) (by omega) hi;rw[<- e];rw[getD_lt (l:=y) (i:=p) (by omega)] at this;simpa [ltW] using this
theorem Al {y:List Wd}(hs:aW ltW ([],0) y 0 y.length) {i:Nat}(hi:i<y.length) (h:(aJ (y.take i)).length=0\/((aJ (y.take i)).getD ((aJ (y.take i)).length-1) ([],0)).1≠(y.getD i ([],0)).1):aJ (y.take i)++[y.getD i ([],0)]=aJ (y.take (i+1)):=by
 rw[List.take_add_one,zB hi,Option.toList_some,<- getD_lt hi,rV];exact(yD (qH _) (Hf hs hi) h).symm
theorem Ms {y:List Wd}{i n:Nat}(hi:i<y.length) (hn:(aJ (y.take i)).length=n+1) (h:((aJ (y.take i)).getD n ([],0)).1=(y.getD i ([],0)).1):(aJ (y.take i)).set n (((aJ (y.take i)).getD n ([],0)).1,min 1073741824 (((aJ (y.take i)).getD n ([],0)).2+(y.getD i ([],0)).2))=aJ (y.take (i+1)):=by
 rw[List.take_add_one,zB hi,Option.toList_some,<- getD_lt hi,rV];exact(Ai (qH _) hn h).symm
theorem QM {l:List Wd}(h:∀x∈l,wE x=0):eO l=0:=vK fun j hj=>Dx.2 (h _ (by rw[getD_lt hj];exact List.getElem_mem _))
theorem CQ {l:List Wd}(h:eO l=0):eO (aJ l)=0:=QM (BM (pE h))
theorem Bo {l:List Wd}:isE l=0↔eO l=0/\rq l/\l.length<=65536:=by
 unfold isE;split
 .rename_i h;split
  .rename_i h1;rw[oJ,EH] at h1;split
   .simp;omega
   .simp[h,h1];omega
  .rename_i h1;rw[oJ,EH] at h1;simp[h1]
 .rename_i h;simp[h]
theorem Vj (a:Int):(if 1073741824<a then 1073741824 else a)=min 1073741824 a:=by split <;> omega
theorem LH {l:List Wd}{i:Nat}(hi:i<l.length) (hn:∀j,j<i->jG (l.getD j ([],0))=false) (h:jG (l.getD i ([],0))=true):lY l=i:=by
 unfold lY;rw[qL hi hn h]
theorem Gm {l:List Wd}(hn:∀j,j<l.length->jG (l.getD j ([],0))=false):lY l = -1:=by
 unfold lY;rw[oN hn]
theorem GG (l:List Wd):(lY l = -1/\eO l=0)\/∃i:Nat,i<l.length/\lY l=i/\wE (l.getD i ([],0))=eO l:=by
 unfold lY;cases h:l.findIdx? jG with
 | none=>
   refine .inl ⟨rfl,vK fun j hj=>?_⟩;rw[getD_lt hj];have:=List.findIdx?_eq_none_iff.1 h _ (List.getElem_mem hj);simpa using this
 | some i=>
   obtain⟨hi,h1,h2⟩:=List.findIdx?_eq_some_iff_getElem.1 h;refine .inr ⟨i,hi,rfl,(EJ hi (fun j hj=>?_) (by rw[getD_lt hi];exact h1)).symm⟩;rw[getD_lt (by omega)];simpa using h2 j hj
theorem LX {P:Nat->Prop}{i:Nat}(h:∀j,j<i->P j) (hi:P i):∀j,j<i+1->P j:=fun j hj=>by
 rcases Nat.lt_succ_iff_lt_or_eq.1 hj with h1 | rfl
 .exact h j h1
 .exact hi
theorem WL {l:List Wd}{i:Nat}(he:eO l=0) (h0:0<(i:Int)) (hi:i<l.length) (h:(!bu (l.getD ((i:Int)-1).toNat ([],0)).1 (l.getD i ([],0)).1)=true):7=isE l:=by
 unfold isE;rw[if_pos he,if_neg];rw[oJ];intro hr;obtain⟨k,rfl⟩:∃k,i=k+1:=⟨i-1,by omega⟩;rw[show (((k+1:Nat):Int)-1).toNat=k by omega] at h;have:=hr k hi;unfold ltW at this;rw[this] at h;cases h
theorem Oh {l:List Wd}(he:eO l=0) (h:∀j,j+1<l.length->ltW (l.getD j ([],0)) (l.getD (j+1) ([],0))=true):isE l=if 65536<l.length then 6 else 0:=by
 unfold isE;rw[if_pos he,if_pos ((oJ l).2 h)]
theorem Ar {l:List Wd}{i:Nat}(h:∀j,j+1<i->ltW (l.getD j ([],0)) (l.getD (j+1) ([],0))=true) (hs:0<(i:Int)->¬ (!bu (l.getD ((i:Int)-1).toNat ([],0)).1 (l.getD i ([],0)).1)=true):∀j,j+1<i+1->ltW (l.getD j ([],0)) (l.getD (j+1) ([],0))=true:=fun j hj=>by
 rcases Nat.lt_succ_iff_lt_or_eq.1 hj with h1 | rfl
 .exact h j h1
 .have:=hs (by omega);rw[show (((j+1:Nat):Int)-1).toNat=j by omega] at this;unfold ltW;simpa using this
theorem Fw {l:List Wd}(he:eO l=0) (h:65536<((aJ l).length:Int)):bf l=[]/\6=lg l:=by
 have e:lg l=6:=by unfold lg;rw[if_pos he,if_pos (by omega)]
 unfold bf;rw[e];exact⟨rfl,rfl⟩
theorem Cv {l:List Wd}(he:eO l=0) (h:¬ 65536<((aJ l).length:Int)):aJ l=bf l/\0=lg l:=by
 have e:lg l=0:=by unfold lg;rw[if_pos he,if_neg (by omega)]
 unfold bf;rw[e];exact⟨rfl,rfl⟩
theorem Fj {l:List Wd}(he:¬ eO l=0):bf l=[]/\eO l=lg l:=by
 have e:lg l=eO l:=by unfold lg;rw[if_neg he]
 unfold bf;rw[e,if_neg he];exact⟨rfl,rfl⟩
end Go.EA
end
section
namespace Go.EA
open F
def preB (a b:List UInt8):Bool:=decide (b.length<=a.length/\a.take b.length=b)
def WS (l:List Wd) (s:List UInt8):Nat:=(l.takeWhile fun w=>bu w.1 s).length
def Qa (l:List Wd) (s:List UInt8):Nat:=WS l s+((l.drop (WS l s)).takeWhile fun w=>preB w.1 s).length
end Go.EA
end
section
namespace Go.EA
open F
theorem Kg {l:List Wd}(h:lg l=0):bf l=aJ l/\eO l=0/\isE (aJ l)=0:=by
 have e:bf l=aJ l:=by unfold bf;rw[if_pos h]
 unfold lg at h;split at h
 .rename_i h1;split at h
  .cases h
  .exact⟨e,h1,Bo.2 ⟨CQ h1,qH l,by omega⟩⟩
 .rename_i h1;exact absurd h h1
theorem SmW.norm {l:List Wd}{n:Nat}(h:∀x∈l,x.1.length<=n):∀x∈aJ l,x.1.length<=n:=fun x hx=>by
 obtain⟨z,hz,e⟩:=wC x hx;rw[<- e];exact h z hz
end Go.EA
end
