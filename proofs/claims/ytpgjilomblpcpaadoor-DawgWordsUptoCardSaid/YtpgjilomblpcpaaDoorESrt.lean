/- Rows that are sorted in their place: plain laws of exchanges, rotations and merges. Conditions: none. -/
import Derived.Test.YtpgjilomblpcpaaDoorEK1
set_option linter.unusedVariables false
set_option linter.unusedSimpArgs false
namespace Go.EA
section
variable {α:Type} {l r s:List α} {d:α} {a b m:Nat}
structure SWo (lt:α->α->Bool):Prop where
 irr:∀x,lt x x=false
 ntr:∀x y z,lt x y=false->lt y z=false->lt x z=false
 asy:∀x y,lt x y=true->lt y x=false
structure PI (l r:List α) (a b:Nat):Prop where
 perm:r.Perm l
 out:∀i,(i<a\/b<=i)->r[i]?=l[i]?
def aW (lt:α->α->Bool) (d:α) (r:List α) (a b:Nat):Prop:=∀p q,a<=p->p<q->q<b->lt (r.getD q d) (r.getD p d)=false
theorem PI.refl:PI l l a b:=⟨.refl _,fun _ _=>rfl⟩
theorem PI.trans (h:PI l r a b) (h':PI r s a b):PI l s a b:=⟨h'.perm.trans h.perm,fun i hi=>(h'.out i hi).trans (h.out i hi)⟩
theorem PI.mono {a' b':Nat}(h:PI l r a b) (ha:a'<=a) (hb:b<=b'):PI l r a' b':=⟨h.perm,fun i hi=>h.out i (by omega)⟩
theorem PI.len (h:PI l r a b):r.length=l.length:=h.perm.length_eq
theorem gu (l:List α) (i:Nat) (d:α):l.getD i d=(l[i]?).getD d:=zA ..
theorem PI.outD (h:PI l r a b) {i:Nat}(hi:i<a\/b<=i):r.getD i d=l.getD i d:=by rw[gu,gu,h.out i hi]
theorem DY (l:List α) (hab:a<=b):l=l.take a++((l.drop a).take (b-a)++l.drop b):=by
 conv=>lhs;rw[<- List.take_append_drop a l,<- List.take_append_drop (b-a) (l.drop a),List.drop_drop,show a+(b-a)=b by omega]
theorem PI.seg (h:PI l r a b) (hab:a<=b):((r.drop a).take (b-a)).Perm ((l.drop a).take (b-a)):=by
 have h1:r.take a=l.take a:=by
  apply List.ext_getElem?
  intro i;rw[List.getElem?_take,List.getElem?_take];split
  .exact h.out i (.inl ‹_›)
  .rfl
 have h2:r.drop b=l.drop b:=by
  apply List.ext_getElem?
  intro i;rw[List.getElem?_drop,List.getElem?_drop];exact h.out _ (.inr (by omega))
 have hp:=h.perm;rw[DY r hab,DY l hab,h1,h2] at hp;exact(List.perm_append_right_iff _).1 ((List.perm_append_left_iff _).1 hp)
theorem Pg {i:Nat}(hi:a<=i) (hb:i<b) (hl:i<l.length):l.getD i d∈(l.drop a).take (b-a):=by
 rw[gu,zB hl,Option.getD_some,List.mem_iff_getElem?];exact⟨i-a,by rw[List.getElem?_take,if_pos (by omega),List.getElem?_drop,show a+(i-a)=i by omega,zB hl]⟩
theorem Oz {x:α}(d:α) (h:x∈(l.drop a).take (b-a)):∃i,a<=i/\i<b/\i<l.length/\l.getD i d=x:=by
 obtain⟨k,hk⟩:=List.mem_iff_getElem?.1 h;rw[List.getElem?_take] at hk;split at hk
 .rw[List.getElem?_drop] at hk;have:=(zI.1 hk).1;exact⟨a+k,by omega,by omega,this,by rw[gu,hk];rfl⟩
 .cases hk
theorem PI.all (h:PI l r a b) {P:α->Prop}(hb:b<=l.length) (hP:∀i,a<=i->i<b->P (l.getD i d)):∀i,a<=i->i<b->P (r.getD i d):=by
 intro i h1 h2;have hm:=(h.seg (by omega)).mem_iff.1 (Pg (d:=d) h1 h2 (by rw[h.len];omega));obtain⟨j,j1,j2,_,e⟩:=Oz d hm;rw[<- e];exact hP j j1 j2
def jY (l:List α) (d:α) (i j:Nat):List α:=(l.set i (l.getD j d)).set j (l.getD i d)
theorem su (i j:Nat):(jY l d i j).length=l.length:=by simp[jY]
theorem oZ {i j p:Nat}(hi:i<l.length) (hj:j<l.length):(jY l d i j).getD p d=if p=j then l.getD i d else if p=i then l.getD j d else l.getD p d:=by
 unfold jY;rw[gu,List.getElem?_set];by_cases h:p=j
 .subst h;rw[if_pos rfl,if_pos (by simpa using hj),if_pos rfl];rfl
 .rw[if_neg (Ne.symm h),if_neg h,List.getElem?_set];by_cases h':p=i
  .subst h';rw[if_pos rfl,if_pos hi,if_pos rfl];rfl
  .rw[if_neg (Ne.symm h'),if_neg h',gu]
theorem BI {i:Nat}(hi:i<l.length):l.set i (l.getD i d)=l:=by
 apply List.ext_getElem?
 intro p;rw[List.getElem?_set];split
 .subst i
  first
   |(rw[if_pos hi,gu,zB hi];rfl)
   |(rw[gu,zB hi];rfl)
 .rfl
theorem Mq {i j:Nat}(hij:i<j) (hj:j<l.length):(jY l d i j).Perm l:=by
 have e0:l=l.take i++(l.getD i d::((l.drop (i+1)).take (j-i-1)++(l.getD j d::l.drop (j+1)))):=by
  conv=>lhs;rw[<- List.take_append_drop i l,List.drop_eq_getElem_cons (show i<l.length by omega),<- List.take_append_drop (j-i-1) (l.drop (i+1)),List.drop_drop,show i+1+(j-i-1)=j by omega,List.drop_eq_getElem_cons hj]
  rw[gu,zB (show i<l.length by omega),gu,zB hj];rfl
 have e1:jY l d i j=l.take i++(l.getD j d::((l.drop (i+1)).take (j-i-1)++(l.getD i d::l.drop (j+1)))):=by
  apply List.ext_getElem?
  intro p;have h1:(l.take i).length=i:=by simp;omega
  have h2:((l.drop (i+1)).take (j-i-1)).length=j-i-1:=by simp;omega
  unfold jY;rw[List.getElem?_set,List.getElem?_set,List.getElem?_append,h1,List.length_set];by_cases c1:p<i
  .rw[if_neg (by omega),if_neg (by omega),if_pos c1,List.getElem?_take,if_pos c1]
  .rw[if_neg c1];by_cases c2:p=i
   .subst c2;rw[if_neg (by omega),if_pos rfl,if_pos (by omega)];simp
   .rw[if_neg (Ne.symm c2)];obtain⟨q,rfl⟩:∃q,p=i+1+q:=⟨p-i-1,by omega⟩;rw[show i+1+q-i=q+1 by omega,List.getElem?_cons_succ,List.getElem?_append,h2];by_cases c3:q<j-i-1
    .rw[if_neg (by omega),if_pos c3,List.getElem?_take,if_pos c3,List.getElem?_drop]
    .rw[if_neg c3];by_cases c4:i+1+q=j
     .rw[if_pos c4.symm,if_pos hj,show q-(j-i-1)=0 by omega];rfl
     .rw[if_neg (Ne.symm c4)];obtain⟨u,hu⟩:∃u,q-(j-i-1)=u+1:=⟨q-(j-i-1)-1,by omega⟩;rw[hu,List.getElem?_cons_succ,List.getElem?_drop]
      congr 1
      omega
 rw[e1]
 conv=>rhs;rw[e0]
 refine List.Perm.append_left _ ?_;generalize (l.drop (i+1)).take (j-i-1)=B;generalize l.getD i d=x;generalize l.getD j d=y;generalize l.drop (j+1)=C;have g1:(y::(B++x::C)).Perm (y::x::(B++C)):=List.Perm.cons y List.perm_middle;have g2:(x::(B++y::C)).Perm (x::y::(B++C)):=List.Perm.cons x List.perm_middle;exact g1.trans ((List.Perm.swap x y (B++C)).trans g2.symm)
theorem KV {i j:Nat}(hne:i≠j):jY l d i j=jY l d j i:=by
 unfold jY;rw[List.set_comm _ _ hne]
theorem Gy {i j:Nat}(hi:i<l.length) (hj:j<l.length):(jY l d i j).Perm l:=by
 rcases Nat.lt_trichotomy i j with h | h | h
 .exact Mq h hj
 .subst h;unfold jY;rw[BI hi,BI hi]
 .rw[KV (by omega)];exact Mq h hi
theorem IU {i j p:Nat}(h1:p≠i) (h2:p≠j):(jY l d i j)[p]?=l[p]?:=by
 unfold jY;rw[List.getElem?_set_ne (Ne.symm h2),List.getElem?_set_ne (Ne.symm h1)]
theorem Oc {i j:Nat}(hi:a<=i/\i<b) (hj:a<=j/\j<b) (hb:b<=l.length):PI l (jY l d i j) a b:=
 ⟨Gy (by omega) (by omega),fun p hp=>IU (by omega) (by omega)⟩
theorem lJ {l r:List α}(d:α) (hn:l.length=r.length) (h:∀p,p<l.length->l.getD p d=r.getD p d):l=r:=by
 apply List.ext_getElem hn
 intro p h1 h2;have:=h p h1;rw[gu,gu,zB h1,zB h2] at this;exact this
def bU (l:List α) (d:α) (a b:Nat):Nat->List α
 |0=>l
 |n+1=>jY (bU l d a b n) d (a+n) (b+n)
theorem dw (a b n:Nat):(bU l d a b n).length=l.length:=by
 induction n with
 |zero=>rfl
 |succ n ih=>rw[bU,su,ih]
theorem mF:∀{n:Nat}(h1:a+n<=b) (h2:b+n<=l.length) (p:Nat),(bU l d a b n).getD p d=if a<=p/\p<a+n then l.getD (p+(b-a)) d else if b<=p/\p<b+n then l.getD (p-(b-a)) d else l.getD p d
 |0,h1,h2,p=>by rw[if_neg (by omega),if_neg (by omega)];rfl
 | n+1,h1,h2,p=>by
   have e:=fun q=>mF (n:=n) (by omega) (by omega) q
   rw[bU,oZ (by rw[dw];omega) (by rw[dw];omega),e,e,e];by_cases c1:p=b+n
   .subst c1;rw[if_pos rfl,if_neg (by omega),if_neg (by omega),if_neg (by omega),if_pos (by omega)]
    congr 1;omega
   .rw[if_neg c1];by_cases c2:p=a+n
    .subst c2;rw[if_pos rfl,if_neg (by omega),if_neg (by omega),if_pos (by omega)]
     congr 1;omega
    .rw[if_neg c2];by_cases c3:a<=p/\p<a+n
     .rw[if_pos c3,if_pos (by omega)]
     .rw[if_neg c3,if_neg (show ¬ (a<=p/\p<a+(n+1)) by omega)];by_cases c4:b<=p/\p<b+n
      .rw[if_pos c4,if_pos (show b<=p/\p<b+(n+1) by omega)]
      .rw[if_neg c4,if_neg (show ¬ (b<=p/\p<b+(n+1)) by omega)]
def aV (l:List α) (a m b:Nat):List α:=l.take a++((l.drop m).take (b-m)++((l.drop a).take (m-a)++l.drop b))
theorem dS (h1:a<=m) (h2:m<=b) (h3:b<=l.length):(aV l a m b).length=l.length:=by
 simp[aV];omega
theorem pG (h1:a<=m) (h2:m<=b) (h3:b<=l.length) (p:Nat):(aV l a m b)[p]?=if p<a then l[p]? else if p<a+(b-m) then l[p+(m-a)]? else if p<b then l[p-(b-m)]? else l[p]?:=by
 have e1:(l.take a).length=a:=by simp;omega
 have e2:((l.drop m).take (b-m)).length=b-m:=by simp;omega
 have e3:((l.drop a).take (m-a)).length=m-a:=by simp;omega
 unfold aV;rw[List.getElem?_append,e1];by_cases c1:p<a
 .rw[if_pos c1,if_pos c1,List.getElem?_take,if_pos c1]
 .rw[if_neg c1,if_neg c1,List.getElem?_append,e2];by_cases c2:p<a+(b-m)
  .rw[if_pos (by omega),if_pos c2,List.getElem?_take,if_pos (by omega),List.getElem?_drop]
   congr 1;omega
  .rw[if_neg (by omega),if_neg c2,List.getElem?_append,e3];by_cases c3:p<b
   .rw[if_pos (by omega),if_pos c3,List.getElem?_take,if_pos (by omega),List.getElem?_drop]
    congr 1;omega
   .rw[if_neg (by omega),if_neg c3,List.getElem?_drop]
    congr 1;omega
theorem dz (h1:a<=m) (h2:m<=b) (h3:b<=l.length) (p:Nat):(aV l a m b).getD p d=if p<a then l.getD p d else if p<a+(b-m) then l.getD (p+(m-a)) d else if p<b then l.getD (p-(b-m)) d else l.getD p d:=by
 simp only[gu];rw[pG h1 h2 h3]
 repeat' split
 all_goals rfl
theorem Hg (h1:a<=m) (h2:m<=b):(aV l a m b).Perm l:=by
 have e:l=l.take a++((l.drop a).take (m-a)++((l.drop m).take (b-m)++l.drop b)):=by
  conv=>lhs;rw[DY l h1,<- List.take_append_drop (b-m) (l.drop m),List.drop_drop,show m+(b-m)=b by omega]
 conv=>rhs;rw[e]
 refine List.Perm.append_left _ ?_;rw[<- zO,<- zO];exact List.Perm.append_right _ List.perm_append_comm
theorem wT (h1:a<=m) (h2:m<=b) (h3:b<=l.length):PI l (aV l a m b) a b:=by
 refine⟨Hg h1 h2,fun i hi=>?_⟩;rw[pG h1 h2 h3];rcases hi with hi | hi
 .rw[if_pos hi]
 .rw[if_neg (by omega),if_neg (by omega),if_neg (by omega)]
theorem TS {i j:Nat}(hj:0<j) (hi:i<=m) (hb:m+j<=r.length) (h:j<i):aV (bU r d (m-i) m j) (m-(i-j)) m (m+j)=aV r (m-i) m (m+j):=by
 refine lJ d (by rw[dS (by omega) (by omega) (by rw[dw];omega),dS (by omega) (by omega) hb,dw]) fun p hp=>?_
 rw[dz (by omega) (by omega) (by rw[dw];omega),dz (by omega) (by omega) hb];simp only[mF (show m-i+j<=m by omega) hb];by_cases c1:p<m-i
 .rw[if_pos (show p<m-(i-j) by omega),if_pos c1,if_neg (by omega),if_neg (by omega)]
 .rw[if_neg c1];by_cases c2:p<m-i+(m+j-m)
  .rw[if_pos c2,if_pos (show p<m-(i-j) by omega),if_pos (by omega)]
  .rw[if_neg c2,if_neg (show ¬ p<m-(i-j) by omega)];by_cases c3:p<m+j
   .rw[if_pos c3];by_cases c4:p<m-(i-j)+(m+j-m)
    .rw[if_pos c4,if_neg (by omega),if_pos (by omega),if_pos c3]
     congr 1;omega
    .rw[if_neg c4,if_pos c3,if_neg (by omega),if_neg (by omega)]
   .rw[if_neg c3,if_neg (by omega),if_neg c3,if_neg (by omega),if_neg (by omega)]
theorem TU {i j:Nat}(hj:0<i) (hi:i<=m) (hb:m+j<=r.length) (h:i<j):aV (bU r d (m-i) (m+j-i) i) (m-i) m (m+(j-i))=aV r (m-i) m (m+j):=by
 refine lJ d (by rw[dS (by omega) (by omega) (by rw[dw];omega),dS (by omega) (by omega) hb,dw]) fun p hp=>?_
 rw[dz (by omega) (by omega) (by rw[dw];omega),dz (by omega) (by omega) hb];simp only[mF (show m-i+i<=m+j-i by omega) (show m+j-i+i<=r.length by omega)];by_cases c1:p<m-i
 .rw[if_pos c1,if_pos c1,if_neg (by omega),if_neg (by omega)]
 .rw[if_neg c1,if_neg c1];by_cases c2:p<m-i+(m+(j-i)-m)
  .rw[if_pos c2,if_pos (show p<m-i+(m+j-m) by omega),if_neg (by omega),if_neg (by omega)]
  .rw[if_neg c2];by_cases c3:p<m+(j-i)
   .rw[if_pos c3,if_pos (by omega),if_pos (by omega)]
    congr 1;omega
   .rw[if_neg c3];by_cases c4:p<m+j
    .rw[if_neg (by omega),if_pos (by omega),if_neg (show ¬ p<m-i+(m+j-m) by omega),if_pos c4]
     congr 1;omega
    .rw[if_neg (by omega),if_neg (by omega),if_neg (by omega),if_neg c4]
theorem TN {i:Nat}(hi:i<=m) (hb:m+i<=r.length):bU r d (m-i) m i=aV r (m-i) m (m+i):=by
 refine lJ d (by rw[dS (by omega) (by omega) hb,dw]) fun p hp=>?_
 rw[dz (by omega) (by omega) hb,mF (by omega) hb];by_cases c1:p<m-i
 .rw[if_pos c1,if_neg (by omega),if_neg (by omega)]
 .rw[if_neg c1];by_cases c2:p<m-i+(m+i-m)
  .rw[if_pos c2,if_pos (by omega)]
  .rw[if_neg c2,if_neg (by omega)];by_cases c3:p<m+i
   .rw[if_pos c3,if_pos (by omega)]
    congr 1;omega
   .rw[if_neg c3,if_neg (by omega)]
theorem Sb {k:Nat}(ha:a<=k) (hk:k+2<=l.length):jY (aV l a (a+1) (k+1)) d k (k+1)=aV l a (a+1) (k+2):=by
 have hl:=dS (l:=l) (a:=a) (m:=a+1) (b:=k+1) (by omega) (by omega) (by omega);refine lJ d (by rw[su,hl,dS (by omega) (by omega) (by omega)]) fun p hp=>?_
 rw[oZ (by omega) (by omega)];simp only[dz (show a<=a+1 by omega) (show a+1<=k+1 by omega) (show k+1<=l.length by omega),dz (show a<=a+1 by omega) (show a+1<=k+2 by omega) hk];by_cases c1:p=k+1
 .subst c1;rw[if_pos rfl,if_neg (by omega),if_neg (by omega),if_pos (by omega),if_neg (by omega),if_neg (by omega),if_pos (by omega)]
  congr 1;omega
 .rw[if_neg c1];by_cases c2:p=k
  .subst c2;rw[if_pos rfl,if_neg (by omega),if_neg (by omega),if_neg (by omega),if_neg (by omega),if_pos (by omega)]
   congr 1;omega
  .rw[if_neg c2];by_cases c3:p<a
   .rw[if_pos c3,if_pos c3]
   .rw[if_neg c3,if_neg c3];by_cases c4:p<k
    .rw[if_pos (by omega),if_pos (by omega)]
    .rw[if_neg (by omega),if_neg (by omega),if_neg (by omega),if_neg (by omega)]
theorem PZ (hk:a+1<=l.length):aV l a (a+1) (a+1)=l:=by
 refine(List.ext_getElem? fun p=>?_);rw[pG (by omega) (by omega) hk]
 repeat' split
 all_goals first | rfl | (congr 1;omega)
theorem Uf {k:Nat}(ha:k+1<=m) (hk:m+1<=l.length):jY (aV l (k+1) m (m+1)) d (k+1) k=aV l k m (m+1):=by
 have hl:=dS (l:=l) (a:=k+1) (m:=m) (b:=m+1) (by omega) (by omega) (by omega);refine lJ d (by rw[su,hl,dS (by omega) (by omega) (by omega)]) fun p hp=>?_
 rw[oZ (by omega) (by omega)];simp only[dz (show k+1<=m by omega) (show m<=m+1 by omega) hk,dz (show k<=m by omega) (show m<=m+1 by omega) hk];by_cases c1:p=k
 .subst c1;rw[if_pos rfl,if_neg (by omega),if_pos (by omega),if_neg (by omega),if_pos (by omega)]
  congr 1;omega
 .rw[if_neg c1];by_cases c2:p=k+1
  .subst c2;rw[if_pos rfl,if_pos (by omega),if_neg (by omega),if_neg (by omega),if_pos (by omega)]
   congr 1;omega
  .rw[if_neg c2];by_cases c3:p<k
   .rw[if_pos (by omega),if_pos c3]
   .rw[if_neg (show ¬ p<k+1 by omega),if_neg (show ¬ p<k+1+(m+1-m) by omega),if_neg c3,if_neg (show ¬ p<k+(m+1-m) by omega)]
theorem Pm (hk:m+1<=l.length):aV l m m (m+1)=l:=by
 refine(List.ext_getElem? fun p=>?_);rw[pG (by omega) (by omega) hk]
 repeat' split
 all_goals first | rfl | (congr 1;omega)
variable {lt:α->α->Bool}
theorem aW.mono {a' b':Nat}(h:aW lt d l a b) (ha:a<=a') (hb:b'<=b):aW lt d l a' b':=fun p q h1 h2 h3=>h p q (by omega) h2 (by omega)
theorem aW.le (hw:SWo lt) (h:aW lt d l a b) {p q:Nat}(h1:a<=p) (h2:p<=q) (h3:q<b):lt (l.getD q d) (l.getD p d)=false:=by
 rcases Nat.lt_or_ge p q with hh | hh
 .exact h p q h1 hh h3
 .rw[show p=q by omega];exact hw.irr _
theorem aW.same (h:aW lt d l a b) (he:∀p,a<=p->p<b->r.getD p d=l.getD p d):aW lt d r a b:=fun p q h1 h2 h3=>by rw[he p h1 (by omega),he q (by omega) h3];exact h p q h1 h2 h3
theorem aW.join (h1:aW lt d l a m) (h2:aW lt d l m b) (hx:∀p q,a<=p->p<m->m<=q->q<b->lt (l.getD q d) (l.getD p d)=false):aW lt d l a b:=by
 intro p q g1 g2 g3;rcases Nat.lt_or_ge p m with c1 | c1
 .rcases Nat.lt_or_ge q m with c2 | c2
  .exact h1 p q g1 g2 c2
  .exact hx p q g1 c1 c2 g3
 .exact h2 p q c1 g2 g3
theorem OA (hw:SWo lt) {i:Nat}(hs:aW lt d l (a+1) b) (hi:a+1<=i) (hib:i<=b) (hb:b<=l.length) (h1:∀h,a+1<=h->h<i->lt (l.getD h d) (l.getD a d)=true) (h2:∀h,i<=h->h<b->lt (l.getD h d) (l.getD a d)=false):aW lt d (aV l a (a+1) i) a b:=by
 intro p q g1 g2 g3;rw[dz (by omega) hi (by omega),dz (by omega) hi (by omega),if_neg (by omega),if_neg (show ¬ p<a by omega)];by_cases c1:q<a+(i-(a+1))
 .rw[if_pos c1,if_pos (by omega)];exact hs _ _ (by omega) (by omega) (by omega)
 .rw[if_neg c1];by_cases c2:q<i
  .rw[if_pos c2,if_pos (by omega),show q-(i-(a+1))=a by omega];exact hw.asy _ _ (h1 _ (by omega) (by omega))
  .rw[if_neg c2];by_cases c3:p<a+(i-(a+1))
   .rw[if_pos c3];exact hs.le hw (by omega) (by omega) (by omega)
   .rw[if_neg c3];by_cases c4:p<i
    .rw[if_pos c4,show p-(i-(a+1))=a by omega];exact h2 _ (by omega) (by omega)
    .rw[if_neg c4];exact hs _ _ (by omega) (by omega) (by omega)
theorem Og (hw:SWo lt) {i:Nat}(hs:aW lt d l a m) (hi:a<=i) (him:i<=m) (hb:m+1<=l.length) (h1:∀h,a<=h->h<i->lt (l.getD m d) (l.getD h d)=false) (h2:∀h,i<=h->h<m->lt (l.getD m d) (l.getD h d)=true):aW lt d (aV l i m (m+1)) a (m+1):=by
 intro p q g1 g2 g3;rw[dz him (by omega) hb,dz him (by omega) hb];by_cases c1:q<i
 .rw[if_pos c1,if_pos (by omega)];exact hs _ _ (by omega) (by omega) (by omega)
 .rw[if_neg c1];by_cases c2:q<i+(m+1-m)
  .rw[if_pos c2,if_pos (by omega),show q+(m-i)=m by omega];exact h1 _ (by omega) (by omega)
  .rw[if_neg c2,if_pos (by omega)];by_cases c3:p<i
   .rw[if_pos c3];exact hs.le hw (by omega) (by omega) (by omega)
   .rw[if_neg c3];by_cases c4:p<i+(m+1-m)
    .rw[if_pos c4,show p+(m-i)=m by omega];exact hw.asy _ _ (h2 _ (by omega) (by omega))
    .rw[if_neg c4,if_pos (by omega)];exact hs _ _ (by omega) (by omega) (by omega)
theorem HY (hw:SWo lt) {st mid n lo hi:Nat}(hs1:aW lt d l a m) (hs2:aW lt d l m b) (ham:a<=m) (hmb:m<=b) (hb:b<=l.length) (hmid:mid=(a+b) / 2) (hn:n=mid+m) (hlo:lo=if m > mid then n-b else a) (hhi:hi=if m > mid then mid else m)
 (g1:lo<=st) (g2:st<=hi) (h1:∀c,lo<=c->c<st->lt (l.getD (n-1-c) d) (l.getD c d)=false) (h2:∀c,st<=c->c<hi->lt (l.getD (n-1-c) d) (l.getD c d)=true) :
 a<=st/\st<=m/\m<=n-st/\n-st<=b/\st<=mid/\mid<=n-st/\aW lt d (aV l st m (n-st)) a st/\aW lt d (aV l st m (n-st)) st mid/\aW lt d (aV l st m (n-st)) mid (n-st)/\aW lt d (aV l st m (n-st)) (n-st) b/\
 ∀p q,a<=p->p<mid->mid<=q->q<b->lt ((aV l st m (n-st)).getD q d) ((aV l st m (n-st)).getD p d)=false:=by
 have hlo':a<=lo:=by rw[hlo]; split <;> omega
 have hhi':hi<=m:=by rw[hhi]; split <;> omega
 have hhim:hi<=mid:=by rw[hhi]; split <;> omega
 have he1:m<=n-st:=by omega
 have he2:n-st<=b:=by rw[hlo] at g1; split at g1 <;> omega
 have k1:a<=st:=by omega
 have k2:st<=m:=by omega
 have hr:=fun p=>dz (l:=l) (d:=d) (a:=st) (m:=m) (b:=n-st) k2 he1 (by omega) p
 refine⟨k1,k2,he1,he2,by omega,by omega,?_,?_,?_,?_,?_⟩
 .refine aW.same (hs1.mono (zJ _) k2) fun p p1 p2=>?_
  rw[hr,if_pos p2]
 .intro p q q1 q2 q3;rw[hr,hr,if_neg (by omega),if_neg (show ¬ p<st by omega),if_pos (by omega),if_pos (by omega)];exact hs2 _ _ (by omega) (by omega) (by omega)
 .intro p q q1 q2 q3;rw[hr,hr,if_neg (by omega),if_neg (show ¬ p<st by omega),if_neg (by omega),if_neg (show ¬ p<st+(n-st-m) by omega),if_pos q3,if_pos (by omega)];exact hs1 _ _ (by omega) (by omega) (by omega)
 .refine aW.same (hs2.mono he1 (zJ _)) fun p p1 p2=>?_
  rw[hr,if_neg (by omega),if_neg (by omega),if_neg (by omega)]
 .
  have x1:∀i j,a<=i->i<st->n-st<=j->j<b->lt (l.getD j d) (l.getD i d)=false:=by
   intro i j i1 i2 j1 j2;have hst:lo<st:=by
    rcases Nat.lt_or_ge lo st with h | h
    .exact h
    .exfalso;have:st=lo:=by omega
     rw[hlo] at this;split at this <;> omega
   have:=h1 (st-1) (by omega) (by omega);rw[show n-1-(st-1)=n-st by omega] at this;exact hw.ntr _ _ _ (hs2.le hw he1 j1 j2) (hw.ntr _ _ _ this (hs1.le hw i1 (by omega) (by omega)))
  have x2:∀i j,st<=i->i<m->m<=j->j<n-st->lt (l.getD i d) (l.getD j d)=false:=by
   intro i j i1 i2 j1 j2;have hst:st<hi:=by
    rcases Nat.lt_or_ge st hi with h | h
    .exact h
    .exfalso;have:st=hi:=by omega
     rw[hhi] at this;split at this <;> omega
   have:=hw.asy _ _ (h2 st (zJ _) hst);exact hw.ntr _ _ _ (hs1.le hw k1 i1 i2) (hw.ntr _ _ _ this (hs2.le hw (by omega) (show j<=n-1-st by omega) (by omega)))
  intro p q p1 p2 q1 q2;have eq:(aV l st m (n-st)).getD q d=if q<n-st then l.getD (q-(n-st-m)) d else l.getD q d:=by rw[hr,if_neg (by omega),if_neg (by omega)]
  have ep:(aV l st m (n-st)).getD p d=if p<st then l.getD p d else l.getD (p+(m-st)) d:=by
   rw[hr];by_cases c:p<st
   .rw[if_pos c,if_pos c]
   .rw[if_neg c,if_neg c,if_pos (by omega)]
  rw[eq,ep];by_cases c1:p<st
  .rw[if_pos c1];by_cases c2:q<n-st
   .rw[if_pos c2];exact hs1.le hw p1 (by omega) (by omega)
   .rw[if_neg c2];exact x1 _ _ p1 c1 (by omega) q2
  .rw[if_neg c1];by_cases c2:q<n-st
   .rw[if_pos c2];exact x2 _ _ (by omega) (by omega) (by omega) (by omega)
   .rw[if_neg c2];exact hs2.le hw (by omega) (by omega) q2
theorem Ht {r2:List α}{mid:Nat}(hb:b<=l.length) (h1:a<=mid) (h2:mid<=b) (hx:∀p q,a<=p->p<mid->mid<=q->q<b->lt (l.getD q d) (l.getD p d)=false) (p1:PI l r a mid) (s1:aW lt d r a mid) (p2:PI r r2 mid b) (s2:aW lt d r2 mid b):PI l r2 a b/\aW lt d r2 a b:=by
 refine⟨(p1.mono (zJ _) h2).trans (p2.mono h1 (zJ _)),aW.join (s1.same fun p q1 q2=>p2.outD (.inl q2)) s2 ?_⟩;intro p q g1 g2 g3 g4;rw[p2.outD (i:=p) (.inl g2)];refine p2.all (d:=d) (P:=fun y=>lt y (r.getD p d)=false) (by rw[p1.len];exact hb) (fun j j1 j2=>?_) q g3 g4;rw[p1.outD (i:=j) (.inr j1)];exact p1.all (d:=d) (P:=fun x=>lt (l.getD j d) x=false) (by omega) (fun i i1 i2=>hx i j i1 i2 j1 j2) p g1 g2
end
end Go.EA
