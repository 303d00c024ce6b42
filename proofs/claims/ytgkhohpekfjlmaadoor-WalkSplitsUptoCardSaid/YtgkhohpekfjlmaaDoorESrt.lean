/- Rows that are sorted in their place: plain laws of exchanges, rotations and merges. Conditions: none. -/
import Derived.Test.YtgkhohpekfjlmaaDoorEK1
set_option linter.unusedVariables false
set_option linter.unusedSimpArgs false
namespace Go.EA
section
variable {α:Type} {l r s:List α} {d:α} {a b m:Nat}
structure SWo (lt:α->α->Bool):Prop where
 irr:∀x,lt x x=false
 ntr:∀x y z,lt x y=false->lt y z=false->lt x z=false
 asy:∀x y,lt x y=true->lt y x=false
structure PI (l r:List α) (a b:Nat):Prop where
 perm:r.Perm l
 out:∀i,(i<a\/b<=i)->r[i]?=l[i]?
def iO (lt:α->α->Bool) (d:α) (r:List α) (a b:Nat):Prop:=∀p q,a<=p->p<q->q<b->lt (r.getD q d) (r.getD p d)=false
theorem PI.refl:PI l l a b:=⟨.refl _,fun _ _=>rfl⟩
theorem PI.trans (h:PI l r a b) (h':PI r s a b):PI l s a b:=⟨h'.perm.trans h.perm,fun i hi=>(h'.out i hi).trans (h.out i hi)⟩
theorem PI.mono {a' b':Nat}(h:PI l r a b) (ha:a'<=a) (hb:b<=b'):PI l r a' b':=⟨h.perm,fun i hi=>h.out i (by omega)⟩
theorem PI.len (h:PI l r a b):r.length=l.length:=h.perm.length_eq
theorem jf (l:List α) (i:Nat) (d:α):l.getD i d=(l[i]?).getD d:=zA ..
theorem PI.outD (h:PI l r a b) {i:Nat}(hi:i<a\/b<=i):r.getD i d=l.getD i d:=by rw[jf,jf,h.out i hi]
theorem NK (l:List α) (hab:a<=b):l=l.take a++((l.drop a).take (b-a)++l.drop b):=by
 conv=>lhs;rw[<- List.take_append_drop a l,<- List.take_append_drop (b-a) (l.drop a),List.drop_drop,show a+(b-a)=b by omega]
theorem PI.seg (h:PI l r a b) (hab:a<=b):((r.drop a).take (b-a)).Perm ((l.drop a).take (b-a)):=by
 have h1:r.take a=l.take a:=by
  apply List.ext_getElem?
  intro i;rw[List.getElem?_take,List.getElem?_take];split
  .exact h.out i (.inl ‹_›)
  .rfl
 have h2:r.drop b=l.drop b:=by
  apply List.ext_getElem?
  intro i;rw[List.getElem?_drop,List.getElem?_drop];exact h.out _ (.inr (by omega))
 have hp:=h.perm;rw[NK r hab,NK l hab,h1,h2] at hp;exact(List.perm_append_right_iff _).1 ((List.perm_append_left_iff _).1 hp)
theorem QR {i:Nat}(hi:a<=i) (hb:i<b) (hl:i<l.length):l.getD i d∈(l.drop a).take (b-a):=by
 rw[jf,zB hl,Option.getD_some,List.mem_iff_getElem?];exact⟨i-a,by rw[List.getElem?_take,if_pos (by omega),List.getElem?_drop,show a+(i-a)=i by omega,zB hl]⟩
theorem TA {x:α}(d:α) (h:x∈(l.drop a).take (b-a)):∃i,a<=i/\i<b/\i<l.length/\l.getD i d=x:=by
 obtain⟨k,hk⟩:=List.mem_iff_getElem?.1 h;rw[List.getElem?_take] at hk;split at hk
 .rw[List.getElem?_drop] at hk;have:=(zI.1 hk).1;exact⟨a+k,by omega,by omega,this,by rw[jf,hk];rfl⟩
 .cases hk
theorem PI.all (h:PI l r a b) {P:α->Prop}(hb:b<=l.length) (hP:∀i,a<=i->i<b->P (l.getD i d)):∀i,a<=i->i<b->P (r.getD i d):=by
 intro i h1 h2;have hm:=(h.seg (by omega)).mem_iff.1 (QR (d:=d) h1 h2 (by rw[h.len];omega));obtain⟨j,j1,j2,_,e⟩:=TA d hm;rw[<- e];exact hP j j1 j2
def oz (l:List α) (d:α) (i j:Nat):List α:=(l.set i (l.getD j d)).set j (l.getD i d)
theorem Kq {i j p:Nat}(hi:i<l.length) (hj:j<l.length):(oz l d i j).getD p d=if p=j then l.getD i d else if p=i then l.getD j d else l.getD p d:=by
 unfold oz;rw[jf,List.getElem?_set];by_cases h:p=j
 .subst h;rw[if_pos rfl,if_pos (by simpa using hj),if_pos rfl];rfl
 .rw[if_neg (Ne.symm h),if_neg h,List.getElem?_set];by_cases h':p=i
  .subst h';rw[if_pos rfl,if_pos hi,if_pos rfl];rfl
  .rw[if_neg (Ne.symm h'),if_neg h',jf]
theorem Ba {i:Nat}(hi:i<l.length):l.set i (l.getD i d)=l:=by
 apply List.ext_getElem?
 intro p;rw[List.getElem?_set];split
 .subst i
  first
   |(rw[if_pos hi,jf,zB hi];rfl)
   |(rw[jf,zB hi];rfl)
 .rfl
theorem LH {i j:Nat}(hij:i<j) (hj:j<l.length):(oz l d i j).Perm l:=by
 have e0:l=l.take i++(l.getD i d::((l.drop (i+1)).take (j-i-1)++(l.getD j d::l.drop (j+1)))):=by
  conv=>lhs;rw[<- List.take_append_drop i l,List.drop_eq_getElem_cons (show i<l.length by omega),<- List.take_append_drop (j-i-1) (l.drop (i+1)),List.drop_drop,show i+1+(j-i-1)=j by omega,List.drop_eq_getElem_cons hj]
  rw[jf,zB (show i<l.length by omega),jf,zB hj];rfl
 have e1:oz l d i j=l.take i++(l.getD j d::((l.drop (i+1)).take (j-i-1)++(l.getD i d::l.drop (j+1)))):=by
  apply List.ext_getElem?
  intro p;have h1:(l.take i).length=i:=by simp;omega
  have h2:((l.drop (i+1)).take (j-i-1)).length=j-i-1:=by simp;omega
  unfold oz;rw[List.getElem?_set,List.getElem?_set,List.getElem?_append,h1,List.length_set];by_cases c1:p<i
  .rw[if_neg (by omega),if_neg (by omega),if_pos c1,List.getElem?_take,if_pos c1]
  .rw[if_neg c1];by_cases c2:p=i
   .subst c2;rw[if_neg (by omega),if_pos rfl,if_pos (by omega)];simp
   .rw[if_neg (Ne.symm c2)];obtain⟨q,rfl⟩:∃q,p=i+1+q:=⟨p-i-1,by omega⟩;rw[show i+1+q-i=q+1 by omega,List.getElem?_cons_succ,List.getElem?_append,h2];by_cases c3:q<j-i-1
    .rw[if_neg (by omega),if_pos c3,List.getElem?_take,if_pos c3,List.getElem?_drop]
    .rw[if_neg c3];by_cases c4:i+1+q=j
     .rw[if_pos c4.symm,if_pos hj,show q-(j-i-1)=0 by omega];rfl
     .rw[if_neg (Ne.symm c4)];obtain⟨u,hu⟩:∃u,q-(j-i-1)=u+1:=⟨q-(j-i-1)-1,by omega⟩;rw[hu,List.getElem?_cons_succ,List.getElem?_drop]
      congr 1
      omega
 rw[e1]
 conv=>rhs;rw[e0]
 refine List.Perm.append_left _ ?_;generalize (l.drop (i+1)).take (j-i-1)=B;generalize l.getD i d=x;generalize l.getD j d=y;generalize l.drop (j+1)=C;have g1:(y::(B++x::C)).Perm (y::x::(B++C)):=List.Perm.cons y List.perm_middle;have g2:(x::(B++y::C)).Perm (x::y::(B++C)):=List.Perm.cons x List.perm_middle;exact g1.trans ((List.Perm.swap x y (B++C)).trans g2.symm)
theorem LP {i j:Nat}(hne:i≠j):oz l d i j=oz l d j i:=by
 unfold oz;rw[List.set_comm _ _ hne]
theorem IA {i j:Nat}(hi:i<l.length) (hj:j<l.length):(oz l d i j).Perm l:=by
 rcases Nat.lt_trichotomy i j with h | h | h
 .exact LH h hj
 .subst h;unfold oz;rw[Ba hi,Ba hi]
 .rw[LP (by omega)];exact LH h hi
theorem OA {i j p:Nat}(h1:p≠i) (h2:p≠j):(oz l d i j)[p]?=l[p]?:=by
 unfold oz;rw[List.getElem?_set_ne (Ne.symm h2),List.getElem?_set_ne (Ne.symm h1)]
theorem Qk {i j:Nat}(hi:a<=i/\i<b) (hj:a<=j/\j<b) (hb:b<=l.length):PI l (oz l d i j) a b:=
 ⟨IA (by omega) (by omega),fun p hp=>OA (by omega) (by omega)⟩
def Yy (l:List α) (a m b:Nat):List α:=l.take a++((l.drop m).take (b-m)++((l.drop a).take (m-a)++l.drop b))
variable {lt:α->α->Bool}
theorem iO.mono {a' b':Nat}(h:iO lt d l a b) (ha:a<=a') (hb:b'<=b):iO lt d l a' b':=fun p q h1 h2 h3=>h p q (by omega) h2 (by omega)
theorem iO.le (hw:SWo lt) (h:iO lt d l a b) {p q:Nat}(h1:a<=p) (h2:p<=q) (h3:q<b):lt (l.getD q d) (l.getD p d)=false:=by
 rcases Nat.lt_or_ge p q with hh | hh
 .exact h p q h1 hh h3
 .rw[show p=q by omega];exact hw.irr _
theorem iO.same (h:iO lt d l a b) (he:∀p,a<=p->p<b->r.getD p d=l.getD p d):iO lt d r a b:=fun p q h1 h2 h3=>by rw[he p h1 (by omega),he q (by omega) h3];exact h p q h1 h2 h3
theorem iO.join (h1:iO lt d l a m) (h2:iO lt d l m b) (hx:∀p q,a<=p->p<m->m<=q->q<b->lt (l.getD q d) (l.getD p d)=false):iO lt d l a b:=by
 intro p q g1 g2 g3;rcases Nat.lt_or_ge p m with c1 | c1
 .rcases Nat.lt_or_ge q m with c2 | c2
  .exact h1 p q g1 g2 c2
  .exact hx p q g1 c1 c2 g3
 .exact h2 p q c1 g2 g3
end
end Go.EA
