/- A text with others in its tokens' places: the plain law. Conditions: none. -/
import Derived.Test.YtkpahammkkfphaaDoorESpan3
set_option linter.unusedVariables false
set_option linter.unusedSimpArgs false
namespace Go.EA
abbrev Sp3:=Int×Int×Bool
def gm (s:List UInt8) (a b:Int):List UInt8:=(s.drop a.toNat).take (b.toNat-a.toNat)
def jnR (s:List UInt8):List Sp3->List (List UInt8)->List UInt8
 |[],_=>[]
 |x::r,ts=>if x.2.2=true then ts.headD []++jnR s r ts.tail else gm s x.1 x.2.1++jnR s r ts
def eH (l:List Sp3):Nat:=(l.filter (·.2.2)).length
def ko (l:List (List UInt8)):Nat:=(l.map List.length).sum
def gZ (s:List UInt8) (l:List Sp3):Bool:=decide (spE s=0)&&decide (spL s=l)
def jnT (s:List UInt8) (l:List Sp3) (q:List (List UInt8)):List UInt8:=if gZ s l=true/\eH l=q.length then jnR s l q else []
def jnE (s:List UInt8) (l:List Sp3) (q:List (List UInt8)):Int:=if gZ s l=true then if eH l=q.length then 0 else 2 else 7
theorem gT {l:List Sp3}{i:Nat}(h:i<l.length):eH (l.take (i+1))=eH (l.take i)+if (l.getD i (0,0,false)).2.2=true then 1 else 0:=by
 unfold eH;rw[List.take_add_one,zB h,List.filter_append,zL,zA,zB h]
 congr 1
 simp only[Option.toList_some,Option.getD_some,List.filter_cons];split <;> simp
theorem GQ (l:List Sp3) (i:Nat):eH (l.take i)<=eH l:=((List.take_sublist i l).filter _).length_le
theorem yz {s:List UInt8}(h:spE s=0):s.length<=1048576:=by
 apply Decidable.byContradiction
 intro hn;unfold spE at h;rw[if_pos (by omega)] at h;exact absurd h (by decide)
theorem Jg {s:List UInt8}(h:spE s=0) (h1:spL s=[]):s=[]:=by
 have hs:s.length<=1048576:=by
  apply Decidable.byContradiction
  intro hn;unfold spE at h;rw[if_pos (by omega)] at h;exact absurd h (by decide)
 have hk:=(JX hs).1 h;have e:spL s=spans 0 (grp (rn s)):=by unfold spL;rw[if_pos ⟨by omega,hk⟩]
 have h1:(spL s).length=0:=by rw[h1];rfl
 rw[e,iq] at h1;have h2:rn s=[]:=by
  cases hr:rn s with
  |nil=>rfl
  |cons r q=>exact absurd (zT h1) (Jd (by rw[hr];simp))
 rw[<- nK hk,h2];rfl
def stA (s:List UInt8) (i:Nat):Int:=if i<(spL s).length then ((spL s).getD i (0,0,false)).1 else s.length
theorem tK (s:List UInt8) (h:spE s=0):stA s 0=0:=by
 unfold stA;split
 .next h1=>exact(gG h1).1 rfl
 .next h1=>
  have h2:spL s=[]:=zT (by omega);by_cases hs:s=[]
  .subst hs;rfl
  .exact absurd (Jg h h2) hs
theorem lL {s:List UInt8}{i:Nat}(h:i<(spL s).length):stA s i=((spL s).getD i (0,0,false)).1:=if_pos h
theorem jy {s:List UInt8}{i:Nat}(h:i<(spL s).length):stA s (i+1)=((spL s).getD i (0,0,false)).2.1:=by
 unfold stA;split
 .next h1=>exact((gG h1).nxt i rfl).1.symm
 .next h1=>exact((gG h).lst (by omega)).symm
theorem Ea {s:List UInt8}{i:Nat}(h:i<(spL s).length):stA s i<stA s (i+1):=by
 rw[lL h,jy h];exact(gG h).lt
theorem EQ {s:List UInt8}{i:Nat}:0<=stA s i:=by
 unfold stA;split
 .next h=>exact(gG h).lo
 .omega
theorem Ja {s:List UInt8}{i:Nat}:stA s i<=s.length:=by
 unfold stA;split
 .next h=>have:=gG h;have:=this.lt;have:=(gG h).hi;omega
 .omega
theorem EN {s:List UInt8}{a b c:Int}(h0:0<=a) (h1:a<=b) (h2:b<=c):gm s a b++gm s b c=gm s a c:=by
 unfold gm;have e:(s.drop b.toNat)=(s.drop a.toNat).drop (b.toNat-a.toNat):=by rw[List.drop_drop];congr 1;omega
 rw[e,show c.toNat-a.toNat=(b.toNat-a.toNat)+(c.toNat-b.toNat) by omega,List.take_add]
theorem oU {s:List UInt8}{a:Int}:gm s a a=[]:=by unfold gm;simp
theorem Eg {s:List UInt8}{a:Int}:gm s a s.length=s.drop a.toNat:=by
 unfold gm;rw[List.take_of_length_le (by simp)]
theorem yM {l:List Sp3}{i:Nat}(h:i<l.length):l.drop i=l.getD i (0,0,false)::l.drop (i+1):=by
 rw[zA,zB h];exact List.drop_eq_getElem_cons h
theorem Iy {s:List UInt8}{i:Nat}{ts:List (List UInt8)}(h:i<(spL s).length) (hb:((spL s).getD i (0,0,false)).2.2=false) {a:Int}(h0:0<=a) (ha:a<=stA s i):gm s a (stA s (i+1))++jnR s ((spL s).drop (i+1)) ts=gm s a (stA s i)++jnR s ((spL s).drop i) ts:=by
 rw[yM h,jnR,if_neg (by rw[hb];simp),<- zO]
 congr 1
 rw[lL h,jy h];rw[lL h] at ha;exact(EN h0 ha (Int.le_of_lt (gG h).lt)).symm
theorem Di {s:List UInt8}{i k:Nat}{q:List (List UInt8)}(h:i<(spL s).length) (hb:((spL s).getD i (0,0,false)).2.2=true) (hk:k<q.length):jnR s ((spL s).drop i) (q.drop k)=q.getD k []++jnR s ((spL s).drop (i+1)) (q.drop (k+1)):=by
 rw[yM h,jnR,if_pos hb];have e:q.drop k=q.getD k []::q.drop (k+1):=by
  rw[zA,zB hk];exact List.drop_eq_getElem_cons hk
 rw[e];rfl
theorem HZ {s:List UInt8}{i k:Nat}{q:List (List UInt8)}(h:i<(spL s).length) (hb:((spL s).getD i (0,0,false)).2.2=true) (hk:¬ k<q.length):jnR s ((spL s).drop i) (q.drop k)=jnR s ((spL s).drop (i+1)) (q.drop (k+1)):=by
 have e1:q.drop k=[]:=List.drop_eq_nil_of_le (by omega);have e2:q.drop (k+1)=[]:=List.drop_eq_nil_of_le (by omega);rw[yM h,jnR,if_pos hb,e1,e2];rfl
theorem qU (x:List UInt8) (l:List (List UInt8)):ko (x::l)=x.length+ko l:=by simp[ko]
theorem Bu (l:List (List UInt8)):(l.headD []).length+ko l.tail=ko l:=by
 cases l with
 |nil=>rfl
 |cons x l=>rw[qU];rfl
theorem nU {s:List UInt8}:∀(n i:Nat) (ts:List (List UInt8)),(spL s).length=i+n->(jnR s ((spL s).drop i) ts).length+(stA s i).toNat<=s.length+ko ts
 | 0,i,ts,h=>by
   rw[List.drop_eq_nil_of_le (by omega)];have:=Ja (s:=s) (i:=i);simp only[jnR,List.length_nil];omega
 | n+1,i,ts,h=>by
   have hi:i<(spL s).length:=by omega
   have h1:=Ea hi;have h2:=EQ (s:=s) (i:=i);rw[yM hi,jnR];split
   .have:=nU (s:=s) n (i+1) ts.tail (by omega);have h3:=Bu ts;rw[zL];omega
   .have:=nU (s:=s) n (i+1) ts (by omega);rw[zL];have h3:(gm s ((spL s).getD i (0,0,false)).1 ((spL s).getD i (0,0,false)).2.1).length<=(stA s (i+1)).toNat-(stA s i).toNat:=by
     rw[jy hi,lL hi];unfold gm;rw[zP];omega
    omega
end Go.EA
