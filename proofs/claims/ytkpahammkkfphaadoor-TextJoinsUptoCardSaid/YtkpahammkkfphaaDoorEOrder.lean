/- Texts compare as their runes do. Conditions: none. -/
import Derived.Test.YtkpahammkkfphaaDoorEFirst
import Derived.Lib.Bytealg
set_option linter.unusedVariables false
set_option linter.unusedSimpArgs false
namespace Go.EA
open Go.Lib (compareBytes)
theorem vk:∀{k:Nat}{a b:List UInt8},k<a.length->k<b.length->(∀j,j<k->byt a j=byt b j)->byt a k<byt b k->compareBytes a b = -1
 | 0,x::a,y::b,_,_,_,h=>by
   have h:x<y:=h;unfold compareBytes;rw[if_pos h]
 | k+1,x::a,y::b,h1,h2,he,h=>by
   have h0:x=y:=UInt8.toNat_inj.1 (he 0 (by omega));subst h0;unfold compareBytes;rw[if_neg (UInt8.lt_irrefl x),if_neg (UInt8.lt_irrefl x)];exact vk (k:=k) (by simpa using h1) (by simpa using h2) (fun j hj=>he (j+1) (by omega)) h
 |k,[],_,h,_,_,_=>absurd h (zS k)
 |k,_::_,[],_,h,_,_=>absurd h (zS k)
theorem Db:∀(p a b:List UInt8),compareBytes (p++a) (p++b)=compareBytes a b
 |[],_,_=>rfl
 | x::p,a,b=>by
   show (if x<x then -1 else if x<x then 1 else compareBytes (p++a) (p++b))=_;rw[if_neg (UInt8.lt_irrefl x),if_neg (UInt8.lt_irrefl x),Db p a b]
theorem Dz:∀(a b:List UInt8),compareBytes b a = - compareBytes a b
 |[],[]=>rfl
 |[],_::_=>rfl
 |_::_,[]=>rfl
 | x::a,y::b=>by
   unfold compareBytes;by_cases h:x<y
   .rw[if_pos h,if_neg (fun h2=>UInt8.lt_irrefl x (UInt8.lt_trans h h2)),if_pos h];rfl
   .by_cases h2:y<x
    .rw[if_pos h2,if_neg h,if_pos h2]
    .rw[if_neg h,if_neg h2,if_neg h2,if_neg h,Dz a b]
theorem ym {a b:List UInt8}(ha:a≠[]) (hb:b≠[]) (ra:isR a=true) (rb:isR b=true) (h:(dec a).1<(dec b).1):compareBytes a b = -1:=by
 have wa:=bH ha;have wb:=bH hb;have k0:=bW a 0;have k1:=bW a 1;have k2:=bW a 2;have k3:=bW a 3;have l0:=bW b 0;have l1:=bW b 1;have l2:=bW b 2;have l3:=bW b 3;have z0:byt a 0<byt b 0->compareBytes a b = -1:=fun g=>vk (k:=0) (by omega) (by omega) (fun j hj=>absurd hj (zS j)) g
 have z1:1<(dec a).2->1<(dec b).2->byt a 0=byt b 0->byt a 1<byt b 1->compareBytes a b = -1:=fun p q g0 g=>vk (k:=1) (by omega) (by omega) (fun j hj=>by obtain rfl:j=0:=(by omega);exact g0) g
 have z2:2<(dec a).2->2<(dec b).2->byt a 0=byt b 0->byt a 1=byt b 1->byt a 2<byt b 2->compareBytes a b = -1:=fun p q g0 g1 g=>vk (k:=2) (by omega) (by omega) (fun j hj=>by
  obtain rfl | rfl:j=0\/j=1:=by omega
  .exact g0
  .exact g1) g
 have z3:3<(dec a).2->3<(dec b).2->byt a 0=byt b 0->byt a 1=byt b 1->byt a 2=byt b 2->byt a 3<byt b 3->compareBytes a b = -1:=fun p q g0 g1 g2 g=>vk (k:=3) (by omega) (by omega) (fun j hj=>by
  obtain rfl | rfl | rfl:j=0\/j=1\/j=2:=by omega
  .exact g0
  .exact g1
  .exact g2) g
 rcases jg ha ra with ⟨p,e⟩ | ⟨p,c1,g,e⟩ | ⟨p,c1,c2,g,e⟩ | ⟨p,c1,c2,c3,g,e⟩ <;> rcases jg hb rb with ⟨p',e'⟩ | ⟨p',c1',g',e'⟩ | ⟨p',c1',c2',g',e'⟩ | ⟨p',c1',c2',c3',g',e'⟩ <;> rw[e,e'] at h z1 z2 z3 <;> dsimp only at h z1 z2 z3
 .exact z0 (by omega)
 .exact z0 (by omega)
 .exact z0 (by omega)
 .exact z0 (by omega)
 .omega
 .rw[dN] at c1 c1';by_cases q0:byt a 0<byt b 0
  .exact z0 q0
  .exact z1 (by omega) (by omega) (by omega) (by omega)
 .exact z0 (by omega)
 .exact z0 (by omega)
 .omega
 .omega
 .rw[dN] at c1 c1' c2 c2';by_cases q0:byt a 0<byt b 0
  .exact z0 q0
  .by_cases q1:byt a 1<byt b 1
   .exact z1 (by omega) (by omega) (by omega) q1
   .exact z2 (by omega) (by omega) (by omega) (by omega) (by omega)
 .exact z0 (by omega)
 .have:=aY.1 g.2;omega
 .have:=aY.1 g.2;omega
 .have:=aY.1 g'.2;omega
 .rw[dN] at c1 c1' c2 c2' c3 c3';by_cases q0:byt a 0<byt b 0
  .exact z0 q0
  .by_cases q1:byt a 1<byt b 1
   .exact z1 (by omega) (by omega) (by omega) q1
   .by_cases q2:byt a 2<byt b 2
    .exact z2 (by omega) (by omega) (by omega) (by omega) q2
    .exact z3 (by omega) (by omega) (by omega) (by omega) (by omega) (by omega)
theorem yV:∀(n:Nat) (a b:List UInt8),a.length<=n->aR a=true->aR b=true->cmpL ((runes a).map (·.1)) ((runes b).map (·.1))=compareBytes a b
 |n,[],[],_,_,_=>rfl
 | n,[],y::b,_,_,_=>by
   rw[jD,cK (List.cons_ne_nil y b)]
   rfl
 | n,x::a,[],_,_,_=>by
   rw[jD,cK (List.cons_ne_nil x a)]
   rfl
 |0,x::a,y::b,h,_,_=>by simp at h
 | n+1,x::a,y::b,h,ha,hb=>by
   have na:=List.cons_ne_nil x a;have nb:=List.cons_ne_nil y b;generalize hea:x::a=s at *;generalize heb:y::b=t at *;rw[fT na,zH] at ha;rw[fT nb,zH] at hb;rw[cK na,cK nb,zK,zK];have wa:=bH na;unfold cmpL;dsimp only;by_cases q:(dec s).1<(dec t).1
   .rw[if_pos (by omega),ym na nb ha.1 hb.1 q]
   .rw[if_neg (by omega)];by_cases q2:(dec t).1<(dec s).1
    .rw[if_pos (by omega),Dz t s,ym nb na hb.1 ha.1 q2];rfl
    .rw[if_neg (by omega)];have e:(dec s).1=(dec t).1:=by omega
     rw[yV n _ _ (by rw[List.length_drop];omega) ha.2 hb.2];have e1:=(kM na ha.1).2;have e2:=(kM nb hb.1).2;rw[e] at e1
     conv=>rhs;rw[<- List.take_append_drop (dec s).2 s,<- List.take_append_drop (dec t).2 t,<- e1,<- e2]
     rw[Db]
theorem order {a b:List UInt8}(ha:iL a=0) (hb:iL b=0):cmpL (aS a) (aS b)=compareBytes a b:=by
 have oa:=lN.1 ha;have ob:=lN.1 hb;have:=yV a.length a b (zJ _) oa ob;unfold aS;rw[if_pos oa,if_pos ob];exact this
end Go.EA
