/- The first rune of some bytes, by its bytes. Conditions: none. -/
import Derived.Test.YtkpahammkkfphaaDoorEMean2
set_option linter.unusedVariables false
set_option linter.unusedSimpArgs false
namespace Go.EA
theorem bW (s:List UInt8) (k:Nat):byt s k<256:=(s.getD k 0).toNat_lt
theorem tk1:∀{l:List UInt8},1<=l.length->l.take 1=[l.getD 0 0]
 |_::_,_=>by simp
theorem tk2:∀{l:List UInt8},2<=l.length->l.take 2=[l.getD 0 0,l.getD 1 0]
 |[_],h=>by simp at h
 |_::_::_,_=>by simp
theorem tk3:∀{l:List UInt8},3<=l.length->l.take 3=[l.getD 0 0,l.getD 1 0,l.getD 2 0]
 |[_],h=>by simp at h
 |[_,_],h=>by simp at h
 |_::_::_::_,_=>by simp
theorem tk4:∀{l:List UInt8},4<=l.length->l.take 4=[l.getD 0 0,l.getD 1 0,l.getD 2 0,l.getD 3 0]
 |[_],h=>by simp at h
 |[_,_],h=>by simp at h
 |[_,_,_],h=>by simp at h
 |_::_::_::_::_,_=>by simp
theorem of8 {m:Nat}{x:UInt8}(h:m=x.toNat):UInt8.ofNat m=x:=by subst h;exact UInt8.ofNat_toNat
theorem jg {s:List UInt8}(h:s≠[]) (hr:isR s=true) :
 (byt s 0<0x80/\dec s=(byt s 0,1))
 \/ (byt s 0 / 32=6/\ct s 1=true/\(byt s 0 % 32)*64+byt s 1 % 64 ≥ 0x80/\dec s=((byt s 0 % 32)*64+byt s 1 % 64,2))
 \/ (byt s 0 / 16=14/\ct s 1=true/\ct s 2=true/\((byt s 0 % 16)*4096+(byt s 1 % 64)*64+byt s 2 % 64 ≥ 0x800/\Utf8.valid ((byt s 0 % 16)*4096+(byt s 1 % 64)*64+byt s 2 % 64:Nat)=true)/\dec s=((byt s 0 % 16)*4096+(byt s 1 % 64)*64+byt s 2 % 64,3))
 \/ (byt s 0 / 8=30/\ct s 1=true/\ct s 2=true/\ct s 3=true/\((byt s 0 % 8)*262144+(byt s 1 % 64)*4096+(byt s 2 % 64)*64+byt s 3 % 64 ≥ 0x10000/\Utf8.valid ((byt s 0 % 8)*262144+(byt s 1 % 64)*4096+(byt s 2 % 64)*64+byt s 3 % 64:Nat)=true)/\dec s=((byt s 0 % 8)*262144+(byt s 1 % 64)*4096+(byt s 2 % 64)*64+byt s 3 % 64,4)):=by
 unfold isR at hr;rw[Cu h] at hr ⊢;unfold xk at hr ⊢;split at hr
 .rename_i h1;rw[if_pos h1];exact .inl ⟨h1,rfl⟩
 .rename_i h1;rw[if_neg h1];split at hr
  .rename_i h2;rw[if_pos h2];simp only[zH,beq_iff_eq] at h2;split at hr
   .rename_i h3;rw[if_pos h3];exact .inr (.inl ⟨h2.1,h2.2,h3,rfl⟩)
   .simp at hr
  .rename_i h2;rw[if_neg h2];split at hr
   .rename_i h3;rw[if_pos h3];simp only[zH,beq_iff_eq] at h3;split at hr
    .rename_i h4;rw[if_pos h4];simp only[zH,decide_eq_true_eq] at h4;exact .inr (.inr (.inl ⟨h3.1.1,h3.1.2,h3.2,h4,rfl⟩))
    .simp at hr
   .rename_i h3;rw[if_neg h3];split at hr
    .rename_i h4;rw[if_pos h4];simp only[zH,beq_iff_eq] at h4;split at hr
     .rename_i h5;rw[if_pos h5];simp only[zH,decide_eq_true_eq] at h5;exact .inr (.inr (.inr ⟨h4.1.1.1,h4.1.1.2,h4.1.2,h4.2,h5,rfl⟩))
     .simp at hr
    .simp at hr
theorem kM {s:List UInt8}(h:s≠[]) (hr:isR s=true):Utf8.valid ((dec s).1:Int)=true/\bC ((dec s).1:Int)=s.take (dec s).2:=by
 have k0:=bW s 0;have k1:=bW s 1;have k2:=bW s 2;have k3:=bW s 3;have hw:=bH h;rcases jg h hr with ⟨a,e⟩ | ⟨a,c1,g,e⟩ | ⟨a,c1,c2,g,e⟩ | ⟨a,c1,c2,c3,g,e⟩ <;> rw[e] at hw ⊢ <;> dsimp only at hw ⊢
 .have hv:Utf8.valid ((byt s 0:Nat):Int)=true:=aY.2 (by omega);refine⟨hv,?_⟩;rw[dJ hv,if_pos (by omega),tk1 hw.2];simp only[zG,and_true];exact of8 (by unfold byt;omega)
 .rw[dN] at c1;have hv:Utf8.valid (((byt s 0 % 32)*64+byt s 1 % 64:Nat):Int)=true:=aY.2 (by omega);refine⟨hv,?_⟩;rw[dJ hv,if_neg (by omega),if_pos (by omega),tk2 hw.2];simp only[zG,and_true];exact⟨of8 (by show _=byt s 0;omega),of8 (by show _=byt s 1;omega)⟩
 .rw[dN] at c1 c2;refine⟨g.2,?_⟩;rw[dJ g.2,if_neg (by omega),if_neg (by omega),if_pos (by omega),tk3 hw.2];simp only[zG,and_true];exact⟨of8 (by show _=byt s 0;omega),of8 (by show _=byt s 1;omega),of8 (by show _=byt s 2;omega)⟩
 .rw[dN] at c1 c2 c3;have hv:=aY.1 g.2;refine⟨g.2,?_⟩;rw[dJ g.2,if_neg (by omega),if_neg (by omega),if_neg (by omega),tk4 hw.2];simp only[zG,and_true];exact⟨of8 (by show _=byt s 0;omega),of8 (by show _=byt s 1;omega),of8 (by show _=byt s 2;omega),of8 (by show _=byt s 3;omega)⟩
theorem e8 {m:Nat}{x:UInt8}(h:UInt8.ofNat m=x) (hm:m<256):m=x.toNat:=by subst h;rw[UInt8.toNat_ofNat'];omega
theorem yl {s:List UInt8}{r:Int}{n:Nat}(hv:Utf8.valid r=true) (hn:n<=s.length) (he:bC r=s.take n):s≠[]/\isR s=true/\dec s=(r.toNat,n):=by
 have hl:(bC r).length=n:=by rw[he,zP];omega
 have h2:=aY.1 hv;have hne:s≠[]:=by
  rintro rfl;rw[List.take_nil] at he;rw[dJ hv] at he;split at he
  .simp at he
  .split at he
   .simp at he
   .split at he <;> simp at he
 have key:dec s=(r.toNat,n):=by
  rw[Cu hne];rw[dJ hv] at he hl;split at he
  .rename_i q1;rw[if_pos q1] at hl;simp only[zM,List.length_nil] at hl;subst hl;rw[tk1 hn] at he;simp only[zG,and_true] at he;have a0:r.toNat=byt s 0:=e8 he (by omega);unfold xk;rw[if_pos (by omega),a0]
  .rename_i q1;rw[if_neg q1] at hl;split at he
   .rename_i q2;rw[if_pos q2] at hl;simp only[zM,List.length_nil] at hl;subst hl;rw[tk2 hn] at he;simp only[zG,and_true] at he;have a0:0xC0+r.toNat / 64=byt s 0:=e8 he.1 (by omega);have a1:0x80+r.toNat % 64=byt s 1:=e8 he.2 (by omega);have c1:ct s 1=true:=dN.2 ⟨by omega,by omega⟩;unfold xk;rw[if_neg (by omega),if_pos (by rw[c1];simp;omega),if_pos (by omega)];exact Prod.ext (by dsimp only;omega) rfl
   .rename_i q2;rw[if_neg q2] at hl;split at he
    .rename_i q3;rw[if_pos q3] at hl;simp only[zM,List.length_nil] at hl;subst hl;rw[tk3 hn] at he;simp only[zG,and_true] at he;have a0:0xE0+r.toNat / 4096=byt s 0:=e8 he.1 (by omega);have a1:0x80+r.toNat / 64 % 64=byt s 1:=e8 he.2.1 (by omega);have a2:0x80+r.toNat % 64=byt s 2:=e8 he.2.2 (by omega);have c1:ct s 1=true:=dN.2 ⟨by omega,by omega⟩;have c2:ct s 2=true:=dN.2 ⟨by omega,by omega⟩;have er:(byt s 0 % 16)*4096+(byt s 1 % 64)*64+byt s 2 % 64=r.toNat:=by omega
     have er2:((r.toNat:Nat):Int)=r:=by omega
     unfold xk;rw[if_neg (by omega),if_neg (by simp;omega),if_pos (by rw[c1,c2];simp;omega),er,if_pos (by rw[er2,hv];simp;omega)]
    .rename_i q3;rw[if_neg q3] at hl;simp only[zM,List.length_nil] at hl;subst hl;rw[tk4 hn] at he;simp only[zG,and_true] at he;have a0:0xF0+r.toNat / 262144=byt s 0:=e8 he.1 (by omega);have a1:0x80+r.toNat / 4096 % 64=byt s 1:=e8 he.2.1 (by omega);have a2:0x80+r.toNat / 64 % 64=byt s 2:=e8 he.2.2.1 (by omega);have a3:0x80+r.toNat % 64=byt s 3:=e8 he.2.2.2 (by omega);have c1:ct s 1=true:=dN.2 ⟨by omega,by omega⟩;have c2:ct s 2=true:=dN.2 ⟨by omega,by omega⟩;have c3:ct s 3=true:=dN.2 ⟨by omega,by omega⟩;have er:(byt s 0 % 8)*262144+(byt s 1 % 64)*4096+(byt s 2 % 64)*64+byt s 3 % 64=r.toNat:=by omega
     have er2:((r.toNat:Nat):Int)=r:=by omega
     unfold xk;rw[if_neg (by omega),if_neg (by simp;omega),if_neg (by simp;omega),if_pos (by rw[c1,c2,c3];simp;omega),er,if_pos (by rw[er2,hv];simp;omega)]
 refine⟨hne,?_,key⟩;unfold isR;rw[key];simp only[Bool.or_eq_true,decide_eq_true_eq];by_cases hq:1<n
 .exact .inr hq
 .left
  have hn1:n=1:=by have:=bH hne;rw[key] at this;dsimp only at this;omega
  subst hn1;rw[dJ hv] at hl;split at hl
  .omega
  .split at hl
   .simp at hl
   .split at hl <;> simp at hl
theorem HV {s:List UInt8}{r:Int}{n:Nat}(hv:Utf8.valid r=true) (hn:n<=s.length) (he:bC r=s.take n):dK s=(r,(n:Int)):=by
 obtain⟨h1,h2,h3⟩:=yl hv hn he;unfold dK;rw[if_pos ⟨h1,h2⟩,h3];have:=aY.1 hv;exact Prod.ext (by dsimp only;omega) rfl
theorem uI {s:List UInt8}{n:Nat}(h:s≠[]->isR s=true->n<=(dec s).2) (hn:s.length<n\/4<n):dK s=(0,0):=by
 unfold dK;by_cases hs:s≠[]/\isR s=true
 .exfalso;have h1:=h hs.1 hs.2;have h2:=bH hs.1;have h3:(dec s).2<=4:=by
   rcases jg hs.1 hs.2 with ⟨_,e⟩ | ⟨_,_,_,e⟩ | ⟨_,_,_,_,e⟩ | ⟨_,_,_,_,_,e⟩ <;> rw[e] <;> simp
  omega
 .rw[if_neg hs]
def rx (s:List UInt8):Nat->Int
 |1=>(byt s 0:Int)
 |2=>((byt s 0:Int)-192)*64+byt s 1-128
 |3=>(((byt s 0:Int)-224)*64+byt s 1-128)*64+byt s 2-128
 |4=>((((byt s 0:Int)-240)*64+byt s 1-128)*64+byt s 2-128)*64+byt s 3-128
 |_=>0
theorem JB {s:List UInt8}(h:s≠[]) (hr:isR s=true):((dec s).1:Int)=rx s (dec s).2:=by
 rcases jg h hr with ⟨a,e⟩ | ⟨a,c1,g,e⟩ | ⟨a,c1,c2,g,e⟩ | ⟨a,c1,c2,c3,g,e⟩ <;> rw[e] <;> simp only[rx]
 .rw[dN] at c1;omega
 .rw[dN] at c1 c2;omega
 .rw[dN] at c1 c2 c3;omega
theorem tH {s:List UInt8}{n:Nat}(h:s≠[]->isR s=true->n<=(dec s).2) (hx:Utf8.valid (rx s n)=true->bC (rx s n)≠s.take n):s≠[]->isR s=true->n+1<=(dec s).2:=by
 intro h1 h2;have h3:=h h1 h2;by_cases he:(dec s).2=n
 .obtain⟨h4,h5⟩:=kM h1 h2;rw[JB h1 h2,he] at h4 h5;exact absurd h5 (hx h4)
 .omega
theorem rw1 (s:List UInt8):IntKind.i32.wrap ((s.getD 0 0).toNat:Int)=rx s 1:=by
 have k0:=bW s 0;exact wrap32 (by unfold byt at k0;omega)
theorem rw2 (s:List UInt8):IntKind.i32.wrap (IntKind.i32.wrap (IntKind.i32.wrap (IntKind.i32.wrap (IntKind.i32.wrap ((s.getD 0 0).toNat:Int)-192)*64)+IntKind.i32.wrap ((s.getD 1 0).toNat:Int))-128)=rx s 2:=by
 have k0:=bW s 0;have k1:=bW s 1;unfold byt at k0 k1;simp(disch:=omega) only [wrap32]
 rfl
theorem rw3 (s:List UInt8):IntKind.i32.wrap (IntKind.i32.wrap (IntKind.i32.wrap (IntKind.i32.wrap (IntKind.i32.wrap (IntKind.i32.wrap (IntKind.i32.wrap (IntKind.i32.wrap ((s.getD 0 0).toNat:Int)-224)*64)+IntKind.i32.wrap ((s.getD 1 0).toNat:Int))-128)*64)+IntKind.i32.wrap ((s.getD 2 0).toNat:Int))-128)=rx s 3:=by
 have k0:=bW s 0;have k1:=bW s 1;have k2:=bW s 2;unfold byt at k0 k1 k2;simp(disch:=omega) only [wrap32]
 rfl
theorem rw4 (s:List UInt8):IntKind.i32.wrap (IntKind.i32.wrap (IntKind.i32.wrap (IntKind.i32.wrap (IntKind.i32.wrap (IntKind.i32.wrap (IntKind.i32.wrap (IntKind.i32.wrap (IntKind.i32.wrap (IntKind.i32.wrap (IntKind.i32.wrap ((s.getD 0 0).toNat:Int)-240)*64)+IntKind.i32.wrap ((s.getD 1 0).toNat:Int))-128)*64)+IntKind.i32.wrap ((s.getD 2 0).toNat:Int))-128)*64)+IntKind.i32.wrap ((s.getD 3 0).toNat:Int))-128)=rx s 4:=by
 have k0:=bW s 0;have k1:=bW s 1;have k2:=bW s 2;have k3:=bW s 3;unfold byt at k0 k1 k2 k3;simp(disch:=omega) only [wrap32]
 rfl
end Go.EA
