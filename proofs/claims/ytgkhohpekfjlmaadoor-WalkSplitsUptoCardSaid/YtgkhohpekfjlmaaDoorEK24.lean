/- Texts. Conditions: none. -/
import Derived.Test.YtgkhohpekfjlmaaDoorEAf9
import Derived.Test.YtgkhohpekfjlmaaDoorECs
import Derived.Test.YtgkhohpekfjlmaaDoorESrt
import Derived.Test.YtgkhohpekfjlmaaDoorEK9
import Derived.KernelRfl
set_option linter.unusedVariables false
set_option linter.unusedSimpArgs false
section
set_option maxRecDepth 100000
set_option maxHeartbeats 0
namespace Go.EA
open F
theorem pK:∀(a:List UInt8),aP a a=false
 |[]=>rfl
 | x::a=>by
   show (decide (x<x)||(x == x&&aP a a))=false;rw[pK a];simp
theorem DV (a:List UInt8):aP a []=false:=by cases a <;> rfl
theorem rW (x y:UInt8) (a b:List UInt8):aP (x::a) (y::b)=true↔x<y\/x=y/\aP a b=true:=by
 show (decide (x<y)||(x == y&&Op.bytesLess a b))=true↔_;simp
theorem gL:∀{a b c:List UInt8},aP a b=true->aP b c=true->aP a c=true
 |_,_,[],_,h=>by rw[DV] at h;cases h
 |[],_,_::_,_,_=>rfl
 |_::_,[],_::_,h,_=>by rw[DV] at h;cases h
 | x::a,y::b,z::c,h,h'=>by
   rw[rW] at *;rcases h with h | ⟨rfl,h⟩
   .rcases h' with h' | ⟨rfl,h'⟩
    .exact .inl (UInt8.lt_trans h h')
    .exact .inl h
   .rcases h' with h' | ⟨rfl,h'⟩
    .exact .inl h'
    .exact .inr ⟨rfl,gL h h'⟩
theorem xR:∀(a b:List UInt8),aP a b=true\/a=b\/aP b a=true
 |[],[]=>.inr (.inl rfl)
 |[],_::_=>.inl rfl
 |_::_,[]=>.inr (.inr rfl)
 | x::a,y::b=>by
   rw[rW,rW];rcases Nat.lt_trichotomy x.toNat y.toNat with h | h | h
   .exact .inl (.inl h)
   .have:=UInt8.toNat_inj.1 h;subst this;rcases xR a b with h | rfl | h
    .exact .inl (.inr ⟨rfl,h⟩)
    .exact .inr (.inl rfl)
    .exact .inr (.inr (.inr ⟨rfl,h⟩))
   .exact .inr (.inr (.inl h))
theorem Vg {a b:List UInt8}(h:aP a b=true):aP b a=false:=by
 cases h1:aP b a
 .rfl
 .have:=gL h h1;rw[pK] at this;cases this
theorem LW {a b:List UInt8}(h:aP a b=true):a≠b:=by rintro rfl;rw[pK] at h;cases h
abbrev Wd:Type:=List UInt8×Int
abbrev WdT:Ty:=.pair .str (.int .i64)
def ltW (a b:Wd):Bool:=aP a.1 b.1
theorem Mq (a b:List UInt8):kr a b<0↔aP a b=true:=by
 unfold kr;split
 .rename_i h;exact⟨fun _=>h,fun _=>by decide⟩
 .rename_i h;split
  .exact⟨fun h=>absurd h (by decide),fun h'=>absurd h' h⟩
  .exact⟨fun h=>absurd h (by decide),fun h'=>absurd h' h⟩
theorem VK (x y z:List UInt8) (h1:aP x y=false) (h2:aP y z=false):aP x z=false:=by
 cases h:aP x z with
 |false=>rfl
 | true=>
   exfalso;rcases xR x y with h3 | h3 | h3
   .rw[h3] at h1;cases h1
   .subst h3;rw[h2] at h;cases h
   .have:=gL h3 h;rw[this] at h2;cases h2
theorem gH:SWo ltW:=⟨fun x=>pK x.1,fun x y z=>VK x.1 y.1 z.1,fun x y h=>Vg h⟩
def Sw:List UInt8×Int×List UInt8×Int->List SV:=fun(a0,a1,b0,b1)=>[.agg [.str a0,.int .i64 a1],.agg [.str b0,.int .i64 b1]]
def Yp:List UInt8×Int×List UInt8×Int->SV×List Prop:=fun(a0,a1,b0,b1)=>(.one (.int .i64 (kr a0 b0)),[])
def Vw:Con:=⟨true,[none,none],fun xs=>match xs with | [.agg [.str a0,.int .i64 a1],.agg [.str b0,.int .i64 b1]]=>some (Yp (a0,a1,b0,b1)) | _=>none⟩
noncomputable def JP:GP:=dx Sw Yp
theorem Kl:∀a b,(Sw a).map aB=(Sw b).map aB->a=b:=by
 rintro⟨a0,a1,a2,a3⟩ ⟨b0,b1,b2,b3⟩ h;simp only[Sw,zK,List.map_nil,aB,aX,zG,AV.one.injEq,AV.agg.injEq,Lf.int.injEq,Lf.str.injEq,Lf.bool.injEq,Lf.vrow.injEq,and_true,true_and,and_assoc] at h;obtain⟨h0,h1,h2,h3⟩:=h;subst h0 h1 h2 h3
 rfl
theorem PD:dG JP Vw:=aY Kl (fun⟨_,_,_,_⟩ ⟨_,_,_,_⟩=>rfl) (fun⟨_,_,_,_⟩=>rfl) fun xs r h=>by
 simp only[Vw] at h;split at h
 .cases h;rename_i a0 a1 b0 b1;exact⟨(a0,a1,b0,b1),rfl,rfl⟩
 .cases h
theorem Yn {S:SC}(hB:SB S) (Xr:aN S 252 (az MQ)) (h321:S.has 321 f321):aN S 321 (az JP):=by
 refine prM hB [] [⟨252,MQ,VY⟩] trivial ⟨⟨Xr,Tk⟩,trivial⟩ h321 (fun⟨a0,a1,b0,b1⟩=>⟨rfl,rfl,rfl⟩) (fun(a0,a1,b0,b1)=>fun _ _ _ _=>none) 400 ?_;rintro⟨a0,a1,b0,b1⟩ hc;refine VC.use (p:=kr a0 b0=kr a0 b0) (by kernel_rfl) ?_
 rfl
structure aas (l:List Wd) (a m b i j:Nat) (r:List Wd):Prop where
 i0:0<i
 j0:0<j
 im:i<=m-a
 jb:m+j<=b
 len:r.length=l.length
 eq:Yy r (m-i) m (m+j)=Yy l a m b
structure OP (l:List Wd) (a b i j:Nat) (r:List Wd):Prop where
 aj:a<=j
 ji:j<=i
 pi:PI l r a b
 srt:∀p q,a<=p->p<q->q<=i->q≠j->ltW (r.getD q ([],0)) (r.getD p ([],0))=false
theorem OP.done {l r:List Wd}{a b i j:Nat}(h:OP l a b i j r) (hi:i<b) (hj:j=a\/ltW (r.getD j ([],0)) (r.getD (j-1) ([],0))=false):PI l r a b/\iO ltW ([],0) r a (i+1):=by
 refine⟨h.pi,fun p q h1 h2 h3=>?_⟩;by_cases e:q=j
 .subst e;rcases hj with hj | hj
  .omega
  .rcases Nat.lt_or_ge p (q-1) with c | c
   .exact gH.ntr _ _ _ hj (h.srt p (q-1) h1 c (by have:=h.ji;omega) (by omega))
   .rw[show p=q-1 by omega];exact hj
 .exact h.srt p q h1 h2 (by omega) e
theorem OP.step {l r:List Wd}{a b i j:Nat}(h:OP l a b i j r) (hi:i<b) (hb:b<=l.length) (hj:a<j) (hlt:ltW (r.getD j ([],0)) (r.getD (j-1) ([],0))=true):OP l a b i (j-1) (oz r ([],0) j (j-1)):=by
 have hji:=h.ji;have hl:=h.pi.len;refine⟨by omega,by omega,h.pi.trans (Qk (by omega) (by omega) (by omega)),fun p q h1 h2 h3 h4=>?_⟩;have g:=fun p=>Kq (l:=r) (d:=(([],0):Wd)) (i:=j) (j:=j-1) (p:=p) (by omega) (by omega)
 rw[g,g,if_neg h4];by_cases e:q=j
 .rw[if_pos e];by_cases e1:p=j-1
  .rw[if_pos e1];exact gH.asy _ _ hlt
  .rw[if_neg e1,if_neg (by omega)];exact h.srt p (j-1) h1 (by omega) (by omega) (by omega)
 .rw[if_neg e];by_cases e1:p=j-1
  .rw[if_pos e1];exact h.srt j q (by omega) (by omega) h3 e
  .rw[if_neg e1];by_cases e2:p=j
   .rw[if_pos e2];exact h.srt (j-1) q (by omega) (by omega) h3 e
   .rw[if_neg e2];exact h.srt p q h1 h2 h3 e
end Go.EA
end
section
set_option maxRecDepth 100000
set_option maxHeartbeats 0
namespace Go.EA
open F
structure SeA (l:List Wd) (a m b i j:Nat):Prop where
 mi:m<=i
 ij:i<=j
 jb:j<=b
 lo:∀h,m<=h->h<i->ltW (l.getD h ([],0)) (l.getD a ([],0))=true
 hi:∀h,j<=h->h<b->ltW (l.getD h ([],0)) (l.getD a ([],0))=false
structure SeB (l:List Wd) (a m i j:Nat):Prop where
 mi:a<=i
 ij:i<=j
 jb:j<=m
 lo:∀h,a<=h->h<i->ltW (l.getD m ([],0)) (l.getD h ([],0))=false
 hi:∀h,j<=h->h<m->ltW (l.getD m ([],0)) (l.getD h ([],0))=true
structure SeC (l:List Wd) (lo hi p i j:Nat):Prop where
 mi:lo<=i
 ij:i<=j
 jb:j<=hi
 lo:∀c,lo<=c->c<i->ltW (l.getD (p-c) ([],0)) (l.getD c ([],0))=false
 hi:∀c,j<=c->c<hi->ltW (l.getD (p-c) ([],0)) (l.getD c ([],0))=true
theorem CR (i j:Nat) (h:i+j<=4611686018427387904):(IntKind.u64.wrap ((i:Int)+j)).fdiv 2=(((i+j) / 2:Nat):Int):=by
 have e:IntKind.u64.wrap ((i:Int)+j)=(i:Int)+j:=by
  simp only[IntKind.wrap,IntKind.bits,IntKind.signed];simp;omega
 rw[e,Int.fdiv_eq_ediv_of_nonneg _ (by decide)];omega
theorem SWo.lel {α:Type}{lt:α->α->Bool}(hw:SWo lt) {x y z:α}(h:lt y x=false) (h':lt y z=true):lt x z=true:=by
 cases e:lt x z with
 |true=>rfl
 |false=>have:=hw.ntr _ _ _ h e;rw[this] at h';cases h'
theorem SWo.ltl {α:Type}{lt:α->α->Bool}(hw:SWo lt) {x y z:α}(h:lt x y=true) (h':lt z y=false):lt x z=true:=by
 cases e:lt x z with
 |true=>rfl
 |false=>have:=hw.ntr _ _ _ e h';rw[this] at h;cases h
theorem SeA.init (l:List Wd) {a m b:Nat}(h:m<=b):SeA l a m b m b:=⟨zJ _,h,zJ _,fun _ _ _=>by omega,fun _ _ _=>by omega⟩
theorem SeA.dn {l:List Wd}{a m b i j h:Nat}(hs:iO ltW ([],0) l m b) (s:SeA l a m b i j) (h1:i<=h) (h2:h<j) (hl:ltW (l.getD h ([],0)) (l.getD a ([],0))=false):SeA l a m b i h:=by
 have s1:=s.mi;have s3:=s.jb;exact⟨s.mi,h1,by omega,s.lo,fun q q1 q2=>gH.ntr _ _ _ (hs.le gH (by omega) q1 q2) hl⟩
theorem SeB.init (l:List Wd) {a m:Nat}(h:a<=m):SeB l a m a m:=⟨zJ _,h,zJ _,fun _ _ _=>by omega,fun _ _ _=>by omega⟩
theorem SeB.dn {l:List Wd}{a m i j h:Nat}(hs:iO ltW ([],0) l a m) (s:SeB l a m i j) (h1:i<=h) (h2:h<j) (hl:ltW (l.getD m ([],0)) (l.getD h ([],0))=true):SeB l a m i h:=by
 have s1:=s.mi;have s3:=s.jb;exact⟨s.mi,h1,by omega,s.lo,fun q q1 q2=>gH.ltl hl (hs.le gH (by omega) q1 q2)⟩
theorem SeC.init (l:List Wd) {lo hi p:Nat}(h:lo<=hi):SeC l lo hi p lo hi:=⟨zJ _,h,zJ _,fun _ _ _=>by omega,fun _ _ _=>by omega⟩
theorem SeC.dn {l:List Wd}{lo hi p a m b i j h:Nat}(hs1:iO ltW ([],0) l a m) (hs2:iO ltW ([],0) l m b) (hr:∀c,lo<=c->c<hi->a<=c/\c<m/\m<=p-c/\p-c<b/\c<=p) (s:SeC l lo hi p i j) (h1:i<=h) (h2:h<j) (hl:ltW (l.getD (p-h) ([],0)) (l.getD h ([],0))=true):SeC l lo hi p i h:=by
 have s1:=s.mi;have s3:=s.jb;refine⟨s.mi,h1,by omega,s.lo,fun q q1 q2=>?_⟩;have r1:=hr h (by omega) (by omega);have r2:=hr q (by omega) q2;exact gH.lel (hs2.le gH r2.2.2.1 (show p-q<=p-h by omega) r1.2.2.2.1) (gH.ltl hl (hs1.le gH r1.1 q1 r2.2.1))
end Go.EA
end
section
set_option maxRecDepth 100000
set_option maxHeartbeats 0
namespace Go.EA
open F
def Pf (l r:List Wd) (s a:Nat):Prop:=PI l r 0 l.length/\∀p q,p<q->q<a->p / s=q / s->ltW (r.getD q ([],0)) (r.getD p ([],0))=false
def yU (l r:List Wd) (s a:Nat):Prop:=Pf l r (2*s) a/\a<=l.length/\(∃t,a=t*(2*s))/\∀p q,a<=p->p<q->q<l.length->p / s=q / s->ltW (r.getD q ([],0)) (r.getD p ([],0))=false
theorem Pf.step {l r r2:List Wd}{s a b:Nat}(h:Pf l r s a) (hp:PI r r2 a b) (hs:iO ltW ([],0) r2 a b) (hab:a<=b) (hb:b<=l.length) (hx:∀p q,p<a->a<=q->q<b->p / s≠q / s):Pf l r2 s b:=by
 refine⟨h.1.trans (hp.mono (Nat.zero_le _) hb),fun p q h1 h2 h3=>?_⟩;rcases Nat.lt_or_ge p a with c1 | c1
 .rcases Nat.lt_or_ge q a with c2 | c2
  .rw[hp.outD (.inl c1),hp.outD (.inl c2)];exact h.2 p q h1 c2 h3
  .exact absurd h3 (hx p q c1 c2 h2)
 .exact hs p q c1 h1 h2
theorem vW {s t p q:Nat}(h0:0<s) (h1:p<t*s) (h2:t*s<=q):p / s≠q / s:=by
 have e1:p / s<t:=(Nat.div_lt_iff_lt_mul h0).2 h1;have e2:t<=q / s:=(Nat.le_div_iff_mul_le h0).2 h2;omega
theorem Oj {s t p:Nat}(h0:0<s) (h1:t*(2*s)<=p) (h2:p<t*(2*s)+s):p / s=2*t:=by
 have e:t*(2*s)=2*t*s:=by rw[<- Nat.mul_assoc,Nat.mul_comm t 2]
 refine Nat.div_eq_of_lt_le (by omega) ?_;rw[Nat.succ_mul];omega
theorem Kg {s t p:Nat}(h0:0<s) (h1:t*(2*s)+s<=p) (h2:p<t*(2*s)+2*s):p / s=2*t+1:=by
 have e:t*(2*s)=2*t*s:=by rw[<- Nat.mul_assoc,Nat.mul_comm t 2]
 refine Nat.div_eq_of_lt_le ?_ ?_
 .rw[Nat.add_mul];omega
 .rw[Nat.succ_mul,Nat.add_mul];omega
theorem yU.lo {l r:List Wd}{s a b:Nat}(h:yU l r s a) (h0:0<s) (hb:b<=l.length) (hab:b<=a+s):iO ltW ([],0) r a b:=by
 obtain⟨_,_,⟨t,rfl⟩,h4⟩:=h;exact fun p q h1 h2 h3=>h4 p q h1 h2 (by omega) (by rw[Oj (t:=t) h0 h1 (by omega),Oj (t:=t) h0 (by omega) (by omega)])
theorem yU.hi {l r:List Wd}{s a b:Nat}(h:yU l r s a) (h0:0<s) (hb:b<=l.length) (hab:b<=a+2*s):iO ltW ([],0) r (a+s) b:=by
 obtain⟨_,_,⟨t,rfl⟩,h4⟩:=h;exact fun p q h1 h2 h3=>h4 p q (by omega) h2 (by omega) (by rw[Kg (t:=t) h0 h1 (by omega),Kg (t:=t) h0 (by omega) (by omega)])
theorem yU.step {l r r2:List Wd}{s a:Nat}(h:yU l r s a) (h0:0<s) (hb:a+2*s<=l.length) (hp:PI r r2 a (a+2*s)) (hs:iO ltW ([],0) r2 a (a+2*s)):yU l r2 s (a+2*s):=by
 obtain⟨h1,h2,⟨t,rfl⟩,h4⟩:=h;refine⟨h1.step hp hs (by omega) hb fun p q q1 q2 _=>vW (by omega) q1 q2,hb,⟨t+1,by rw[Nat.add_mul];omega⟩,fun p q q1 q2 q3 q4=>?_⟩;rw[hp.outD (.inr q1),hp.outD (.inr (by omega))];exact h4 p q (by omega) q2 q3 q4
theorem yU.last {l r r2:List Wd}{s a:Nat}(h:yU l r s a) (h0:0<s) (hp:PI r r2 a l.length) (hs:iO ltW ([],0) r2 a l.length):Pf l r2 (s*2) l.length:=by
 obtain⟨h1,h2,⟨t,rfl⟩,h4⟩:=h;rw[Nat.mul_comm s 2];exact h1.step hp hs h2 (zJ _) fun p q q1 q2 _=>vW (by omega) q1 q2
end Go.EA
end
