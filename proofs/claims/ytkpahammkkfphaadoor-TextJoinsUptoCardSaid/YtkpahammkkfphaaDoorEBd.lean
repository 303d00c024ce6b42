/- A strings.Builder among the objects: it is turned, it goes. Conditions: none. -/
import Derived.Test.YtkpahammkkfphaaDoorEK9
set_option linter.unusedVariables false
set_option linter.unusedSimpArgs false
namespace Go.EA
def iU (c:Cn) (b:Nat) (q:Option Nat):Cn:=⟨c.π,c.nz,c.Z,EA.put c.ν b fun _=>q⟩
section
variable {c:Cn} {L:List SO} {H H':Heap}
theorem au.bld {b:Nat}{s:List UInt8}{o:SO}{q:Option Nat}(hb:aa L b=.bld s) (ho:bS o=none):au c L (iU c b q) (L.set b o) fun _=>False:=by
 have hlt:b<L.length:=aI (by rw[hb];simp);refine⟨fun d hd _=>by simpa using hd,fun _ _ _=>rfl,fun _ _ _=>rfl,fun _ _=>rfl,fun d hd _ t l h=>?_,fun d hd _ _=>?_⟩
 .by_cases e:d=b
  .subst e;rw[aM hd,ho] at h;cases h
  .rw[ak e] at h;exact⟨t,l,h,rfl⟩
 .by_cases e:d=b
  .subst e;refine⟨fun i' x ⟨t',u',l',h1,_⟩=>?_,fun i' k ⟨t',u',l',h1,_⟩=>?_⟩ <;> (rw[hb] at h1; cases h1)
  .exact lT (ak e) (aO _ _ e)
structure IsB (c:Cn) (H:Heap) (b:Nat) (s:List UInt8):Prop where
 is:∃u x,H.o (c.π b)=.bld u x/\Gx (c.ν b 0) s x
 buf:∀k,c.ν b 0=some k->k<H.n/\∃els,H.o k=.blk 1 els true/\aD els=true/\els.take s.length=(bts s).map (Ty.int .u8).enc
theorem kK (s:List UInt8):(bts s).length=s.length:=by unfold bts;simp
theorem iK {b k:Nat}{s:List UInt8}(hb:aa L b=.bld s) (h:c.ν b 0=some k):Inn c L b 0 k ⟨.int .u8,bts s⟩:=⟨.bool,_,none,by rw[hb];rfl,by simp,h,false,rfl⟩
theorem Dx {b i k:Nat}{s:List UInt8}{r:(t:Ty)×List t.den}(hb:aa L b=.bld s) (h:Inn c L b i k r):i=0/\c.ν b 0=some k/\r=⟨.int .u8,bts s⟩:=by
 obtain⟨u,l,q,h1,h2,h3,y,h4⟩:=h;obtain⟨rt,rl⟩:=r;rw[hb] at h1;cases h1;cases i with
 |zero=>cases h4;exact⟨rfl,h3,rfl⟩
 |succ i=>cases h4
theorem RH.isB (hH:RH c L H) {b:Nat}{s:List UInt8}(hb:aa L b=.bld s):IsB c H b s:=by
 have hlt:b<L.length:=aI (by rw[hb];simp);refine⟨?_,fun k hk=>?_⟩
 .have:=hH.ob b hlt;rw[hb] at this;exact this
 .obtain⟨h1,els,h2,h3,h4⟩:=hH.ns.ob b 0 k _ hlt (iK hb hk);exact⟨h1,els,h2,h3,by rw[<- h4,kK]⟩
theorem RH.bld (hH:RH c L H) {b:Nat}{s s':List UInt8}{q:Option Nat}(hb:aa L b=.bld s) (hn:H.n<=H'.n) (hd:H'.Hd)
 (ho:∀k,k<H.n->k≠c.π b->c.ν b 0≠some k->H'.o k=H.o k) (hB:IsB (iU c b q) H' b s') (hq:∀k,q=some k->c.ν b 0=some k\/H.n<=k):RH (iU c b q) (L.set b (.bld s')) H':=by
 have hlt:b<L.length:=aI (by rw[hb];simp);have hlv:az c (aa L b) b:=by rw[hb];trivial
 have K:au c L (iU c b q) (L.set b (.bld s')) fun _=>False:=au.bld hb rfl
 have hlen:∀d,d<(L.set b (.bld s')).length->d<L.length:=fun d hd=>by simpa using hd
 have hl:∀d,az (iU c b q) (aa (L.set b (.bld s')) d) d->az c (aa L d) d:=fun d h=>by
  by_cases e:d=b
  .subst e;exact hlv
  .rw[ak e] at h;exact eu (c':=iU c b q) rfl h
 have hνb:(iU c b q).ν b 0=q:=by show EA.put c.ν b (fun _=>q) b 0=q;rw[put_eq]
 have hin:∀d i k r,Inn (iU c b q) (L.set b (.bld s')) d i k r->d<L.length->(d=b/\i=0/\q=some k/\r=⟨.int .u8,bts s'⟩)\/(d≠b/\Inn c L d i k r):=fun d i k r h hd=>by
  by_cases e:d=b
  .subst e;obtain⟨h1,h2,h3⟩:=Dx (aM hd) h;rw[hνb] at h2;exact .inl ⟨rfl,h1,h2,h3⟩
  .exact .inr ⟨e,gJ (ak e) (aO _ _ e) h⟩
 have hnk:∀d i k r,d<L.length->d≠b->Inn c L d i k r->k<H.n/\k≠c.π b/\c.ν b 0≠some k:=fun d i k r hd e h=>
  ⟨(hH.ns.ob d i k r hd h).1,fun h2=>hH.ns.pi d i k r hd h b hlt hlv h2.symm,fun h2=>e (hH.ns.inj d i k r b 0 _ hd hlt h (iK hb h2)).1⟩
 refine⟨fun d hd h=>Nat.lt_of_lt_of_le (hH.lt d (hlen d hd) (hl d h)) hn,fun d d' hd hd' h h' e=>hH.inj d d' (hlen d hd) (hlen d' hd') (hl d h) (hl d' h') e,fun d hd=>?_,hd,⟨fun d i k r hd h=>?_,fun d i k r hd h b' hb' hlb=>?_,fun d i k r d' i' r' hd hd' h h'=>?_⟩⟩
 .have hdL:=hlen d hd;by_cases e:d=b
  .subst e;rw[aM hdL];exact hB.is
  .rw[ak e];have h0:=K.ro0 hdL (aO _ _ e) (hH.ob d hdL);by_cases hb2:az c (aa L d) d
   .show ROS _ _ _ d (H'.o (c.π d));rw[ho (c.π d) (hH.lt d hdL hb2) (fun e2=>e (hH.inj d b hdL hlt hb2 hlv e2)) (fun h2=>hH.ns.pi b 0 _ _ hlt (iK hb h2) d hdL hb2 rfl)];exact h0
   .exact dY (fun h=>hb2 (eu (c':=iU c b q) rfl h)) h0
 .rcases hin d i k r h (hlen d hd) with ⟨rfl,_,hk,rfl⟩ | ⟨e,h⟩
  .obtain⟨g1,els,g2,g3,g4⟩:=hB.buf k (by rw[hνb];exact hk);exact⟨g1,els,g2,g3,by rw[kK];exact g4⟩
  .obtain⟨g1,g2,g3⟩:=hnk d i k r (hlen d hd) e h;obtain⟨k1,k2⟩:=hH.ns.ob d i k r (hlen d hd) h;rw[ho k g1 g2 g3];exact⟨Nat.lt_of_lt_of_le k1 hn,k2⟩
 .have hbL:=hlen b' hb';rcases hin d i k r h (hlen d hd) with ⟨_,_,hk,_⟩ | ⟨e,h⟩
  .rcases hq k hk with g | g
   .exact hH.ns.pi b 0 k _ hlt (iK hb g) b' hbL (hl b' hlb)
   .have:=hH.lt b' hbL (hl b' hlb);show c.π b'≠k;omega
  .exact hH.ns.pi d i k r (hlen d hd) h b' hbL (hl b' hlb)
 .have hnew:∀d i k r,d<L.length->d≠b->Inn c L d i k r->q≠some k:=fun d i k r hd e h h2=>by
   obtain⟨g1,g2,g3⟩:=hnk d i k r hd e h;rcases hq k h2 with g | g
   .exact g3 g
   .omega
  rcases hin d i k r h (hlen d hd) with ⟨e1,e2,hk,_⟩ | ⟨hne,h⟩ <;> rcases hin d' i' k r' h' (hlen d' hd') with ⟨e3,e4,hk',_⟩ | ⟨hne',h'⟩
  .exact⟨e1.trans e3.symm,e2.trans e4.symm⟩
  .exact absurd hk (hnew _ _ _ _ (hlen d' hd') hne' h')
  .exact absurd hk' (hnew _ _ _ _ (hlen d hd) hne h)
  .exact hH.ns.inj d i k r d' i' r' (hlen d hd) (hlen d' hd') h h'
theorem RH.bldK (hH:RH c L H) {b:Nat}{s:List UInt8}(hb:aa L b=.bld s) (hn:H.n<=H'.n) (hd:H'.Hd)
 (ho:∀k,k<H.n->k≠c.π b->c.ν b 0≠some k->H'.o k=H.o k):RH (iU c b none) (L.set b .dead) H':=by
 have hlt:b<L.length:=aI (by rw[hb];simp);have hlv:az c (aa L b) b:=by rw[hb];trivial
 have K:au c L (iU c b none) (L.set b .dead) fun _=>False:=au.bld hb rfl
 have hlen:∀d,d<(L.set b .dead).length->d<L.length:=fun d hd=>by simpa using hd
 have hl:∀d,az (iU c b none) (aa (L.set b .dead) d) d->az c (aa L d) d:=fun d h=>by
  by_cases e:d=b
  .subst e;exact hlv
  .rw[ak e] at h;exact eu (c':=iU c b none) rfl h
 have hin:∀d i k r,Inn (iU c b none) (L.set b .dead) d i k r->d<L.length->d≠b/\Inn c L d i k r:=fun d i k r h hd=>by
  by_cases e:d=b
  .subst e;obtain⟨u,l,q,h1,_⟩:=h;rw[aM hd] at h1;cases h1
  .exact⟨e,gJ (ak e) (aO _ _ e) h⟩
 refine⟨fun d hd h=>Nat.lt_of_lt_of_le (hH.lt d (hlen d hd) (hl d h)) hn,fun d d' hd hd' h h' e=>hH.inj d d' (hlen d hd) (hlen d' hd') (hl d h) (hl d' h') e,fun d hd=>?_,hd,⟨fun d i k r hd h=>?_,fun d i k r hd h b' hb' hlb=>?_,fun d i k r d' i' r' hd hd' h h'=>?_⟩⟩
 .have hdL:=hlen d hd;by_cases e:d=b
  .subst e;rw[aM hdL]
   trivial
  .rw[ak e];have h0:=K.ro0 hdL (aO _ _ e) (hH.ob d hdL);by_cases hb2:az c (aa L d) d
   .show ROS _ _ _ d (H'.o (c.π d));rw[ho (c.π d) (hH.lt d hdL hb2) (fun e2=>e (hH.inj d b hdL hlt hb2 hlv e2)) (fun h2=>hH.ns.pi b 0 _ _ hlt (iK hb h2) d hdL hb2 rfl)];exact h0
   .exact dY (fun h=>hb2 (eu (c':=iU c b none) rfl h)) h0
 .obtain⟨e,h⟩:=hin d i k r h (hlen d hd);obtain⟨k1,k2⟩:=hH.ns.ob d i k r (hlen d hd) h;rw[ho k k1 (fun h2=>hH.ns.pi d i k r (hlen d hd) h b hlt hlv h2.symm) (fun h2=>e (hH.ns.inj d i k r b 0 _ (hlen d hd) hlt h (iK hb h2)).1)];exact⟨Nat.lt_of_lt_of_le k1 hn,k2⟩
 .obtain⟨e,h⟩:=hin d i k r h (hlen d hd);exact hH.ns.pi d i k r (hlen d hd) h b' (hlen b' hb') (hl b' hlb)
 .obtain⟨_,h⟩:=hin d i k r h (hlen d hd);obtain⟨_,h'⟩:=hin d' i' k r' h' (hlen d' hd');exact hH.ns.inj d i k r d' i' r' (hlen d hd) (hlen d' hd') h h'
end
end Go.EA
