/- Texts. Conditions: none. -/
import Derived.Test.YtgkhohpekfjlmaaDoorEK9
set_option linter.unusedVariables false
set_option linter.unusedSimpArgs false
section
namespace Go.EA
def eqL (x y:SL):Option (List Prop):=match x with
 |.int k a=>match y with
  |.int k' b=>match decide (k=k') with | true=>some [a=b] | false=>none
  |_=>none
 |.bool a=>match y with | .bool b=>some [a=b] | _=>none
 |.str a=>match y with | .str b=>some [a=b] | _=>none
 |.row t l=>match y with
  |.row t' l'=>match Ty.eq? t t' with | some h=>some [dN h.down l=l'] | none=>none
  |_=>none
 |.vptr t e o=>match y with
  |.vptr t' e' o'=>match Ty.eq? t t',Nat.beq o o' with
   |some h,true=>some [tV h.down e=e']
   |_,_=>none
  |_=>none
 |.nilp=>match y with | .nilp=>some [] | _=>none
 |_=>none
def ZY:SL->Option Ty
 |.vptr t _ _=>some t
 |.row t _=>some t
 |_=>none
def NJ (L:List SO) (x y:SL):Option (List Prop):=match Sg L (ZY y) x with
 |some (x',c)=>match eqL x' (nrm y) with
  |some p=>some (qz c p)
  |none=>none
 |none=>none
def uV (L:List SO):List SL->List SL->Option (List Prop)
 |[],[]=>some []
 |x::r,y::l=>match NJ L x y,uV L r l with
  |some p,some q=>some (qz p q)
  |_,_=>none
 |_,_=>none
def vH (L:List SO):List S1->List S1->Option (List Prop)
 |[],[]=>some []
 |.o x::r,.o y::l=>match NJ L x y,vH L r l with
  |some p,some q=>some (qz p q)
  |_,_=>none
 |.a x::r,.a y::l=>match uV L x y,vH L r l with
  |some p,some q=>some (qz p q)
  |_,_=>none
 |_,_=>none
def Vi (L:List SO) (v0 v:SV):Option (List Prop):=match v with
 |.one y=>match v0 with | .one x=>NJ L x y | _=>none
 |.agg y=>match v0 with | .agg x=>uV L x y | _=>none
 |.tup y=>match v0 with | .tup x=>vH L x y | _=>none
 |_=>none
def Cq (res:List eU) (v:SV) (T:ST) (L:List SO):VC:=match IC T L res with
 |some v0=>match Vi L v0 v with
  |some p=>Jy p
  |none=>.ff
 |none=>.ff
def Nb (res:List eU) (v:SV) (T:ST) (L:List SO):VC:=match v with
 |.ite p _ a b=>.and (.imp p (Cq res a T L)) (.imp (¬ p) (Cq res b T L))
 |v=>Cq res v T L
def clW:SV->Bool
 |.ite _ _ a b=>clV a&&clV b
 |v=>clV v
section
variable {S:SC} {X:Cx} {c:Cn} {L:List SO} {H:Heap} {m:Nat}
theorem Ik (x:SL):aX (nrm x)=aX x:=by cases x <;> rfl
theorem Xn {x y:SL}{p:List Prop}(h:eqL x y=some p) (hp:aS p):aX x=aX y/\clL x=true:=by
 unfold eqL at h;split at h
 .split at h
  .split at h
   .rename_i hk;cases h;have hk:=of_decide_eq_true hk;subst hk;rw[hp.1];exact⟨rfl,rfl⟩
   .cases h
  .cases h
 .split at h
  .cases h;rw[hp.1];exact⟨rfl,rfl⟩
  .cases h
 .split at h
  .cases h;rw[hp.1];exact⟨rfl,rfl⟩
  .cases h
 .split at h
  .split at h
   .rename_i hh _;obtain⟨he⟩:=hh;subst he;cases h;have:=hp.1;rw[fq] at this;subst this;exact⟨rfl,rfl⟩
   .cases h
  .cases h
 .split at h
  .split at h
   .rename_i hh _ ho;obtain⟨he⟩:=hh;subst he;have ho:=zC ho;subst ho;cases h;have:=hp.1;subst this;exact⟨rfl,rfl⟩
   .cases h
  .cases h
 .split at h
  .cases h;exact⟨rfl,rfl⟩
  .cases h
 .cases h
theorem yC (hH:RH c L H) {x y:SL}{p:List Prop}{z:Lf}(h:NJ L x y=some p) (hp:aS p) (hx:RL' c L x z):Im H (aX y) z:=by
 unfold NJ at h;split at h
 .rename_i x' c0 hi;split at h
  .rename_i q hq;cases h;obtain⟨p1,p2⟩:=aS.app hp;obtain⟨e1,e2⟩:=Xn hq p2;rw[<- Ik,<- e1];exact FO hH hi p1 e2 hx
  .cases h
 .cases h
theorem uJ (hH:RH c L H):∀{x y:List SL}{p:List Prop}{z:List Lf},uV L x y=some p->aS p->ah (RL' c L) x z->z.length=y.length/\ImC H (y.map aX) z
 |[],[],p,z,h,hp,hx=>by rw[hx.nil_inv];exact⟨rfl,by simp only[List.map_nil,ImC]⟩
 | x::r,y::l,p,z,h,hp,hx=>by
   simp only[uV] at h;split at h
   .rename_i p1 q1 h1 h2;cases h;obtain⟨a1,a2⟩:=aS.app hp;obtain⟨w,z,rfl,g1,g2⟩:=hx.cons_inv;obtain⟨k1,k2⟩:=uJ hH h2 a2 g2;refine⟨by simp[k1],?_⟩;simp only[zK,ImC];exact⟨yC hH h1 a1 g1,k2⟩
   .cases h
 |[],_::_,p,z,h,hp,hx=>by simp[uV] at h
 |_::_,[],p,z,h,hp,hx=>by simp[uV] at h
theorem yx (hH:RH c L H):∀{x y:List S1}{p:List Prop}{z:List AV},vH L x y=some p->aS p->ah (RS1 c L) x z->ah (ImV H) (y.map Gh) z
 |[],[],p,z,h,hp,hx=>by rw[hx.nil_inv];exact ah.nil
 | .o x::r,.o y::l,p,z,h,hp,hx=>by
   simp only[vH] at h;split at h
   .rename_i p1 q1 h1 h2;cases h;obtain⟨a1,a2⟩:=aS.app hp;obtain⟨w,z,rfl,⟨u,rfl,g1⟩,g2⟩:=hx.cons_inv;exact ah.cons ⟨u,rfl,yC hH h1 a1 g1⟩ (yx hH h2 a2 g2)
   .cases h
 | .a x::r,.a y::l,p,z,h,hp,hx=>by
   simp only[vH] at h;split at h
   .rename_i p1 q1 h1 h2;cases h;obtain⟨a1,a2⟩:=aS.app hp;obtain⟨w,z,rfl,⟨u,rfl,g1⟩,g2⟩:=hx.cons_inv;obtain⟨k1,k2⟩:=uJ hH h1 a1 g1;exact ah.cons ⟨u,rfl,by simp[k1],k2⟩ (yx hH h2 a2 g2)
   .cases h
 |[],_::_,p,z,h,hp,hx=>by simp[vH] at h
 |_::_,[],p,z,h,hp,hx=>by simp[vH] at h
 |.o _::_,.a _::_,p,z,h,hp,hx=>by simp[vH] at h
 |.a _::_,.o _::_,p,z,h,hp,hx=>by simp[vH] at h
def ImT (H:Heap) (y x:AV):Prop:=y=junk\/ImV H y x\/∃ys xs,y=.tup ys/\x=.tup xs/\ah (ImV H) ys xs
theorem Sq (hH:RH c L H) {v0 v:SV}{p:List Prop}{a:AV}(h:Vi L v0 v=some p) (hp:aS p) (hx:RVS c L v0 a):ImT H (aB v) a:=by
 unfold Vi at h;split at h
 .split at h
  .obtain⟨u,rfl,g⟩:=hx;exact .inr (.inl ⟨u,rfl,yC hH h hp g⟩)
  .cases h
 .split at h
  .obtain⟨u,rfl,g⟩:=hx;obtain⟨k1,k2⟩:=uJ hH h hp g;exact .inr (.inl ⟨u,rfl,by simp[k1],k2⟩)
  .cases h
 .split at h
  .obtain⟨u,rfl,g⟩:=hx;exact .inr (.inr ⟨_,u,rfl,rfl,yx hH h hp g⟩)
  .cases h
 .cases h
theorem Vp {T T1:EA.Tm}(hT1:∀k,ImT H (T1 k) (T k)):Abs S m T H T1 ⟨H.n,fun _=>.dead⟩:=by
 intro hm ρ w tmps hT hH;have r2:∀(b s:Nat) (es:List (List Lf)) (C:Array Value) (ty:TypeId) (fr:Nat×Nat),b<H.n->H.o b=.blk s es true->w.heap[(ρ b).g]?=some (.cells C ty fr)->(kJ H ρ w).fz (ρ b).g=some (.cells C ty fr):=fun b s es C ty fr hb ho hw=>BO hH hb ho hw
 refine⟨kJ H ρ w,fun k v hk=>?_,wK hH,⟨zJ _,rfl,rfl,rfl,hm,fun _ _=>rfl,fun k hk hn=>⟨rfl,fun i _ h=>by cases h⟩,fun k ob h=>lJ h,fun k hk hn=>?_⟩⟩
 .have hv:=hT k v hk;rcases hT1 k with h | h | ⟨ys,xs,h1,h2,h3⟩
  .rw[h];exact .inl rfl
  .exact rF hH (fun k ob h=>lJ h) r2 hv h
  .rw[h1];rw[h2] at hv;rcases hv with hj | ⟨arr,e,hr⟩
   .exfalso;cases xs with
    |nil=>simp[AV.isJ] at hj
    | cons y r=>
      cases ys with
      |nil=>have:=h3.1;simp at this
      | cons y' r'=>
        have h0:=h3.2 0 y' y rfl rfl;cases y with
        |tup q=>cases y' <;> simp[ImV] at h0
        |one _=>cases r <;> simp[AV.isJ] at hj
        |agg _=>cases r <;> simp[AV.isJ] at hj
   .refine .inr ⟨arr,e,h3.1.trans hr.1,fun i y u hy hu=>?_⟩;obtain⟨x,hx,hi⟩:=h3.get hy;have hx1:=hr.2 i x u hx hu;cases y with
    |tup q=>simp[ImV] at hi
    | one q=>
      obtain⟨z,rfl,hi⟩:=hi;exact rF hH (fun k ob h=>lJ h) r2 (y:=.one q) (x:=.one z) hx1 ⟨z,rfl,hi⟩
    | agg q=>
      obtain⟨z,rfl,hl,hi⟩:=hi;exact rF hH (fun k ob h=>lJ h) r2 (y:=.agg q) (x:=.agg z) hx1 ⟨z,rfl,hl,hi⟩
 .show (match ρ.fz k with | some ob=>some ob | none=>_)=_;cases hz:ρ.fz k with
  |some ob=>rfl
  | none=>
    dsimp only;rw[if_neg];rintro⟨b,s,es,hb,ho,e⟩;exact hn b hb (by rw[ho];rfl) e
theorem NH {res:List eU}{v:SV}{T:ST}(h:(Nb res v T L).den):∃w,aB v=aB w/\(Cq res w T L).den:=by
 unfold Nb at h;split at h
 .rename_i p d a b;by_cases hp:p
  .exact⟨a,if_pos hp,h.1 hp⟩
  .exact⟨b,if_neg hp,h.2 hp⟩
 .exact⟨_,rfl,h⟩
theorem VW (hS:S.Good X) {E:Env}{i:Nat}{af:AF}{xs:List SV}{v:SV}(hcd:∀i af,E.CD i=some af->S.has i af) (hkt:∀i con,E.KT i=some con->GL X i con) (hmt:∀i mc,E.MT i=some mc->fC S i mc) (htop:E.top=Nb af.res v) (hf:S.has i af) (hnp:Nat.beq xs.length af.np=true) (hx:xs.all clV=true)
 (n:Nat) (h:(wp E n (start i af xs)).den):MF S i [] (xs.map aB) (hl []) fun v' _=>v'=aB v:=by
 refine MF.conv (MF.of hf (by rw[<- zC hnp];simp) ?_)
 have hE:qP S X E fun ex T' H'=>(ex=.ret\/ex=.normal)/\∃v',iU T' H' af.res=some v'/\∃T0 T1 H1,T0 0=v'/\Abs S (hl []).n T0 H' T1 H1/\T1 0=aB v/\∀k,k≠0->T0 k=junk:=by
  refine⟨hS,hcd,hkt,fun c T L Tm H e he ht hT hH=>⟨he,?_⟩,hmt⟩;rw[htop] at ht;obtain⟨w,hw,ht⟩:=NH ht;unfold Cq at ht;split at ht
  .rename_i v0 hv0;split at ht
   .rename_i p hp;obtain⟨a0,e1,e2⟩:=yP hT hH hv0;have hi:=Sq hH hp (lU ht) e2;exact⟨a0,e1,fun k=>match k with | 0=>a0 | _=>junk,fun k=>match k with | 0=>aB w | _=>junk,_,rfl,Vp fun k=>by
     cases k with
     |zero=>exact hi
     |succ k=>exact .inl rfl,hw.symm,fun k hk=>by
     cases k with
     |zero=>exact absurd rfl hk
     |succ k=>rfl⟩
   .exact ht.elim
  .exact ht.elim
 have hsy:=bO hE n _ h;have hT:RT ⟨id,fun _=>true,fun _=>ld0,fun _ _=>none⟩ [] (nN af xs []) (gp (xs.map aB++([]:List (Nat×Nat×Nat)).map fun q=>AV.one (.ptr q.1 q.2.1 q.2.2))):=by
  unfold nN;rw[List.map_nil,List.map_nil,List.nil_append,List.append_nil];exact RT.args _ (qB hx)
 exact hsy ⟨id,fun _=>true,fun _=>ld0,fun _ _=>none⟩ _ (hl []) [.code af.body] [] (hl []).n hT ⟨fun b hb=>absurd hb (zS _),fun b b' hb=>absurd hb (zS _),fun b hb=>absurd hb (zS _),Un [],⟨fun b i k r hb=>absurd hb (zS _),fun b i k r hb=>absurd hb (zS _),fun b i k r b' i' r' hb=>absurd hb (zS _)⟩⟩ ⟨rfl,trivial⟩ trivial
theorem xO {v:SV}(h:clW v=true):(aB v).closed=true:=by
 unfold clW at h;split at h
 .rename_i p d a b;simp only[zH] at h;by_cases hp:p
  .rw[show aB (.ite p d a b)=aB a from if_pos hp];exact dO h.1
  .rw[show aB (.ite p d a b)=aB b from if_neg hp];exact dO h.2
 .exact dO h
theorem prI (hB:SB S) (cd:List (Nat×AF)) (ms:List MS) (mm:List (Nat×iP)) (hcd:jy S cd) (hms:lM S ms) (hmm:mF S mm) {i:Nat}{af:AF}(hf:S.has i af) {α:Type}{pat:α->List SV}{res:α->SV×List Prop}
 (hcl:∀a,Nat.beq (pat a).length af.np=true/\(pat a).all clV=true/\clW (res a).1=true) (an:α->ANF) (n:Nat)
 (h:∀a,aS (res a).2->(wp (EN cd ms mm (an a) (Nb af.res (res a).1)) n (start i af (pat a))).den):aN S i (az (dx pat res)):=by
 refine tL i fun a ha=>⟨?_,xO (hcl a).2.2,?_⟩
 .rw[List.all_map,List.all_eq_true];exact fun x hx=>dO (List.all_eq_true.1 (hcl a).2.1 x hx)
 .exact VW (rR hB hms) (E:=EN cd ms mm (an a) (Nb af.res (res a).1)) (fun i af h=>hcd.look i af h) (fun i con h=>by
   obtain⟨m,hm,rfl⟩:=zD.1 h;exact oN (X:=Xm ms) (by simp[Xm,hm]) (hms.look i m hm).2.1 (hms.look i m hm).2.2) (fun i mc h=>hmm.look i mc h) rfl hf (hcl a).1 (hcl a).2.1 n (h a ha)
end
end Go.EA
end
section
namespace Go.EA
def Cj (b:Nat->Nat) (k:Nat) (x y:SL):Prop:=(x=y/\clL x=true)\/(∃j,j<k/\x=.osl (b j)/\y=.osl j)\/(∃j i o,j<k/\x=.ptr (b j) i o/\y=.ptr j i o)\/∃j,j<k/\x=.mp (b j)/\y=.mp j
def aag (b:Nat->Nat) (k:Nat) (x y:S1):Prop:=(∃p q,x=.o p/\y=.o q/\Cj b k p q)\/∃cs,x=.a cs/\y=.a cs/\cs.all clL=true
def Pb (b:Nat->Nat) (k:Nat) (x y:SV):Prop:=(∃p q,x=.one p/\y=.one q/\Cj b k p q)\/(x=y/\clV x=true)\/∃p q,x=.tup p/\y=.tup q/\ah (aag b k) p q
def plainO:SO->Bool
 |.row _ _ | .nest _ _ _ _ | .map0 | .mapo _ _ _=>true
 |_=>false
def qj (b:Nat->Nat) (k:Nat) (x y:SO):Prop:=(x=y/\plainO x=true)\/∃p q,x=.cell p/\y=.cell q/\ah (Cj b k) p q
structure Tr (c:Cn) (L:List SO) (c0:Cn) (L0:List SO) (b:Nat->Nat) (k:Nat):Prop where
 len:L0.length=k
 lt:∀j,j<k->b j<L.length
 π:∀j,j<k->c.π (b j)=c0.π j
 nz:∀j,j<k->bD (ae L0 j)≠none->c.nz (b j)=c0.nz j
 row:∀j,j<k->bD (ae L (b j))=bD (ae L0 j)
 ν:∀j,j<k->bU (ae L0 j)=true->c.ν (b j)=c0.ν j
section
variable {c c0:Cn} {L L0:List SO} {b:Nat->Nat} {k:Nat} {H:Heap}
theorem Tr.to (t:Tr c L c0 L0 b k) {x y:SL}(hr:Cj b k x y) {z:Lf}(h:RL' c L x z):RL' c0 L0 y z:=by
 rcases hr with ⟨rfl,hc⟩ | ⟨j,hj,rfl,rfl⟩ | ⟨j,i,o,hj,rfl,rfl⟩ | ⟨j,hj,rfl,rfl⟩
 .exact(fK hc).2 ((fK hc).1 h)
 .obtain⟨h1,h2⟩:=h;refine⟨by rw[t.len];exact hj,fun ty l he=>?_⟩;rw[<- t.nz j hj (by rw[he];simp),<- t.π j hj];exact h2 ty l (by rw[t.row j hj];exact he)
 .obtain⟨h1,h2⟩:=h;exact⟨by rw[t.len];exact hj,by rw[<- t.π j hj];exact h2⟩
 .obtain⟨h1,h2⟩:=h;exact⟨by rw[t.len];exact hj,by rw[<- t.π j hj];exact h2⟩
theorem Tr.from (t:Tr c L c0 L0 b k) {x y:SL}(hr:Cj b k x y) {z:Lf}(h:RL' c0 L0 y z):RL' c L x z:=by
 rcases hr with ⟨rfl,hc⟩ | ⟨j,hj,rfl,rfl⟩ | ⟨j,i,o,hj,rfl,rfl⟩ | ⟨j,hj,rfl,rfl⟩
 .exact(fK hc).2 ((fK hc).1 h)
 .obtain⟨h1,h2⟩:=h;refine⟨t.lt j hj,fun ty l he=>?_⟩;rw[t.row j hj] at he;rw[t.nz j hj (by rw[he];simp),t.π j hj];exact h2 ty l he
 .obtain⟨h1,h2⟩:=h;exact⟨t.lt j hj,by rw[t.π j hj];exact h2⟩
 .obtain⟨h1,h2⟩:=h;exact⟨t.lt j hj,by rw[t.π j hj];exact h2⟩
theorem vN {c c0:Cn}{L L0:List SO}{cs:List SL}(hc:cs.all clL=true) {ls:List Lf}(h:ah (RL' c L) cs ls):ah (RL' c0 L0) cs ls:=(gJ hc).2 ((gJ hc).1 h)
theorem Tr.toV (t:Tr c L c0 L0 b k) {x y:SV}(hr:Pb b k x y) {a:AV}(h:RVS c L x a):RVS c0 L0 y a:=by
 rcases hr with ⟨p,q,rfl,rfl,hr⟩ | ⟨rfl,hc⟩ | ⟨p,q,rfl,rfl,hr⟩
 .obtain⟨z,rfl,h⟩:=h;exact⟨z,rfl,t.to hr h⟩
 .exact(ib hc).2 ((ib hc).1 h)
 .obtain⟨z,rfl,h⟩:=h;refine⟨z,rfl,hr.1.symm.trans h.1,fun i y a hy ha=>?_⟩;have hi:i<p.length:=by rw[hr.1];exact(zI.1 hy).1
  have h1:=hr.2 i _ y (zB hi) hy;have h2:=h.2 i _ a (zB hi) ha;rcases h1 with ⟨p1,q1,e1,rfl,hr1⟩ | ⟨cs,e1,rfl,hc⟩
  .rw[e1] at h2;obtain⟨w,rfl,h2⟩:=h2;exact⟨w,rfl,t.to hr1 h2⟩
  .rw[e1] at h2;obtain⟨w,rfl,h2⟩:=h2;exact⟨w,rfl,vN hc h2⟩
theorem Tr.fromV (t:Tr c L c0 L0 b k) {x y:SV}(hr:Pb b k x y) {a:AV}(h:RVS c0 L0 y a):RVS c L x a:=by
 rcases hr with ⟨p,q,rfl,rfl,hr⟩ | ⟨rfl,hc⟩ | ⟨p,q,rfl,rfl,hr⟩
 .obtain⟨z,rfl,h⟩:=h;exact⟨z,rfl,t.from hr h⟩
 .exact(ib hc).2 ((ib hc).1 h)
 .obtain⟨z,rfl,h⟩:=h;refine⟨z,rfl,hr.1.trans h.1,fun i x a hx ha=>?_⟩;have hi:i<q.length:=by rw[<- hr.1];exact(zI.1 hx).1
  have h1:=hr.2 i x _ hx (zB hi);have h2:=h.2 i _ a (zB hi) ha;rcases h1 with ⟨p1,q1,rfl,e1,hr1⟩ | ⟨cs,rfl,e1,hc⟩
  .rw[e1] at h2;obtain⟨w,rfl,h2⟩:=h2;exact⟨w,rfl,t.from hr1 h2⟩
  .rw[e1] at h2;obtain⟨w,rfl,h2⟩:=h2;exact⟨w,rfl,vN hc h2⟩
theorem Tr.toVs (t:Tr c L c0 L0 b k) {xs ys:List SV}{zs:List AV}(h1:ah (Pb b k) xs ys) (h2:ah (RVS c L) xs zs):ah (RVS c0 L0) ys zs:=by
 refine⟨h1.1.symm.trans h2.1,fun i y a hy ha=>?_⟩;have hi:i<xs.length:=by rw[h1.1];exact(zI.1 hy).1
 exact t.toV (h1.2 i _ y (zB hi) hy) (h2.2 i _ a (zB hi) ha)
theorem Tr.toL (t:Tr c L c0 L0 b k) {p q:List SL}(hr:ah (Cj b k) p q) {z:List Lf}(h:ah (RL' c L) p z):ah (RL' c0 L0) q z:=by
 refine⟨hr.1.symm.trans h.1,fun i y a hy ha=>?_⟩;have hi:i<p.length:=by rw[hr.1];exact(zI.1 hy).1
 exact t.to (hr.2 i _ y (zB hi) hy) (h.2 i _ a (zB hi) ha)
theorem Tr.fromL (t:Tr c L c0 L0 b k) {p q:List SL}(hr:ah (Cj b k) p q) {z:List Lf}(h:ah (RL' c0 L0) q z):ah (RL' c L) p z:=by
 refine⟨hr.1.trans h.1,fun i x a hx ha=>?_⟩;have hi:i<q.length:=by rw[<- hr.1];exact(zI.1 hx).1
 exact t.from (hr.2 i x _ hx (zB hi)) (h.2 i _ a (zB hi) ha)
theorem Oc {c c0:Cn}{L L0:List SO}{o:SO}{i j:Nat}{y:AO}(hp:plainO o=true) (hz:bD o≠none->c.nz i=c0.nz j) (hν:bU o=true->c.ν i=c0.ν j) (h:ROS c L o i y):ROS c0 L0 o j y:=by
 cases o <;> first | (cases hp; done) | skip
 .simp only[ROS] at h ⊢;rw[<- hz (by simp[bD])];exact h
 .simp only[ROS] at h ⊢;rw[<- hz (by simp[bD]),<- hν rfl];exact h
 .exact h
 .exact h
theorem Tr.toO (t:Tr c L c0 L0 b k) {j:Nat}(hj:j<k) {o:SO}(he:ae L0 j=o) {x:SO}(hr:qj b k x o) {y:AO}(h:ROS c L x (b j) y):ROS c0 L0 o j y:=by
 rcases hr with ⟨rfl,hp⟩ | ⟨p,q,rfl,rfl,hr⟩
 .exact Oc hp (fun hn=>t.nz j hj (by rw[he];exact hn)) (fun hn=>t.ν j hj (by rw[he];exact hn)) h
 .obtain⟨ls,e,h⟩:=h;exact⟨ls,by rw[e,hr.1],t.toL hr h⟩
theorem Tr.fromO (t:Tr c L c0 L0 b k) {j:Nat}(hj:j<k) {o:SO}(he:ae L0 j=o) {x:SO}(hr:qj b k x o) {y:AO}(h:ROS c0 L0 o j y):ROS c L x (b j) y:=by
 rcases hr with ⟨rfl,hp⟩ | ⟨p,q,rfl,rfl,hr⟩
 .exact Oc hp (fun hn=>(t.nz j hj (by rw[he];exact hn)).symm) (fun hn=>(t.ν j hj (by rw[he];exact hn)).symm) h
 .obtain⟨ls,e,h⟩:=h;exact⟨ls,by rw[e,hr.1],t.fromL hr h⟩
theorem qj.row {x o:SO}(hr:qj b k x o):bD x=bD o:=by
 rcases hr with ⟨rfl,_⟩ | ⟨p,q,rfl,rfl,_⟩ <;> rfl
theorem qj.nest {x o:SO}(hr:qj b k x o):bU x=bU o:=by
 rcases hr with ⟨rfl,_⟩ | ⟨p,q,rfl,rfl,_⟩ <;> rfl
theorem qj.nest2 {x o:SO}(hr:qj b k x o) {t u:Ty}{l:List (List t.den×u.den)}{h:Option Nat}:x=.nest t u l h↔o=.nest t u l h:=by
 rcases hr with ⟨rfl,_⟩ | ⟨p,q,rfl,rfl,_⟩
 .exact Iff.rfl
 .exact⟨fun h=>(by cases h),fun h=>(by cases h)⟩
theorem vX {c c0:Cn}{o:SO}{i j:Nat}(hz:bD o≠none->c.nz i=c0.nz j) (h:aF c o i):aF c0 o j:=by
 cases o with
 |row t l=>show c0.nz j=true;rw[<- hz (by simp[bD])];exact h
 |rowh t l i s=>show c0.nz j=true;rw[<- hz (by simp[bD])];exact h
 |nest t u l i=>show c0.nz j=true;rw[<- hz (by simp[bD])];exact h
 |dead=>exact h
 |_=>trivial
theorem qj.live {x o:SO}(hr:qj b k x o) {i:Nat}:aF c x i↔aF c o i:=by
 rcases hr with ⟨rfl,_⟩ | ⟨p,q,rfl,rfl,_⟩ <;> exact Iff.rfl
theorem Fs {o:SO}{i:Nat}{y:AO}(hl:aF c o i) (h:ROS c L o i y):own y=true:=by
 cases o with
 |row t l=>rcases h with ⟨h,_⟩ | ⟨_,els,h,_⟩;(exfalso;have hl:c.nz i=true:=hl;rw[h] at hl;cases hl);(rw[h];rfl)
 |rowh t l q s=>rcases h with ⟨h,_⟩ | ⟨_,els,h,_⟩;(exfalso;have hl:c.nz i=true:=hl;rw[h] at hl;cases hl);(rw[h];rfl)
 |nest t u l q=>rcases h with ⟨h,_⟩ | ⟨_,els,h,_⟩;(exfalso;have hl:c.nz i=true:=hl;rw[h] at hl;cases hl);(rw[h];rfl)
 |cell p=>obtain⟨ls,h,_⟩:=h;rw[h];rfl
 |dead=>exact hl.elim
 |siter s p=>have h:y=.siter s p:=h;rw[h];rfl
 |map0=>have h:y=.map []:=h;rw[h];rfl
 |mapo k v es=>obtain⟨_,_,h⟩:=h;rw[h];rfl
 |loop st pd=>have h:y=.loop st pd _ _ _ _:=h;rw[h];rfl
 |nilr n=>obtain⟨_,h⟩:=h;rw[h];rfl
 |nrow u us=>obtain⟨_,h⟩:=h;rw[h];rfl
 |raw cs=>obtain⟨_,_,ls,h,_⟩:=h;rw[h];rfl
end
def iL (b:Nat->Nat):Nat->List SO->List SO->List SO
 |_,[],L=>L
 |j,o::r,L=>iL b (j+1) r (L.set (b j) o)
theorem sK {b:Nat->Nat}:∀{l:List SO}{s:Nat}{L:List SO},(iL b s l L).length=L.length
 |[],s,L=>rfl
 |o::r,s,L=>by rw[iL,sK,List.length_set]
theorem qA {b:Nat->Nat}{i:Nat}:∀{l:List SO}{s:Nat}{L:List SO},(∀j,j<l.length->b (s+j)≠i)->ae (iL b s l L) i=ae L i
 |[],s,L,h=>rfl
 | o::r,s,L,h=>by
   rw[iL,qA fun j hj=>by have:=h (j+1) (by simpa using hj);rwa [show s+1+j=s+(j+1) by omega],aJ (Ne.symm (show b s≠i from h 0 (by simp)))]
theorem xk {b:Nat->Nat}:∀{l:List SO}{s:Nat}{L:List SO}{j:Nat},(∀i j,i<l.length->j<l.length->b (s+i)=b (s+j)->i=j)->(∀j,j<l.length->b (s+j)<L.length)->j<l.length->ae (iL b s l L) (b (s+j))=ae l j
 |[],s,L,j,hi,hl,hj=>by simp at hj
 | o::r,s,L,0,hi,hl,hj=>by
   rw[iL,qA fun j hj e=>?_]
   .exact bg (hl 0 (by simp))
   .have:=hi (j+1) 0 (by simpa using hj) (by simp) (by rw[show s+(j+1)=s+1+j by omega];exact e);cases this
 | o::r,s,L,j+1,hi,hl,hj=>by
   rw[iL,show s+(j+1)=s+1+j by omega];rw[xk (l:=r) (s:=s+1) (fun i j h1 h2 e=>by
    have:=hi (i+1) (j+1) (by simpa using h1) (by simpa using h2) (by rw[show s+(i+1)=s+1+i by omega,show s+(j+1)=s+1+j by omega];exact e);omega) (fun j hj=>by rw[List.length_set,show s+1+j=s+(j+1) by omega];exact hl (j+1) (by simpa using hj)) (by simpa using hj)]
   rfl
def rD (b:Nat->Nat):List Nat->List Nat
 |[]=>[]
 |j::r=>b j::(b j+1000000)::rD b r
theorem Av {b:Nat->Nat}{i:Nat}:∀{l:List Nat},i∈rD b l↔∃j∈l,i=b j\/i=b j+1000000
 |[]=>by simp[rD]
 | j::r=>by
   simp only[rD,List.mem_cons,Av (l:=r)];constructor
   .rintro(h | h | ⟨j',h1,h2⟩)
    .exact⟨j,.inl rfl,.inl h⟩
    .exact⟨j,.inl rfl,.inr h⟩
    .exact⟨j',.inr h1,h2⟩
   .rintro⟨j',rfl | h1,h2⟩
    .rcases h2 with h2 | h2
     .exact .inl h2
     .exact .inr (.inl h2)
    .exact .inr (.inr ⟨j',h1,h2⟩)
structure mg:Type 1 where
 α:Type
 k:Nat
 P:α->(Nat->Nat)->List SV
 L0:α->(Nat->Nat)->List SO
 pre:α->List Prop
 β:α->Type
 post:(a:α)->β a->List Prop
 v:(a:α)->β a->(Nat->Nat)->SV
 L1:(a:α)->β a->(Nat->Nat)->List SO
 mv:List Nat
def mg.res (M:mg) (a:M.α) (b:Nat->Nat) (L:List SO):XL:=⟨M.pre a,M.β a,M.post a,fun x=>M.v a x b,fun x=>iL b 0 (M.L1 a x b) (L.map (jOs (rD b M.mv))),rD b M.mv⟩
def mg.Fits (M:mg) (mc:iP):Prop:=∀xs L r,mc.g xs L=some r->∃a b,xs.map qc=M.P a b/\(∀j,j<M.k->ae L (b j)=ae (M.L0 a b) j)/\(∀i j,i<M.k->j<M.k->b i=b j->i=j)/\r=M.res a b L
def mg.FT (M:mg) (a:M.α):List SV:=(M.P a id).map (jVs (rD id M.mv))
structure mg.Ok (M:mg) (np:Nat):Prop where
 ren:∀a b,ah (Pb b M.k) (M.P a b) (M.P a id)
 l0:∀a b,(M.L0 a b).length=M.k/\∀j,j<M.k->qj b M.k (ae (M.L0 a b) j) (ae (M.L0 a id) j)
 l1:∀a x b,(M.L1 a x b).length=M.k/\∀j,j<M.k->qj b M.k (ae (M.L1 a x b) j) (ae (M.L1 a x id) j)
 um:∀a x j,j<M.k->j ∉ M.mv->bD (ae (M.L0 a id) j)=none/\bD (ae (M.L1 a x id) j)=none
 arg:∀(a:M.α) (j:Nat),j<M.k->j ∉ M.mv->∃i:Nat,(M.FT a)[i]?=some (SV.one (.ptr j 0 0))\/(M.FT a)[i]?=some (SV.one (.mp j))
 np:∀a,Nat.beq (M.P a id).length np=true
 cl:∀a x b,Pb b M.k (M.v a x b) (M.v a x id)
def frG (M:mg) (a:M.α):Fr:=.call 0 [] [] [] (M.FT a) none
def aak (M:mg) (a:M.α):ST->List SO->VC:=fun T L=>.ex (M.β a) fun x=>wo (M.post a x) (mVC T L [M.v a x id] (M.L1 a x id) [frG M a])
def MI (i:Nat) (af:AF) (M:mg) (a:M.α):SS:=
 ⟨.normal,i,af.res,[.code af.body],nN af (M.P a id) [],M.L0 a id,[.call 0 af.res [] [.stop (aak M a) 0] [.junk] (some 0),frG M a]⟩
def pk {α:Type}(m:List Nat) (j:Nat) (x y:α):α:=match m.contains j with | true=>x | false=>y
theorem Uo {α:Type}{m:List Nat}{j:Nat}{x y:α}(h:j∈m):pk m j x y=x:=by
 unfold pk;rw[show m.contains j=true by simpa using h]
theorem Vd {α:Type}{m:List Nat}{j:Nat}{x y:α}(h:j ∉ m):pk m j x y=y:=by
 unfold pk;rw[show m.contains j=false by simpa using h]
def JY {α:Type}(o:Option Nat) (f:Nat->α) (y:α):α:=match o with | some j=>f j | none=>y
theorem mH {α:Type}{o:Option Nat}{f:Nat->α}{y:α}{j:Nat}(h:o=some j):JY o f y=f j:=by rw[h];rfl
theorem pM {α:Type}{o:Option Nat}{f:Nat->α}{y:α}(h:o=none):JY o f y=y:=by rw[h];rfl
theorem su {o:SO}(h:bD o=none):bU o=false:=by cases o <;> first | rfl | cases h
section
variable {S:SC} {X:Cx} {c:Cn} {L:List SO} {H:Heap}
open Classical in
theorem RJ {Q0:Ex->Tm->Heap->Prop}{M:mg}{mc:iP}{i:Nat}{af:AF}(hfit:M.Fits mc) (hok:M.Ok af.np) (hf:S.has i af) (n:M.α->Nat)
 (E':M.α->Env) (hE':∀a,qP S X (E' a) Q0)
 (h:∀a,aS (M.pre a)->(wp (E' a) (n a) (MI i af M a)).den):fC S i mc:=by
 intro c L H xs ys r hr hpre hH hxs;obtain⟨a,b,he,hb,hinj,rfl⟩:=hfit xs L r hr;have hxs:ah (RVS c L) (M.P a b) ys:=by
  rw[<- he];refine⟨by simpa using hxs.1,fun i x y hx hy=>?_⟩;rw[List.getElem?_map,zD] at hx;obtain⟨x',hx',rfl⟩:=hx;exact BB (hxs.2 i x' y hx' hy)
 obtain⟨hk0,hren0⟩:=hok.l0 a b;have hki:(M.L0 a id).length=M.k:=(hok.l0 a id).1;have hbl:∀j,j<M.k->b j<L.length:=fun j hj=>aW (by
  rw[hb j hj];rcases hren0 j hj with ⟨_,h⟩ | ⟨p,q,h,_⟩
  .intro e;rw[e] at h;cases h
  .rw[h];simp)
 let cb:Cn:=⟨fun j=>c.π (b j),fun j=>c.nz (b j),fun j=>c.Z (b j),fun j=>c.ν (b j)⟩
 have tr:Tr c L cb (M.L0 a id) b M.k:=⟨hki,hbl,fun _ _=>rfl,fun _ _ _=>rfl,fun j hj=>by rw[hb j hj];exact(hren0 j hj).row,fun _ _ _=>rfl⟩;have hargs:=tr.toVs (hok.ren a b) hxs;have hnp:=zC (hok.np a)
 let hand:Nat->Prop:=fun i=>∃j,j<M.k/\((aF c (ae L (b j)) (b j)/\c.π (b j)=i)\/∃q r,Inn c L (b j) q i r)
 let K:Nat->Bool:=fun i=>decide (hand i\/live (H.o i)=false)
 have K1:∀i,hand i->K i=true:=fun i h=>decide_eq_true (.inl h)
 have K0:∀i,K i=false->¬ hand i/\live (H.o i)=true:=fun i h=>by
  have:=of_decide_eq_false h;rw[not_or] at this;exact⟨this.1,by simpa using this.2⟩
 have hlv0:∀j,j<M.k->aF cb (ae (M.L0 a id) j) j->aF c (ae L (b j)) (b j):=fun j hj h=>by
  rw[hb j hj];exact(hren0 j hj).live.2 (vX (c:=cb) (c0:=c) (i:=j) (j:=b j) (fun _=>rfl) h)
 have hin0:∀j q k' r,j<M.k->Inn cb (M.L0 a id) j q k' r->Inn c L (b j) q k' r:=fun j q k' r hj hI=>by
  obtain⟨u,l,q',h1,h2,h3,h4⟩:=hI;exact⟨u,l,q',by rw[hb j hj];exact(hren0 j hj).nest2.2 h1,h2,h3,h4⟩
 have hH0:RH cb (M.L0 a id) (H.keepO K):=by
  refine⟨fun j hj hl=>?_,fun j j' hj hj' hl hl' e=>?_,fun j hj=>?_,fun j hj=>?_,⟨fun j q k' r hj hI=>?_,fun j q k' r hj hI j' hj' hl=>?_,fun j q k' r j' q' r' hj hj' hI hI'=>?_⟩⟩
  .rw[hki] at hj;exact hH.lt (b j) (hbl j hj) (hlv0 j hj hl)
  .rw[hki] at hj hj';exact hinj j j' hj hj' (hH.inj (b j) (b j') (hbl j hj) (hbl j' hj') (hlv0 j hj hl) (hlv0 j' hj' hl') e)
  .rw[hki] at hj;have h0:=hH.ob (b j) (hbl j hj);rw[hb j hj] at h0;have h1:=tr.toO hj rfl (hren0 j hj) h0;by_cases hl:aF cb (ae (M.L0 a id) j) j
   .show ROS cb _ _ j (match K (c.π (b j)) with | true=>H.o (c.π (b j)) | false=>.dead);rw[K1 _ ⟨j,hj,.inl ⟨hlv0 j hj hl,rfl⟩⟩];exact h1
   .exact eZ hl h1
  .simp only[Heap.keepO];split
   .exact hH.hd j hj
   .rfl
  .rw[hki] at hj;have hI':=hin0 j q k' r hj hI;obtain⟨g1,els,g2,g3⟩:=hH.ns.ob (b j) q k' r (hbl j hj) hI';refine⟨g1,els,?_,g3⟩;show (match K k' with | true=>H.o k' | false=>.dead)=_;rw[K1 _ ⟨j,hj,.inr ⟨q,r,hI'⟩⟩];exact g2
  .rw[hki] at hj hj';exact hH.ns.pi (b j) q k' r (hbl j hj) (hin0 j q k' r hj hI) (b j') (hbl j' hj') (hlv0 j' hj' hl)
  .rw[hki] at hj hj';obtain⟨e1,e2⟩:=hH.ns.inj (b j) q k' r (b j') q' r' (hbl j hj) (hbl j' hj') (hin0 j q k' r hj hI) (hin0 j' q' k' r' hj' hI');exact⟨hinj j j' hj hj' e1,e2⟩
 let R:EA.Tm->Heap->Prop:=fun Tm' H'=>∃(x:M.β a) (c1:Cn) (T1m:EA.Tm) (H1:Heap),aS (M.post a x)/\(∀m,Abs S m Tm' H' T1m H1)/\RVS c1 (M.L1 a x id) (M.v a x id) (T1m 0)/\RH c1 (M.L1 a x id) H1/\RT c1 (M.L1 a x id) (M.FT a) (gp ys)
 have hs:=bO (hE' a) _ _ (h a hpre) cb (gp (ys++([]:List (Nat×Nat×Nat)).map fun q=>AV.one (.ptr q.1 q.2.1 q.2.2))) (H.keepO K) [.code af.body]
  [.call H.n af.res [.stop R] (fun _=>EA.junk) (some 0),.call 0 [] [] (gp ys) none] H.n (by
   show RT _ _ (nN af (M.P a id) []) _;unfold nN;rw[List.map_nil,List.map_nil,List.nil_append,List.append_nil];exact RT.args _ hargs) hH0 ⟨rfl,trivial⟩ ⟨rfl,rfl,fun k=>by
    cases k with
    |zero=>trivial
    | succ k=>trivial,⟨fun c2 T2 L2 Tm2 H2 hd hT2 hH2 hF2=>by
      obtain⟨x,hd⟩:=hd;obtain⟨hp,hd⟩:=iy hd;obtain⟨c3,T1m,H1,a1,a2,a3,a4⟩:=nV (S:=S) hT2 hH2 hd;refine⟨x,_,T1m,H1,hp,a1,a2 0,a3,?_⟩;have hF3:RFr [frG M a] [.call 0 [] [] (gp ys) none] c3 (M.L1 a x id):=a4.fr (fun b hb=>hb) hF2;exact hF3.2.2.1,trivial⟩,⟨rfl,rfl,by
      have:=RT.args 0 hargs;rw[show M.P a id++yH 0 (.tup [])=M.P a id from List.append_nil _] at this;exact(aI.refl (iv:=fun _=>False)).jts (fun _ h=>h.elim) this,trivial,trivial⟩⟩
 have hmf:MF S i [] ys (H.keepO K) fun v' H'=>R (dC (fun _=>EA.junk) (some 0) v') H':=
  MF.of hf (by rw[<- hargs.1,<- hnp];simp) (MC.mono (show MC S H.n af.body _ (H.keepO K) _ from hs) fun e T' H' hh=>hh)
 have hmf2:MF S i [] ys (H.keepO K) fun v' H1=>∃(x:M.β a) (c1:Cn),aS (M.post a x)/\RVS c1 (M.L1 a x id) (M.v a x id) v'/\RH c1 (M.L1 a x id) H1/\RT c1 (M.L1 a x id) (M.FT a) (gp ys):=
  MF.conv (hmf.mono fun v' H' hh=>by
   obtain⟨x,c1,T1m,H1,h1,h2,h3,h4,h5⟩:=hh;exact⟨_,T1m,H1,rfl,h2 _,⟨x,c1,h1,h3,h4,h5⟩,fun k hk=>by show (if k=0 then v' else EA.junk)=EA.junk;rw[if_neg hk]⟩)
 refine MF.frame hmf2 fun v' H1 hh hn hsep=>?_
 obtain⟨x,c1,h1,h2,h3,h4⟩:=hh;obtain⟨hk1,hren1⟩:=hok.l1 a x b;have hk1i:(M.L1 a x id).length=M.k:=(hok.l1 a x id).1;have hπ:∀j,j<M.k->j ∉ M.mv->c1.π j=c.π (b j):=fun j hj hm=>by
  have hT0:RT cb (M.L0 a id) (M.FT a) (gp ys):=by
   have:=RT.args 0 hargs;rw[show M.P a id++yH 0 (.tup [])=M.P a id from List.append_nil _] at this;exact(aI.refl (iv:=fun _=>False)).jts (fun _ h=>h.elim) this
  obtain⟨q,hq | hq⟩:=hok.arg a j hj hm
  .have e1:=h4 q;have e0:=hT0 q;rw[zA,hq] at e1 e0;obtain⟨y1,hy1,_,hz1⟩:=e1;obtain⟨y0,hy0,_,hz0⟩:=e0;rw[hy1] at hy0;cases hy0;rw[hz1] at hz0;injection hz0
  .have e1:=h4 q;have e0:=hT0 q;rw[zA,hq] at e1 e0;obtain⟨y1,hy1,_,hz1⟩:=e1;obtain⟨y0,hy0,_,hz0⟩:=e0;rw[hy1] at hy0;cases hy0;rw[hz1] at hz0;injection hz0
 let new:Nat->Prop:=fun i=>∃j,j<M.k/\((aF c1 (ae (M.L1 a x id) j) j/\c1.π j=i)\/∃q r,Inn c1 (M.L1 a x id) j q i r)
 have newOwn:∀i,new i->i<H1.n/\own (H1.o i)=true:=by
  rintro i ⟨j,hj,⟨hl,rfl⟩ | ⟨q,r,hI⟩⟩
  .exact⟨h3.lt j (by rw[hk1i];exact hj) hl,Fs hl (h3.ob j (by rw[hk1i];exact hj))⟩
  .obtain⟨g1,els,g2,_⟩:=h3.ns.ob j q i r (by rw[hk1i];exact hj) hI;exact⟨g1,by rw[g2];rfl⟩
 let KN:Nat->Bool:=fun i=>decide (new i)
 let ix:Nat->Option Nat:=fun d=>if h:∃j,j<M.k/\b j=d then some h.choose else none
 have ixb:∀j,j<M.k->ix (b j)=some j:=fun j hj=>by
  have hex:∃j',j'<M.k/\b j'=b j:=⟨j,hj,rfl⟩;show (if h:∃j',j'<M.k/\b j'=b j then some h.choose else none)=_;rw[dif_pos hex,hinj _ j hex.choose_spec.1 hj hex.choose_spec.2]
 have ixn:∀d,(¬ ∃j,j<M.k/\b j=d)->ix d=none:=fun d h=>dif_neg h
 let c':Cn:=⟨fun d=>JY (ix d) c1.π (c.π d),fun d=>JY (ix d) (fun j=>pk M.mv j (c1.nz j) (c.nz d)) (c.nz d),c.Z,fun d=>JY (ix d) (fun j=>pk M.mv j (c1.ν j) (c.ν d)) (c.ν d)⟩
 have cπ:∀j,j<M.k->c'.π (b j)=c1.π j:=fun j hj=>mH (ixb j hj)
 have cnz:∀j,j<M.k->j∈M.mv->c'.nz (b j)=c1.nz j:=fun j hj hm=>(mH (ixb j hj)).trans (Uo hm)
 have cnz0:∀j,j<M.k->j ∉ M.mv->c'.nz (b j)=c.nz (b j):=fun j hj hm=>(mH (ixb j hj)).trans (Vd hm)
 have cν:∀j,j<M.k->j∈M.mv->c'.ν (b j)=c1.ν j:=fun j hj hm=>(mH (ixb j hj)).trans (Uo hm)
 have oπ:∀d,(¬ ∃j,j<M.k/\b j=d)->c'.π d=c.π d:=fun d h=>pM (ixn d h)
 have onz:∀d,(¬ ∃j,j<M.k/\b j=d)->c'.nz d=c.nz d:=fun d h=>pM (ixn d h)
 have oν:∀d,(¬ ∃j,j<M.k/\b j=d)->c'.ν d=c.ν d:=fun d h=>pM (ixn d h)
 have hLl:((M.res a b L).L x).length=L.length:=by show (iL b 0 _ _).length=_;rw[sK,zR]
 have gb:∀j,j<M.k->ae ((M.res a b L).L x) (b j)=ae (M.L1 a x b) j:=fun j hj=>by
  have:=xk (b:=b) (l:=M.L1 a x b) (s:=0) (L:=L.map (jOs (rD b M.mv))) (j:=j) (fun i j hi hj e=>by
   rw[hk1] at hi hj;simp only[Nat.zero_add] at e;exact hinj i j hi hj e) (fun j hj=>by rw[hk1] at hj;rw[zR,Nat.zero_add];exact hbl j hj) (by rw[hk1];exact hj)
  rwa [Nat.zero_add] at this
 have go:∀d,(¬ ∃j,j<M.k/\b j=d)->ae ((M.res a b L).L x) d=jOs (rD b M.mv) (ae L d):=fun d h=>by
  show ae (iL b 0 _ _) d=_;rw[qA fun j hj e=>h ⟨j,by rw[hk1] at hj;exact hj,by rwa [Nat.zero_add] at e⟩,cK rfl]
 generalize hL':(M.res a b L).L x=L' at hLl gb go;have mvR:∀j,j<M.k->bD (ae (M.L1 a x id) j)≠none->j∈M.mv:=fun j hj hr=>Decidable.byContradiction fun hm=>hr (hok.um a x j hj hm).2
 have tr1:Tr c' L' c1 (M.L1 a x id) b M.k:=⟨hk1i,fun j hj=>by rw[hLl];exact hbl j hj,cπ,fun j hj hr=>cnz j hj (mvR j hj hr),fun j hj=>by rw[gb j hj];exact(hren1 j hj).row,fun j hj hm=>cν j hj (mvR j hj fun h=>by rw[su h] at hm;cases hm)⟩;have hlv1:∀j,j<M.k->aF c' (ae L' (b j)) (b j)->aF c1 (ae (M.L1 a x id) j) j:=fun j hj h=>by
  rw[gb j hj] at h;exact vX (c:=c') (c0:=c1) (i:=b j) (j:=j) (fun hr=>tr1.nz j hj hr) ((hren1 j hj).live.1 h)
 have hin1:∀j q k' r,j<M.k->Inn c' L' (b j) q k' r->Inn c1 (M.L1 a x id) j q k' r:=fun j q k' r hj hI=>by
  obtain⟨u,l,q',g1,g2,g3,g4⟩:=hI;rw[gb j hj] at g1;have g1:=(hren1 j hj).nest2.1 g1;exact⟨u,l,q',g1,g2,by rw[<- tr1.ν j hj (by rw[g1];rfl)];exact g3,g4⟩
 have lvo:∀d,(¬ ∃j,j<M.k/\b j=d)->aF c' (ae L' d) d->aF c (ae L d) d:=fun d hd h=>by
  rw[go d hd] at h;have h2:aF c' (ae L d) d:=by
   cases ho:ae L d <;> rw[ho] at h <;> exact h
  exact jE (onz d hd) h2
 have ino:∀d q k' r,(¬ ∃j,j<M.k/\b j=d)->Inn c' L' d q k' r->Inn c L d q k' r:=fun d q k' r hd hI=>by
  obtain⟨u,l,q',g1,g2,g3,g4⟩:=hI;rw[go d hd] at g1;refine⟨u,l,q',?_,g2,by rw[<- oν d hd];exact g3,g4⟩;cases ho:ae L d <;> rw[ho] at g1 <;> first | exact g1 | cases g1
 have oth:∀i,i<H.n->¬ hand i->live (H.o i)=true->(H1.joinO H K KN).o i=H.o i/\¬ new i:=fun i hi hh hl=>by
  have hK:K i=false:=decide_eq_false (by rw[not_or];exact⟨hh,by rw[hl];simp⟩);refine⟨?_,fun hw=>?_⟩
  .simp only[Heap.joinO,hK,Bool.not_false,Bool.and_true];rw[show Nat.blt i H.n=true from Nat.ble_eq_true_of_le hi]
  .have:=(newOwn i hw).2;rw[hsep i hi hK hl] at this;cases this
 have nw:∀i,new i->(H1.joinO H K KN).o i=H1.o i:=fun i hw=>by
  have ho:=(newOwn i hw).2;simp only[Heap.joinO];split
  .rename_i hb2;simp only[zH,Bool.not_eq_true'] at hb2;have:=hsep i (zW hb2.1) hb2.2 (K0 i hb2.2).2;rw[this] at ho;cases ho
  .rw[show KN i=true from decide_eq_true hw]
 have oth1:∀d,d<L.length->(¬ ∃j,j<M.k/\b j=d)->aF c (ae L d) d->c.π d<H.n/\¬ hand (c.π d)/\live (H.o (c.π d))=true:=fun d hd hn hl=>by
  refine⟨hH.lt d hd hl,?_,lF (Fs hl (hH.ob d hd))⟩;rintro⟨j,hj,⟨g1,g2⟩ | ⟨q,r,hI⟩⟩
  .exact hn ⟨j,hj,hH.inj (b j) d (hbl j hj) hd g1 hl g2⟩
  .exact hH.ns.pi (b j) q _ r (hbl j hj) hI d hd hl rfl
 have oth2:∀d q k' r,d<L.length->(¬ ∃j,j<M.k/\b j=d)->Inn c L d q k' r->k'<H.n/\¬ hand k'/\live (H.o k')=true:=fun d q k' r hd hn hI=>by
  obtain⟨g1,els,g2,_⟩:=hH.ns.ob d q k' r hd hI;refine⟨g1,?_,by rw[g2];rfl⟩;rintro⟨j,hj,⟨p1,p2⟩ | ⟨q',r',hI'⟩⟩
  .exact hH.ns.pi d q k' r hd hI (b j) (hbl j hj) p1 p2
  .exact hn ⟨j,hj,(hH.ns.inj (b j) q' k' r' d q r (hbl j hj) hd hI' hI).1⟩
 have KK:aI c L c' L' fun d=>d∈rD b M.mv:=by
  have umv:∀j,j<M.k->b j ∉ rD b M.mv->j ∉ M.mv:=fun j hj hi hm=>hi (Av.2 ⟨j,hm,.inl rfl⟩)
  refine⟨fun d hd _=>by rw[hLl];exact hd,fun d hd hi=>?_,fun d hd hi=>?_,fun d hd=>rfl,fun d hd hi t' l' hr=>?_,fun d hd hi _=>?_⟩
  .by_cases hx:∃j,j<M.k/\b j=d
   .obtain⟨j,hj,rfl⟩:=hx;rw[cπ j hj];exact hπ j hj (umv j hj hi)
   .exact oπ d hx
  .by_cases hx:∃j,j<M.k/\b j=d
   .obtain⟨j,hj,rfl⟩:=hx;exact cnz0 j hj (umv j hj hi)
   .exact onz d hx
  .by_cases hx:∃j,j<M.k/\b j=d
   .obtain⟨j,hj,rfl⟩:=hx;rw[gb j hj,(hren1 j hj).row,(hok.um a x j hj (umv j hj hi)).2] at hr;cases hr
   .rw[go d hx,Rj] at hr;exact⟨t',l',hr,rfl⟩
  .by_cases hx:∃j,j<M.k/\b j=d
   .obtain⟨j,hj,rfl⟩:=hx;refine EL ?_;rw[hb j hj,(hren0 j hj).nest];exact su (hok.um a x j hj (umv j hj hi)).1
   .have e:∀{t u l},ae L d=.nest t u l none->ae L' d=.nest t u l none:=fun g=>by rw[go d hx,g];rfl
    exact⟨fun i x ⟨t,u,l,g,q,g5,g6⟩=>⟨t,u,l,e g,q,g5,by rw[oν d hx];exact g6⟩,fun i k ⟨t,u,l,g,g5,g6⟩=>⟨t,u,l,e g,g5,by rw[oν d hx];exact g6⟩⟩
 have newJ:∀j,j<M.k->aF c1 (ae (M.L1 a x id) j) j->new (c1.π j):=fun j hj hl=>⟨j,hj,.inl ⟨hl,rfl⟩⟩
 refine⟨KN,fun i hi=>(newOwn i (of_decide_eq_true hi)).2,x,h1,c',by rw[hL'];exact tr1.fromV (hok.cl a x b) h2,?_,by rw[hL'];exact KK⟩;rw[hL'];refine⟨fun d hd hl=>?_,fun d d' hd hd' hl hl' e=>?_,fun d hd=>?_,fun i hi=>?_,⟨fun d q k' r hd hI=>?_,fun d q k' r hd hI d' hd' hl=>?_,fun d q k' r d' q' r' hd hd' hI hI'=>?_⟩⟩
 .rw[hLl] at hd;by_cases hx:∃j,j<M.k/\b j=d
  .obtain⟨j,hj,rfl⟩:=hx;rw[cπ j hj];exact h3.lt j (by rw[hk1i];exact hj) (hlv1 j hj hl)
  .rw[oπ d hx];exact Nat.lt_of_lt_of_le (hH.lt d hd (lvo d hx hl)) hn
 .rw[hLl] at hd hd';by_cases hx:∃j,j<M.k/\b j=d <;> by_cases hx':∃j,j<M.k/\b j=d'
  .obtain⟨j,hj,rfl⟩:=hx;obtain⟨j',hj',rfl⟩:=hx';rw[cπ j hj,cπ j' hj'] at e;rw[h3.inj j j' (by rw[hk1i];exact hj) (by rw[hk1i];exact hj') (hlv1 j hj hl) (hlv1 j' hj' hl') e]
  .obtain⟨j,hj,rfl⟩:=hx;rw[cπ j hj,oπ d' hx'] at e;obtain⟨g1,g2,g3⟩:=oth1 d' hd' hx' (lvo d' hx' hl');exact absurd (e ▸ newJ j hj (hlv1 j hj hl)) (oth _ g1 g2 g3).2
  .obtain⟨j,hj,rfl⟩:=hx';rw[cπ j hj,oπ d hx] at e;obtain⟨g1,g2,g3⟩:=oth1 d hd hx (lvo d hx hl);exact absurd (e.symm ▸ newJ j hj (hlv1 j hj hl')) (oth _ g1 g2 g3).2
  .rw[oπ d hx,oπ d' hx'] at e;exact hH.inj d d' hd hd' (lvo d hx hl) (lvo d' hx' hl') e
 .rw[hLl] at hd;by_cases hx:∃j,j<M.k/\b j=d
  .obtain⟨j,hj,rfl⟩:=hx;rw[gb j hj,cπ j hj];have h0:=tr1.fromO hj rfl (hren1 j hj) (h3.ob j (by rw[hk1i];exact hj));by_cases hl:aF c1 (ae (M.L1 a x id) j) j
   .rw[nw _ (newJ j hj hl)];exact h0
   .refine eZ (fun h=>hl ?_) h0;exact hlv1 j hj (by rw[gb j hj];exact h)
  .rw[go d hx,oπ d hx];have h0:=KK.joOs (inv:=rD b M.mv) (fun _ h=>h) hd (onz d hx) (oν d hx) (hH.ob d hd);by_cases hl:aF c (ae L d) d
   .obtain⟨g1,g2,g3⟩:=oth1 d hd hx hl;rw[(oth _ g1 g2 g3).1];exact h0
   .refine eZ (fun h=>hl (lvo d hx ?_)) h0;rw[go d hx];exact h
 .have hi:H1.n<=i:=hi;simp only[Heap.joinO];split
  .rename_i hb2;simp only[zH] at hb2;have:=zW hb2.1;omega
  .split
   .exact h3.hd i hi
   .rfl
 .rw[hLl] at hd;by_cases hx:∃j,j<M.k/\b j=d
  .obtain⟨j,hj,rfl⟩:=hx;have hI':=hin1 j q k' r hj hI;obtain⟨g1,g2⟩:=h3.ns.ob j q k' r (by rw[hk1i];exact hj) hI';refine⟨g1,?_⟩;rw[nw _ ⟨j,hj,.inr ⟨q,r,hI'⟩⟩];exact g2
  .have hI':=ino d q k' r hx hI;obtain⟨g1,g2⟩:=hH.ns.ob d q k' r hd hI';obtain⟨p1,p2,p3⟩:=oth2 d q k' r hd hx hI';rw[(oth _ p1 p2 p3).1];exact⟨Nat.lt_of_lt_of_le g1 hn,g2⟩
 .rw[hLl] at hd hd';by_cases hx:∃j,j<M.k/\b j=d <;> by_cases hx':∃j,j<M.k/\b j=d'
  .obtain⟨j,hj,rfl⟩:=hx;obtain⟨j',hj',rfl⟩:=hx';rw[cπ j' hj'];exact h3.ns.pi j q k' r (by rw[hk1i];exact hj) (hin1 j q k' r hj hI) j' (by rw[hk1i];exact hj') (hlv1 j' hj' hl)
  .obtain⟨j,hj,rfl⟩:=hx;rw[oπ d' hx'];obtain⟨g1,g2,g3⟩:=oth1 d' hd' hx' (lvo d' hx' hl);exact fun e=>(oth _ g1 g2 g3).2 (e ▸ ⟨j,hj,.inr ⟨q,r,hin1 j q k' r hj hI⟩⟩)
  .obtain⟨j,hj,rfl⟩:=hx';rw[cπ j hj];obtain⟨p1,p2,p3⟩:=oth2 d q k' r hd hx (ino d q k' r hx hI);exact fun e=>(oth _ p1 p2 p3).2 (e ▸ newJ j hj (hlv1 j hj hl))
  .rw[oπ d' hx'];exact hH.ns.pi d q k' r hd (ino d q k' r hx hI) d' hd' (lvo d' hx' hl)
 .rw[hLl] at hd hd';by_cases hx:∃j,j<M.k/\b j=d <;> by_cases hx':∃j,j<M.k/\b j=d'
  .obtain⟨j,hj,rfl⟩:=hx;obtain⟨j',hj',rfl⟩:=hx';obtain⟨e1,e2⟩:=h3.ns.inj j q k' r j' q' r' (by rw[hk1i];exact hj) (by rw[hk1i];exact hj') (hin1 j q k' r hj hI) (hin1 j' q' k' r' hj' hI');exact⟨by rw[e1],e2⟩
  .obtain⟨j,hj,rfl⟩:=hx;obtain⟨p1,p2,p3⟩:=oth2 d' q' k' r' hd' hx' (ino d' q' k' r' hx' hI');exact absurd ⟨j,hj,.inr ⟨q,r,hin1 j q k' r hj hI⟩⟩ (oth _ p1 p2 p3).2
  .obtain⟨j,hj,rfl⟩:=hx';obtain⟨p1,p2,p3⟩:=oth2 d q k' r hd hx (ino d q k' r hx hI);exact absurd ⟨j,hj,.inr ⟨q',r',hin1 j q' k' r' hj hI'⟩⟩ (oth _ p1 p2 p3).2
  .exact hH.ns.inj d q k' r d' q' r' hd hd' (ino d q k' r hx hI) (ino d' q' k' r' hx' hI')
theorem muG (hB:SB S) (cd:List (Nat×AF)) (ms:List MS) (mm:List (Nat×iP)) (hcd:jy S cd) (hms:lM S ms) (hmm:mF S mm) {i:Nat}{af:AF}(hf:S.has i af) {M:mg}{mc:iP}(hfit:M.Fits mc) (hok:M.Ok af.np) (an:M.α->ANF) (n:Nat)
 (h:∀a,aS (M.pre a)->(wp (EN cd ms mm (an a) (fun _ _=>.ff)) n (MI i af M a)).den):fC S i mc:=
 RJ (Q0:=fun _ _ _=>True) hfit hok hf (fun _=>n) (fun a=>EN cd ms mm (an a) (fun _ _=>.ff)) (fun a=>⟨rR hB hms,fun i af h=>hcd.look i af h,fun i con h=>by
  obtain⟨m,hm,rfl⟩:=zD.1 h;exact oN (X:=Xm ms) (by simp[Xm,hm]) (hms.look i m hm).2.1 (hms.look i m hm).2.2,fun c T L Tm H e he ht=>ht.elim,fun i mc h=>hmm.look i mc h⟩) h
end
end Go.EA
end
