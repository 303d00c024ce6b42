/- Texts. Conditions: none. -/
import Derived.Test.YtkpahammkkfphaaDoorEK8
import Derived.Test.YtkpahammkkfphaaDoorEK6
set_option linter.unusedVariables false
set_option linter.unusedSimpArgs false
section
namespace Go.EA
section
variable {S:SC} {X:Cx} {c:Cn} {L:List SO} {H:Heap} {T:ST} {Tm:Tm} {m:Nat}
theorem MF.conv {f:Nat}{cap:List (Nat×Nat×Nat)}{xs:List AV}{Q:AV->Heap->Prop}(h:MF S f cap xs H fun v0 H0=>∃T0 T1 H1,T0 0=v0/\Abs S H.n T0 H0 T1 H1/\Q (T1 0) H1/\∀k,k≠0->T0 k=junk):MF S f cap xs H Q:=by
 intro ρ w vs h1 h2 h3;obtain⟨k1,k2⟩:=h ρ w vs h1 h2 h3;refine⟨k1,k2.mono fun e w' hr=>?_⟩;obtain⟨v0,H0,⟨T0,T1,H1,e0,ha,hq,hj⟩,u,ρ',rfl,g1,g2,g3⟩:=hr;obtain⟨ρ1,a1,a2,a3⟩:=ha g2.nn ρ' w' #[u] (fun k v hk=>by
  cases k with
  |zero=>simp at hk;subst hk;rw[e0];exact g3
  |succ k=>simp at hk) g1
 exact⟨T1 0,H1,hq,u,ρ1,rfl,a2,g2.transB a3 (zJ _),a1 0 u (by simp)⟩
def jk (S:SC):List (Nat×AF)->Prop
 |[]=>True
 |p::l=>S.has p.1 p.2/\jk S l
def look {α:Type}:List (Nat×α)->Nat->Option α
 |[],_=>none
 |p::l,i=>match Nat.beq p.1 i with | true=>some p.2 | false=>look l i
theorem jk.look:∀{l:List (Nat×AF)},jk S l->∀i af,EA.look l i=some af->S.has i af
 |[],_,i,af,h=>by cases h
 | p::l,⟨h1,h2⟩,i,af,h=>by
   simp only[EA.look] at h;split at h
   .rename_i e;cases h;rw[<- zC e];exact h1
   .exact jk.look h2 i af h
abbrev ANF:=Nat->Nat->ST->List SO->Option LA
def start (i:Nat) (af:AF) (xs:List SV):SS:=⟨.normal,i,af.res,[.code af.body],qj af xs [],[],[]⟩
theorem qV:∀{xs:List SV},xs.all clV=true->ae (RVS c L) xs (xs.map aF)
 |[],_=>ae.nil
 | x::xs,h=>by
   simp only[List.all_cons,zH] at h;exact ae.cons ((kQ h.1).2 rfl) (qV h.2)
theorem ED (hS:S.Good X) {E:Env}{i:Nat}{af:AF}{xs:List SV}{v:SV}(hcd:∀i af,E.CD i=some af->S.has i af) (hkt:∀i con,E.KT i=some con->Ed X i con) (hmt:∀i mc,E.MT i=some mc->jN S i mc) (htop:E.top=wh af.res v) (hf:S.has i af) (hnp:Nat.beq xs.length af.np=true) (hx:xs.all clV=true) (hv:clV v=true)
 (n:Nat) (h:(wp E n (start i af xs)).den):MF S i [] (xs.map aF) (hl []) fun v' _=>v'=aF v:=by
 refine MF.conv (MF.of hf (by rw[<- zC hnp];simp) ?_)
 have hE:qI S X E fun ex T' H'=>(ex=.ret\/ex=.normal)/\∃v',iw T' H' af.res=some v'/\∃T0 T1 H1,T0 0=v'/\Abs S (hl []).n T0 H' T1 H1/\T1 0=aF v/\∀k,k≠0->T0 k=junk:=by
  refine⟨hS,hcd,hkt,fun c T L Tm H e he ht hT hH=>⟨he,?_⟩,hmt⟩;rw[htop] at ht;unfold wh at ht;split at ht
  .rename_i v0 hv0;obtain⟨a0,e1,e2⟩:=yL hT hH hv0;have hT0:RT c L [v0] (fun k=>match k with | 0=>a0 | _=>junk):=fun k=>by
    cases k with
    |zero=>exact e2
    |succ k=>trivial
   obtain⟨c3,T1m,H1,g1,g2,g3,_⟩:=mq (S:=S) hT0 hH ht;exact⟨a0,e1,_,T1m,H1,rfl,g1 _,(kQ hv).1 (g2 0),fun k hk=>by cases k with
    |zero=>exact absurd rfl hk
    |succ k=>rfl⟩
  .exact ht.elim
 have hsy:=bG hE n _ h;have hT:RT ⟨id,fun _=>true,fun _=>ld0,fun _ _=>none⟩ [] (qj af xs []) (jf (xs.map aF++([]:List (Nat×Nat×Nat)).map fun q=>AV.one (.ptr q.1 q.2.1 q.2.2))):=by
  unfold qj;rw[List.map_nil,List.map_nil,List.nil_append,List.append_nil];exact RT.args _ (qV hx)
 exact hsy ⟨id,fun _=>true,fun _=>ld0,fun _ _=>none⟩ _ (hl []) [.code af.body] [] (hl []).n hT ⟨fun b hb=>absurd hb (zS _),fun b b' hb=>absurd hb (zS _),fun b hb=>absurd hb (zS _),KS [],⟨fun b i k r hb=>absurd hb (zS _),fun b i k r hb=>absurd hb (zS _),fun b i k r b' i' r' hb=>absurd hb (zS _)⟩⟩ ⟨rfl,trivial⟩ trivial
theorem fH {x:SL}(h:clL x=true):(bi x).closed=true:=by
 cases x <;> simp only[clL,Bool.false_eq_true] at h <;> rfl
theorem gH {x:List SL}(h:x.all clL=true):(x.map bi).all Lf.closed=true:=by
 rw[List.all_map,List.all_eq_true];exact fun y hy=>fH (List.all_eq_true.1 h y hy)
theorem gp {x:SV}(h:clV x=true):(aF x).closed=true:=by
 cases x with
 |one x=>exact fH h
 |agg x=>exact gH h
 | tup x=>
   simp only[aF,AV.closed,Bool.or_eq_true];refine .inl ?_;rw[List.all_map,List.all_eq_true];intro y hy;have:=List.all_eq_true.1 h y hy;cases y with
   |o y=>exact fH this
   |a y=>exact gH this
 |junk=>cases h
 |ite _ _ _ _=>cases h
noncomputable def dU {α:Type}(pat:α->List SV) (res:α->SV×List Prop):GP:=sI (fun a=>(pat a).map aF) (fun a=>(aF (res a).1,(res a).2))
theorem tF {i:Nat}{g:GP}{con:Con}(hp:X.pr i=some (iX g)) (hun:UnG g) (h:∀xs v cs,con.g xs=some (v,cs)->aK cs->∃cs',g (xs.map aF)=some (aF v,cs')/\aK cs'):Ed X i con:=⟨g,hp,hun,h⟩
theorem Gu {α:Type}{pat:α->List SV}{res:α->SV×List Prop}(inj:∀a b,(pat a).map aF=(pat b).map aF->a=b) (a:α):dU pat res ((pat a).map aF)=some (aF (res a).1,(res a).2):=
 yO (pat:=fun a=>(pat a).map aF) inj a
def shL:SL->SL->Bool
 |.int k _,.int k' _=>decide (k=k')
 |.bool _,.bool _=>true
 |.str _,.str _=>true
 |.row t _,.row t' _=>match Ty.eq? t t' with | some _=>true | none=>false
 |.vptr t _ o,.vptr t' _ o'=>match Ty.eq? t t' with | some _=>Nat.beq o o' | none=>false
 |.fn f [],.fn g []=>Nat.beq f g
 |.nilp,.nilp | .nils,.nils | .slz,.slz | .nilf,.nilf | .nilm,.nilm | .nili,.nili=>true
 |_,_=>false
def Gw:List SL->List SL->Bool
 |[],[]=>true
 |x::r,y::q=>shL x y&&Gw r q
 |_,_=>false
def shV:SV->SV->Bool
 |.one x,.one y=>shL x y
 |.agg x,.agg y=>Gw x y
 |_,_=>false
def wz:List SV->List SV->Bool
 |[],[]=>true
 |x::r,y::q=>shV x y&&wz r q
 |_,_=>false
theorem ol:∀{a b a' b':List Lf},ShC a a'->ShC b b'->ShC (a++b) (a'++b')
 |[],b,a',b',h,h'=>by simp only[ShC] at h;subst h;exact h'
 |x::r,b,[],b',h,_=>by simp only[ShC] at h
 | x::r,b,y::q,b',h,h'=>by
   simp only[ShC] at h;simp only[List.cons_append,ShC];exact⟨h.1,ol h.2 h'⟩
theorem DW:∀{els:List (List Lf)}{e':List Lf},(∀e∈els,ShC e e')->ShR els e'
 |[],e',_=>by simp only[ShR]
 |e::r,e',h=>by simp only[ShR];exact⟨h e (by simp),DW fun x hx=>h x (by simp[hx])⟩
theorem kU:∀(t:Ty) (x y:t.den),ShC (t.enc x) (t.enc y)
 |.int k,x,y=>by simp[Ty.enc,ShC,ShF]
 |.bool,x,y=>by simp[Ty.enc,ShC,ShF]
 |.str,x,y=>by simp[Ty.enc,ShC,ShF]
 |.pair a b,x,y=>ol (kU a x.1 y.1) (kU b x.2 y.2)
 | .row t,x,y=>by
   simp only[Ty.enc,ShC,ShF,and_true];refine⟨_,rfl,fun e' he'=>DW fun e he=>?_⟩;obtain⟨u,_,rfl⟩:=List.mem_map.1 he;obtain⟨u',_,rfl⟩:=List.mem_map.1 he';exact kU t u u'
theorem sZ:∀{a a':List Lf}(o:Nat),ShC a a'->ShC (a.drop o) (a'.drop o)
 |a,a',0,h=>h
 |[],a',o+1,h=>by simp only[ShC] at h;subst h;simp[ShC]
 |x::r,[],o+1,h=>by simp only[ShC] at h
 |x::r,y::q,o+1,h=>by simp only[ShC] at h;exact sZ o h.2
theorem BU {x y:SL}(h:shL x y=true):ShF (bi x) (bi y):=by
 unfold shL at h;split at h
 .have:=of_decide_eq_true h;subst this;simp[bi,ShF]
 .simp[bi,ShF]
 .simp[bi,ShF]
 .rename_i t l t' l';split at h
  .rename_i he _;obtain⟨he⟩:=he;subst he;have:=kU (.row t) l l';simp only[Ty.enc,ShC,and_true] at this;exact this
  .cases h
 .split at h
  .rename_i t x o t' y o' _ he _;obtain⟨he⟩:=he;subst he;have:=zC h;subst this;simp only[bi,ShF];exact⟨_,rfl,sZ o (kU t x y)⟩
  .cases h
 .have:=zC h;subst this;simp[bi,ShF]
 all_goals first | (simp[bi,ShF];done) | cases h
theorem xY:∀{x y:List SL},Gw x y=true->ShC (x.map bi) (y.map bi)
 |[],[],_=>by simp[ShC]
 | x::r,y::q,h=>by
   simp only[Gw,zH] at h;simp only[zK,ShC];exact⟨BU h.1,xY h.2⟩
 |[],_::_,h=>by cases h
 |_::_,[],h=>by cases h
theorem Jz {x y:SV}(h:shV x y=true):ShV (aF x) (aF y):=by
 unfold shV at h;split at h
 .exact⟨_,rfl,BU h⟩
 .exact⟨_,rfl,xY h⟩
 .cases h
theorem wm {H:Heap}:∀{xs ys:List SV}{zs:List AV},wz xs ys=true->ae (ImV H) (xs.map aF) zs->ae (ImV H) (ys.map aF) zs->xs.map aF=ys.map aF
 |[],[],_,_,_,_=>rfl
 | x::r,y::q,zs,h,h1,h2=>by
   simp only[wz,zH] at h;obtain⟨z,zs,rfl,a1,a2⟩:=h1.cons_inv;obtain⟨z',zs',e,b1,b2⟩:=h2.cons_inv;cases e;rw[zK,zK,Jf (Jz h.1) a1 b1,wm h.2 a2 b2]
 |[],_::_,_,h,_,_=>by cases h
 |_::_,[],_,h,_,_=>by cases h
theorem Em {H:Heap}{x:SV}(h:clV x=true) (hn:∀v,x≠.tup v):ImV H (aF x) (aF x):=by
 cases x with
 |one x=>exact⟨_,rfl,nV (fH h)⟩
 |agg x=>exact⟨_,rfl,rfl,by have:=jE (H:=H) (zs:=[]) (gH h);rwa [List.append_nil] at this⟩
 |tup v=>exact absurd rfl (hn v)
 |junk=>cases h
 |ite _ _ _ _=>cases h
theorem qR {H:Heap}:∀{xs ys:List SV},xs.all clV=true->wz xs ys=true->ae (ImV H) (xs.map aF) (xs.map aF)
 |[],_,_,_=>ae.nil
 |x::r,[],_,h=>by cases h
 | x::r,y::q,hc,h=>by
   simp only[wz,zH] at h;simp only[List.all_cons,zH] at hc;exact ae.cons (Em hc.1 fun v e=>by subst e; cases y <;> cases h.1) (qR hc.2 h.2)
theorem uh {α:Type}{pat:α->List AV}{res:α->AV×List Prop}{xs:List AV}{r:AV×List Prop}(h:sI pat res xs=some r):∃a,xs=pat a/\r=res a:=by
 unfold sI at h;split at h
 .rename_i hx;simp only[zE] at h;exact⟨_,hx.choose_spec.symm,h.symm⟩
 .cases h
theorem JN {α:Type}{pat:α->List SV}{res:α->SV×List Prop}(inj:∀a b,(pat a).map aF=(pat b).map aF->a=b) (sh:∀a b,wz (pat a) (pat b)=true) (cl:∀a,(pat a).all clV=true):UnG (dU pat res):=by
 have key:∀{H xs v},jJ (dU pat res) H xs v->∃a,ae (ImV H) ((pat a).map aF) xs/\v=aF (res a).1:=by
  intro H xs v h;rcases h with ⟨c,hg,_⟩ | ⟨_,ys,c,hi,hg,_⟩
  .obtain⟨a,rfl,e⟩:=uh hg;exact⟨a,qR (cl a) (sh a a),congrArg Prod.fst e⟩
  .obtain⟨a,rfl,e⟩:=uh hg;exact⟨a,hi,congrArg Prod.fst e⟩
 intro H xs v v' h h';obtain⟨a,h1,rfl⟩:=key h;obtain⟨b,h2,rfl⟩:=key h';have:=inj a b (wm (sh a b) h1 h2);rw[this]
theorem VC.use {v:VC}{p:Prop}(h:v.den=p) (hp:p):v.den:=by rw[h];exact hp
theorem Ib {α:Type}{a b c d:List α}(h:a++b=c++d) (hl:a.length=c.length):a=c/\b=d:=List.append_inj h hl
theorem Ty.enc_inj:∀(t:Ty) {x y:t.den},t.enc x=t.enc y->x=y
 |.int k,x,y,h=>by simp only[Ty.enc,zG,Lf.int.injEq,and_true,true_and] at h;exact h
 |.bool,x,y,h=>by simp only[Ty.enc,zG,Lf.bool.injEq,and_true] at h;exact h
 |.str,x,y,h=>by simp only[Ty.enc,zG,Lf.str.injEq,and_true] at h;exact h
 | .pair a b,x,y,h=>by
   obtain⟨h1,h2⟩:=Ib h (by rw[Ty.enc_len,Ty.enc_len]);exact Prod.ext (Ty.enc_inj a h1) (Ty.enc_inj b h2)
 | .row t,x,y,h=>by
   simp only[Ty.enc,zG,Lf.vrow.injEq,and_true,true_and] at h;have key:∀(l l':List t.den),l.map t.enc=l'.map t.enc->l=l':=by
    intro l
    induction l with
    |nil=>intro l' h;cases l' with
     |nil=>rfl
     |cons _ _=>cases h
    |cons z l ih=>intro l' h;cases l' with
     |nil=>cases h
     | cons z' l'=>
       simp only[zK,zG] at h;rw[Ty.enc_inj t h.1,ih l' h.2]
   exact key x y h
theorem dL {t:Ty}{l l':List t.den}(h:l.map t.enc=l'.map t.enc):l=l':=by
 refine Ty.enc_inj (.row t) ?_;show [Lf.vrow t.size _]=[Lf.vrow t.size _];rw[h]
end
end Go.EA
end
section
namespace Go.EA
structure SB (S:SC):Prop where
 ok:S.Ok
 dr:S.dr=lh (fun _=>true)
 mix:S.C.P.follows .mixedOrders=true
structure MS where
 i:Nat
 g:GP
 con:Con
def qP:List MS->Nat->Option MS
 |[],_=>none
 |m::l,i=>match Nat.beq m.i i with | true=>some m | false=>qP l i
def fA (g:GP) (con:Con):Prop:=UnG g/\∀xs v cs,con.g xs=some (v,cs)->aK cs->∃cs',g (xs.map aF)=some (aF v,cs')/\aK cs'
def lc (S:SC):List MS->Prop
 |[]=>True
 |m::l=>(aP S m.i (aC m.g)/\fA m.g m.con)/\lc S l
theorem lc.look {S:SC}:∀{l:List MS},lc S l->∀i m,qP l i=some m->aP S i (aC m.g)/\fA m.g m.con
 |[],_,i,m,h=>by cases h
 | p::l,⟨h1,h2⟩,i,m,h=>by
   simp only[qP] at h;split at h
   .rename_i e;cases h;rw[<- zC e];exact h1
   .exact lc.look h2 i m h
noncomputable def Xm (ms:List MS):Cx:=⟨fun _=>none,fun i=>(qP ms i).map fun m=>iX m.g⟩
theorem yH {S:SC}(hB:SB S) {ms:List MS}(h:lc S ms):S.Good (Xm ms):=by
 refine⟨hB.ok,fun i af hi=>by simp[Xm] at hi,fun i p hp=>?_,fun nt ops ais ls t hd hc=>?_⟩
 .obtain⟨m,hm,rfl⟩:=zD.1 hp;exact BA (h.look i m hm).1
 .rw[hB.mix];have key:∀f xs H v H',eD (Xm ms) (fun _ _ _=>none) f xs H=some (v,H')->H'=H:=fun f xs H v H' h=>xI (fun _=>rfl) (fun i p xs H v H' hp hc=>by
   obtain⟨m,hm,rfl⟩:=zD.1 hp;exact(lK hc).1) h
  obtain⟨l,hl,h⟩:=vJ (pp:=fun _=>true) (fun f xs H v H' _ h=>key _ xs H v H' h) (fun f xs H v H' _ hc hd o=>xn (fun i p xs H v H' hp hc hd o=>by
   obtain⟨m,hm,rfl⟩:=zD.1 hp;exact xJ (h.look i m hm).2.1 hd o hc) (fun _=>rfl) hc hd o) (fun f xs H v H' h hh=>by rw[key f xs H v H' h];exact hh) (by rw[hB.dr] at hd;exact hd) t
  obtain⟨σ,τ,h1,⟨τ',h2,h3⟩,h⟩:=h;exact⟨l,hl,σ,τ,h1,⟨τ',h2,fun T H r he=>h3 he⟩,fun T H r hHd he=>h hHd he⟩
def mkM (cd:List (Nat×AF)) (ms:List MS) (an:ANF) (top:ST->List SO->VC):Env:=⟨look cd,fun i=>(qP ms i).map MS.con,an,top,fun _=>none⟩
section
variable {S:SC}
theorem mfM (hB:SB S) (cd:List (Nat×AF)) (ms:List MS) (hcd:jk S cd) (hms:lc S ms) {i:Nat}{af:AF}(hf:S.has i af) {xs:List SV}{v:SV}(hnp:Nat.beq xs.length af.np=true) (hx:xs.all clV=true) (hv:clV v=true)
 (an:ANF) (n:Nat) (h:(wp (mkM cd ms an (wh af.res v)) n (start i af xs)).den):MF S i [] (xs.map aF) (hl []) fun v' _=>v'=aF v:=
 ED (yH hB hms) (E:=mkM cd ms an (wh af.res v)) (fun i af h=>hcd.look i af h) (fun i con h=>by
  obtain⟨m,hm,rfl⟩:=zD.1 h;exact tF (X:=Xm ms) (by simp[Xm,hm]) (hms.look i m hm).2.1 (hms.look i m hm).2.2) (fun _ _ h=>by cases h) rfl hf hnp hx hv n h
theorem prM (hB:SB S) (cd:List (Nat×AF)) (ms:List MS) (hcd:jk S cd) (hms:lc S ms) {i:Nat}{af:AF}(hf:S.has i af) {α:Type}{pat:α->List SV}{res:α->SV×List Prop}
 (hcl:∀a,Nat.beq (pat a).length af.np=true/\(pat a).all clV=true/\clV (res a).1=true) (an:α->ANF) (n:Nat)
 (h:∀a,aK (res a).2->(wp (mkM cd ms (an a) (wh af.res (res a).1)) n (start i af (pat a))).den):aP S i (aC (dU pat res)):=by
 refine vU i fun a ha=>⟨?_,gp (hcl a).2.2,mfM hB cd ms hcd hms hf (hcl a).1 (hcl a).2.1 (hcl a).2.2 (an a) n (h a ha)⟩
 rw[List.all_map,List.all_eq_true];exact fun x hx=>gp (List.all_eq_true.1 (hcl a).2.1 x hx)
end
theorem bF {α:Type}{pat:α->List SV}{res:α->SV×List Prop}{con:Con}(inj:∀a b,(pat a).map aF=(pat b).map aF->a=b) (sh:∀a b,wz (pat a) (pat b)=true) (cl:∀a,(pat a).all clV=true) (h:∀xs r,con.g xs=some r->∃a,xs=pat a/\r=res a):fA (dU pat res) con:=by
 refine⟨JN inj sh cl,?_⟩;intro xs v cs hg hc;obtain⟨a,rfl,e⟩:=h xs _ hg;have:=Gu (res:=res) inj a;rw[<- e] at this;exact⟨cs,this,hc⟩
end Go.EA
end
section
namespace Go.EA
def Heap.keepO (H:Heap) (K:Nat->Bool):Heap:=⟨H.n,fun i=>match K i with | true=>H.o i | false=>.dead⟩
def Heap.joinO (H1 H:Heap) (K K1:Nat->Bool):Heap:=⟨H1.n,fun i=>match Nat.blt i H.n&&!K i with | true=>H.o i | false=>match K1 i with | true=>H1.o i | false=>.dead⟩
section
variable {S:SC} {H:Heap} {K:Nat->Bool}
theorem jG {i:Nat}(h:own ((H.keepO K).o i)=true):K i=true/\own (H.o i)=true:=by
 simp only[Heap.keepO] at h;split at h
 .rename_i hk;exact⟨hk,h⟩
 .cases h
theorem xH {i:Nat}(h:live ((H.keepO K).o i)=true):K i=true/\live (H.o i)=true:=by
 simp only[Heap.keepO] at h;split at h
 .rename_i hk;exact⟨hk,h⟩
 .cases h
theorem gX {ρ:Rho}{k:Nat}(h:dB H ρ k):dB (H.keepO K) ρ k:=fun i hi ho=>h i hi (jG ho).2
theorem aJ.keepO {ρ:Rho}{w:World}(h:aJ S H ρ w):aJ S (H.keepO K) ρ w:=by
 refine⟨fun i hi=>?_,fun i j hi hj hne ho hl=>h.ap i j hi hj hne (jG ho).2 (xH hl).2,fun k ob hk=>⟨(h.fx k ob hk).1,gX (h.fx k ob hk).2⟩,fun k ob hk=>⟨(h.fz k ob hk).1,(h.fz k ob hk).2.1,gX (h.fz k ob hk).2.2⟩,h.dr⟩;show kE S ρ H.n (ρ i) (match K i with | true=>H.o i | false=>.dead) _;split
 .exact h.obj i hi
 .trivial
theorem kH {x:AO}(h:own x=true):live x=true:=by cases x <;> simp[own,live] at h ⊢
theorem MF.frame {f:Nat}{cap:List (Nat×Nat×Nat)}{xs:List AV}{Q Q':AV->Heap->Prop}(h:MF S f cap xs (H.keepO K) Q)
 (hq:∀v H1,Q v H1->H.n<=H1.n->(∀i,i<H.n->K i=false->live (H.o i)=true->own (H1.o i)=false)->∃K1:Nat->Bool,(∀i,K1 i=true->own (H1.o i)=true)/\Q' v (H1.joinO H K K1)):MF S f cap xs H Q':=by
 intro ρ w vs hc hvs hH;obtain⟨k1,k2⟩:=h ρ w vs hc hvs hH.keepO;refine⟨k1,k2.mono fun e w' hr=>?_⟩;obtain⟨v,H1,hQ,u,ρ',rfl,g1,g2,g3⟩:=hr;have hn:H.n<=H1.n:=g2.nn;have hrho:∀i,i<H.n->ρ' i=ρ i:=g2.rho;obtain⟨K1,o1,hQ'⟩:=hq v H1 hQ g2.nn fun i hi hk hl=>by
  have oth:dB (H.keepO K) ρ (ρ i).g:=by
   intro j hj ho;obtain⟨a,b⟩:=jG ho;exact hH.ap j i hj hi (fun e=>by subst e;rw[hk] at a;cases a) b hl
  cases ho:own (H1.o i) with
  |false=>rfl
  |true=>exact absurd (by rw[hrho i hi]) ((g2.keep _ (hH.lt' hi hl) oth).2 i (Nat.lt_of_lt_of_le hi hn) ho)
 have hE:Ext ρ H.n ρ' H1.n:=⟨hn,hrho,g2.fz⟩;have cs:∀i,(i<H.n/\K i=false/\(H1.joinO H K K1).o i=H.o i)\/(K1 i=true/\(H1.joinO H K K1).o i=H1.o i/\own (H1.o i)=true)\/(H1.joinO H K K1).o i=.dead:=by
  intro i;simp only[Heap.joinO];split
  .rename_i hb;simp only[zH,Bool.not_eq_true'] at hb;exact .inl ⟨zW hb.1,hb.2,rfl⟩
  .split
   .rename_i hk;exact .inr (.inl ⟨hk,rfl,o1 i hk⟩)
   .exact .inr (.inr rfl)
 have oth:∀i,i<H.n->K i=false->live (H.o i)=true->dB (H.keepO K) ρ (ρ i).g:=by
  intro i hi hk hl j hj ho;obtain⟨a,b⟩:=jG ho;exact hH.ap j i hj hi (fun e=>by subst e;rw[hk] at a;cases a) b hl
 have img:∀k,dB H ρ k->dB H1 ρ' k->dB (H1.joinO H K K1) ρ' k:=by
  intro k h1 h2 i hi ho;rcases cs i with ⟨a,b,e⟩ | ⟨a,e,b⟩ | e
  .rw[e] at ho;rw[hrho i a];exact h1 i a ho
  .exact h2 i hi b
  .rw[e] at ho;cases ho
 refine⟨v,_,hQ',u,ρ',rfl,⟨fun i hi=>?_,fun i j hi hj hne ho hl=>?_,fun k ob hk=>⟨(g1.fx k ob hk).1,img k (hH.fx k ob hk).2 (g1.fx k ob hk).2⟩,fun k ob hk=>⟨(g1.fz k ob hk).1,(g1.fz k ob hk).2.1,?_⟩,g1.dr⟩,
  ⟨g2.sz,g2.os,g2.tape,g2.output,hn,hrho,fun k hk hi=>⟨(g2.keep k hk (gX hi)).1,img k hi (g2.keep k hk (gX hi)).2⟩,g2.fz,fun k hk hi=>g2.fn k hk (gX hi)⟩,g3⟩
 .rcases cs i with ⟨a,b,e⟩ | ⟨a,e,b⟩ | e
  .rw[e,hrho i a];cases hd:live (H.o i) with
   | false=>
     have:H.o i=.dead:=by revert hd; cases H.o i <;> simp[live]
     rw[this];trivial
   | true=>
     rw[(g2.keep _ (hH.lt' a hd) (oth i a b hd)).1];exact(hH.obj i a).mono hE
  .rw[e];exact g1.obj i hi
  .rw[e];trivial
 .rcases cs i with ⟨a,b,e⟩ | ⟨a,e,b⟩ | e <;> rcases cs j with ⟨a',b',e'⟩ | ⟨a',e',b'⟩ | e'
  .rw[e] at ho;rw[e'] at hl;rw[hrho i a,hrho j a'];exact hH.ap i j a a' hne ho hl
  .rw[e] at ho;rw[hrho i a];have hl':=kH ho;exact fun hh=>(g2.keep _ (hH.lt' a hl') (oth i a b hl')).2 j hj b' hh.symm
  .rw[e'] at hl;cases hl
  .rw[e'] at hl;rw[hrho j a'];exact(g2.keep _ (hH.lt' a' hl) (oth j a' b' hl)).2 i hi b
  .rw[e'] at hl;exact g1.ap i j hi hj hne b (kH b')
  .rw[e'] at hl;cases hl
  .rw[e] at ho;cases ho
  .rw[e] at ho;cases ho
  .rw[e] at ho;cases ho
 .refine fun i hi ho=>?_
  rcases cs i with ⟨a,b,e⟩ | ⟨a,e,b⟩ | e
  .rw[e] at ho;rw[hrho i a];intro hg;have hlt:=hH.lt a ho;have hk':=g2.fn _ hlt (oth i a b (kH ho));rw[hg] at hk';rw[hk] at hk';exact(hH.fz _ _ hk'.symm).2.2 i a ho hg
  .exact(g1.fz k ob hk).2.2 i hi b
  .rw[e] at ho;cases ho
end
def LH (b:Nat) (x y:SV):Prop:=(x=y/\clV x=true)\/(x=.one (.osl b)/\y=.one (.osl 0))\/∃i n,x=.one (.sl b i n)/\y=.one (.sl 0 i n)
section
variable {S:SC} {X:Cx} {c:Cn} {L:List SO} {H:Heap}
def c0 (c:Cn) (b:Nat):Cn:=⟨fun _=>c.π b,fun _=>c.nz b,c.Z,fun _ _=>none⟩
structure Gq:Type 1 where
 α:Type
 t:Ty
 P:α->Nat->List SV
 l:α->List t.den
 pre:α->List Prop
 β:α->Type
 post:(a:α)->β a->List Prop
 v:(a:α)->β a->SV
 l':(a:α)->β a->List t.den
def Gq.res (M:Gq) (a:M.α) (b:Nat) (L:List SO):KP:=⟨M.pre a,M.β a,M.post a,M.v a,fun x=>L.set b (.row M.t (M.l' a x)),[]⟩
structure Gq.Ok (M:Gq) (np:Nat):Prop where
 ren:∀a b,ae (LH b) (M.P a b) (M.P a 0)
 np:∀a,Nat.beq (M.P a 0).length np=true
 cl:∀a x,clV (M.v a x)=true
end
end Go.EA
end
section
namespace Go.EA
def yA:List (Nat×mP)->Nat->Option mP
 |[],_=>none
 |p::l,i=>match Nat.beq p.1 i with | true=>some p.2 | false=>yA l i
def lW (S:SC):List (Nat×mP)->Prop
 |[]=>True
 |p::l=>jN S p.1 p.2/\lW S l
theorem lW.look {S:SC}:∀{l:List (Nat×mP)},lW S l->∀i mc,yA l i=some mc->jN S i mc
 |[],_,i,mc,h=>by cases h
 | p::l,⟨h1,h2⟩,i,mc,h=>by
   simp only[yA] at h;split at h
   .rename_i e;cases h;rw[<- zC e];exact h1
   .exact lW.look h2 i mc h
def Jh (cd:List (Nat×AF)) (ms:List MS) (mm:List (Nat×mP)) (an:ANF) (top:ST->List SO->VC):Env:=⟨look cd,fun i=>(qP ms i).map MS.con,an,top,yA mm⟩
section
variable {S:SC}
theorem Mh (hB:SB S) (cd:List (Nat×AF)) (ms:List MS) (mm:List (Nat×mP)) (hcd:jk S cd) (hms:lc S ms) (hmm:lW S mm) {i:Nat}{af:AF}(hf:S.has i af) {xs:List SV}{v:SV}(hnp:Nat.beq xs.length af.np=true) (hx:xs.all clV=true) (hv:clV v=true)
 (an:ANF) (n:Nat) (h:(wp (Jh cd ms mm an (wh af.res v)) n (start i af xs)).den):MF S i [] (xs.map aF) (hl []) fun v' _=>v'=aF v:=
 ED (yH hB hms) (E:=Jh cd ms mm an (wh af.res v)) (fun i af h=>hcd.look i af h) (fun i con h=>by
  obtain⟨m,hm,rfl⟩:=zD.1 h;exact tF (X:=Xm ms) (by simp[Xm,hm]) (hms.look i m hm).2.1 (hms.look i m hm).2.2) (fun i mc h=>hmm.look i mc h) rfl hf hnp hx hv n h
theorem LG (hB:SB S) (cd:List (Nat×AF)) (ms:List MS) (mm:List (Nat×mP)) (hcd:jk S cd) (hms:lc S ms) (hmm:lW S mm) {i:Nat}{af:AF}(hf:S.has i af) {α:Type}{pat:α->List SV}{res:α->SV×List Prop}
 (hcl:∀a,Nat.beq (pat a).length af.np=true/\(pat a).all clV=true/\clV (res a).1=true) (an:α->ANF) (n:Nat)
 (h:∀a,aK (res a).2->(wp (Jh cd ms mm (an a) (wh af.res (res a).1)) n (start i af (pat a))).den):aP S i (aC (dU pat res)):=by
 refine vU i fun a ha=>⟨?_,gp (hcl a).2.2,Mh hB cd ms mm hcd hms hmm hf (hcl a).1 (hcl a).2.1 (hcl a).2.2 (an a) n (h a ha)⟩
 rw[List.all_map,List.all_eq_true];exact fun x hx=>gp (List.all_eq_true.1 (hcl a).2.1 x hx)
end
end Go.EA
end
