/- Texts. Conditions: none. -/
import Derived.Test.YtgkhohpekfjlmaaDoorEK8
import Derived.Test.YtgkhohpekfjlmaaDoorEK6
set_option linter.unusedVariables false
set_option linter.unusedSimpArgs false
section
namespace Go.EA
section
variable {S:SC} {X:Cx} {c:Cn} {L:List SO} {H:Heap} {T:ST} {Tm:Tm} {m:Nat}
theorem MF.conv {f:Nat}{cap:List (Nat×Nat×Nat)}{xs:List AV}{Q:AV->Heap->Prop}(h:MF S f cap xs H fun v0 H0=>∃T0 T1 H1,T0 0=v0/\Abs S H.n T0 H0 T1 H1/\Q (T1 0) H1/\∀k,k≠0->T0 k=junk):MF S f cap xs H Q:=by
 intro ρ w vs h1 h2 h3;obtain⟨k1,k2⟩:=h ρ w vs h1 h2 h3;refine⟨k1,k2.mono fun e w' hr=>?_⟩;obtain⟨v0,H0,⟨T0,T1,H1,e0,ha,hq,hj⟩,u,ρ',rfl,g1,g2,g3⟩:=hr;obtain⟨ρ1,a1,a2,a3⟩:=ha g2.nn ρ' w' #[u] (fun k v hk=>by
  cases k with
  |zero=>simp at hk;subst hk;rw[e0];exact g3
  |succ k=>simp at hk) g1
 exact⟨T1 0,H1,hq,u,ρ1,rfl,a2,g2.transB a3 (zJ _),a1 0 u (by simp)⟩
def jw (S:SC):List (Nat×AF)->Prop
 |[]=>True
 |p::l=>S.has p.1 p.2/\jw S l
def look {α:Type}:List (Nat×α)->Nat->Option α
 |[],_=>none
 |p::l,i=>match Nat.beq p.1 i with | true=>some p.2 | false=>look l i
theorem jw.look:∀{l:List (Nat×AF)},jw S l->∀i af,EA.look l i=some af->S.has i af
 |[],_,i,af,h=>by cases h
 | p::l,⟨h1,h2⟩,i,af,h=>by
   simp only[EA.look] at h;split at h
   .rename_i e;cases h;rw[<- zC e];exact h1
   .exact jw.look h2 i af h
abbrev ANF:=Nat->Nat->ST->List SO->Option LA
def start (i:Nat) (af:AF) (xs:List SV):SS:=⟨.normal,i,af.res,[.code af.body],nW af xs [],[],[]⟩
theorem qQ:∀{xs:List SV},xs.all clV=true->ah (RVS c L) xs (xs.map aB)
 |[],_=>ah.nil
 | x::xs,h=>by
   simp only[List.all_cons,zH] at h;exact ah.cons ((iw h.1).2 rfl) (qQ h.2)
theorem PH (hS:S.Good X) {E:Env}{i:Nat}{af:AF}{xs:List SV}{v:SV}(hcd:∀i af,E.CD i=some af->S.has i af) (hkt:∀i con,E.KT i=some con->Gj X i con) (hmt:∀i mc,E.MT i=some mc->fB S i mc) (htop:E.top=Cq af.res v) (hf:S.has i af) (hnp:Nat.beq xs.length af.np=true) (hx:xs.all clV=true) (hv:clV v=true)
 (n:Nat) (h:(wp E n (start i af xs)).den):MF S i [] (xs.map aB) (hl []) fun v' _=>v'=aB v:=by
 refine MF.conv (MF.of hf (by rw[<- zC hnp];simp) ?_)
 have hE:rA S X E fun ex T' H'=>(ex=.ret\/ex=.normal)/\∃v',jd T' H' af.res=some v'/\∃T0 T1 H1,T0 0=v'/\Abs S (hl []).n T0 H' T1 H1/\T1 0=aB v/\∀k,k≠0->T0 k=junk:=by
  refine⟨hS,hcd,hkt,fun c T L Tm H e he ht hT hH=>⟨he,?_⟩,hmt⟩;rw[htop] at ht;unfold Cq at ht;split at ht
  .rename_i v0 hv0;obtain⟨a0,e1,e2⟩:=yB hT hH hv0;have hT0:RT c L [v0] (fun k=>match k with | 0=>a0 | _=>junk):=fun k=>by
    cases k with
    |zero=>exact e2
    |succ k=>trivial
   obtain⟨c3,T1m,H1,g1,g2,g3,_⟩:=nJ (S:=S) hT0 hH ht;exact⟨a0,e1,_,T1m,H1,rfl,g1 _,(iw hv).1 (g2 0),fun k hk=>by cases k with
    |zero=>exact absurd rfl hk
    |succ k=>rfl⟩
  .exact ht.elim
 have hsy:=bO hE n _ h;have hT:RT ⟨id,fun _=>true,fun _=>ld0,fun _ _=>none⟩ [] (nW af xs []) (gy (xs.map aB++([]:List (Nat×Nat×Nat)).map fun q=>AV.one (.ptr q.1 q.2.1 q.2.2))):=by
  unfold nW;rw[List.map_nil,List.map_nil,List.nil_append,List.append_nil];exact RT.args _ (qQ hx)
 exact hsy ⟨id,fun _=>true,fun _=>ld0,fun _ _=>none⟩ _ (hl []) [.code af.body] [] (hl []).n hT ⟨fun b hb=>absurd hb (zS _),fun b b' hb=>absurd hb (zS _),fun b hb=>absurd hb (zS _),UU [],⟨fun b i k r hb=>absurd hb (zS _),fun b i k r hb=>absurd hb (zS _),fun b i k r b' i' r' hb=>absurd hb (zS _)⟩⟩ ⟨rfl,trivial⟩ trivial
theorem ig {x:SL}(h:clL x=true):(aS x).closed=true:=by
 cases x <;> simp only[clL,Bool.false_eq_true] at h <;> rfl
theorem jg {x:List SL}(h:x.all clL=true):(x.map aS).all Lf.closed=true:=by
 rw[List.all_map,List.all_eq_true];exact fun y hy=>ig (List.all_eq_true.1 h y hy)
theorem dR {x:SV}(h:clV x=true):(aB x).closed=true:=by
 cases x with
 |one x=>exact ig h
 |agg x=>exact jg h
 | tup x=>
   simp only[aB,AV.closed,Bool.or_eq_true];refine .inl ?_;rw[List.all_map,List.all_eq_true];intro y hy;have:=List.all_eq_true.1 h y hy;cases y with
   |o y=>exact ig this
   |a y=>exact jg this
 |junk=>cases h
 |ite _ _ _ _=>cases h
noncomputable def bZ {α:Type}(pat:α->List SV) (res:α->SV×List Prop):GP:=Dj (fun a=>(pat a).map aB) (fun a=>(aB (res a).1,(res a).2))
theorem pR {i:Nat}{g:GP}{con:Con}(hp:X.pr i=some (ll g)) (hun:UnG g) (h:∀xs v cs,con.g xs=some (v,cs)->aO cs->∃cs',g (xs.map aB)=some (aB v,cs')/\aO cs'):Gj X i con:=⟨g,hp,hun,h⟩
theorem QE {α:Type}{pat:α->List SV}{res:α->SV×List Prop}(inj:∀a b,(pat a).map aB=(pat b).map aB->a=b) (a:α):bZ pat res ((pat a).map aB)=some (aB (res a).1,(res a).2):=
 GI (pat:=fun a=>(pat a).map aB) inj a
def shL:SL->SL->Bool
 |.int k _,.int k' _=>decide (k=k')
 |.bool _,.bool _=>true
 |.str _,.str _=>true
 |.row t _,.row t' _=>match Ty.eq? t t' with | some _=>true | none=>false
 |.vptr t _ o,.vptr t' _ o'=>match Ty.eq? t t' with | some _=>Nat.beq o o' | none=>false
 |.fn f [],.fn g []=>Nat.beq f g
 |.nilp,.nilp | .nils,.nils | .slz,.slz | .nilf,.nilf | .nilm,.nilm | .nili,.nili=>true
 |_,_=>false
def Qq:List SL->List SL->Bool
 |[],[]=>true
 |x::r,y::q=>shL x y&&Qq r q
 |_,_=>false
def shV:SV->SV->Bool
 |.one x,.one y=>shL x y
 |.agg x,.agg y=>Qq x y
 |_,_=>false
def EU:List SV->List SV->Bool
 |[],[]=>true
 |x::r,y::q=>shV x y&&EU r q
 |_,_=>false
theorem tC:∀{a b a' b':List Lf},ShC a a'->ShC b b'->ShC (a++b) (a'++b')
 |[],b,a',b',h,h'=>by simp only[ShC] at h;subst h;exact h'
 |x::r,b,[],b',h,_=>by simp only[ShC] at h
 | x::r,b,y::q,b',h,h'=>by
   simp only[ShC] at h;simp only[List.cons_append,ShC];exact⟨h.1,tC h.2 h'⟩
theorem Mg:∀{els:List (List Lf)}{e':List Lf},(∀e∈els,ShC e e')->ShR els e'
 |[],e',_=>by simp only[ShR]
 |e::r,e',h=>by simp only[ShR];exact⟨h e (by simp),Mg fun x hx=>h x (by simp[hx])⟩
theorem pU:∀(t:Ty) (x y:t.den),ShC (t.enc x) (t.enc y)
 |.int k,x,y=>by simp[Ty.enc,ShC,ShF]
 |.bool,x,y=>by simp[Ty.enc,ShC,ShF]
 |.str,x,y=>by simp[Ty.enc,ShC,ShF]
 |.pair a b,x,y=>tC (pU a x.1 y.1) (pU b x.2 y.2)
 | .row t,x,y=>by
   simp only[Ty.enc,ShC,ShF,and_true];refine⟨_,rfl,fun e' he'=>Mg fun e he=>?_⟩;obtain⟨u,_,rfl⟩:=List.mem_map.1 he;obtain⟨u',_,rfl⟩:=List.mem_map.1 he';exact pU t u u'
theorem BL:∀{a a':List Lf}(o:Nat),ShC a a'->ShC (a.drop o) (a'.drop o)
 |a,a',0,h=>h
 |[],a',o+1,h=>by simp only[ShC] at h;subst h;simp[ShC]
 |x::r,[],o+1,h=>by simp only[ShC] at h
 |x::r,y::q,o+1,h=>by simp only[ShC] at h;exact BL o h.2
theorem Lu {x y:SL}(h:shL x y=true):ShF (aS x) (aS y):=by
 unfold shL at h;split at h
 .have:=of_decide_eq_true h;subst this;simp[aS,ShF]
 .simp[aS,ShF]
 .simp[aS,ShF]
 .rename_i t l t' l';split at h
  .rename_i he _;obtain⟨he⟩:=he;subst he;have:=pU (.row t) l l';simp only[Ty.enc,ShC,and_true] at this;exact this
  .cases h
 .split at h
  .rename_i t x o t' y o' _ he _;obtain⟨he⟩:=he;subst he;have:=zC h;subst this;simp only[aS,ShF];exact⟨_,rfl,BL o (pU t x y)⟩
  .cases h
 .have:=zC h;subst this;simp[aS,ShF]
 all_goals first | (simp[aS,ShF];done) | cases h
theorem Gq:∀{x y:List SL},Qq x y=true->ShC (x.map aS) (y.map aS)
 |[],[],_=>by simp[ShC]
 | x::r,y::q,h=>by
   simp only[Qq,zH] at h;simp only[zK,ShC];exact⟨Lu h.1,Gq h.2⟩
 |[],_::_,h=>by cases h
 |_::_,[],h=>by cases h
theorem WY {x y:SV}(h:shV x y=true):ShV (aB x) (aB y):=by
 unfold shV at h;split at h
 .exact⟨_,rfl,Lu h⟩
 .exact⟨_,rfl,Gq h⟩
 .cases h
theorem Bb {H:Heap}:∀{xs ys:List SV}{zs:List AV},EU xs ys=true->ah (ImV H) (xs.map aB) zs->ah (ImV H) (ys.map aB) zs->xs.map aB=ys.map aB
 |[],[],_,_,_,_=>rfl
 | x::r,y::q,zs,h,h1,h2=>by
   simp only[EU,zH] at h;obtain⟨z,zs,rfl,a1,a2⟩:=h1.cons_inv;obtain⟨z',zs',e,b1,b2⟩:=h2.cons_inv;cases e;rw[zK,zK,Yg (WY h.1) a1 b1,Bb h.2 a2 b2]
 |[],_::_,_,h,_,_=>by cases h
 |_::_,[],_,h,_,_=>by cases h
theorem Pb {H:Heap}{x:SV}(h:clV x=true) (hn:∀v,x≠.tup v):ImV H (aB x) (aB x):=by
 cases x with
 |one x=>exact⟨_,rfl,sG (ig h)⟩
 |agg x=>exact⟨_,rfl,rfl,by have:=mR (H:=H) (zs:=[]) (jg h);rwa [List.append_nil] at this⟩
 |tup v=>exact absurd rfl (hn v)
 |junk=>cases h
 |ite _ _ _ _=>cases h
theorem xz {H:Heap}:∀{xs ys:List SV},xs.all clV=true->EU xs ys=true->ah (ImV H) (xs.map aB) (xs.map aB)
 |[],_,_,_=>ah.nil
 |x::r,[],_,h=>by cases h
 | x::r,y::q,hc,h=>by
   simp only[EU,zH] at h;simp only[List.all_cons,zH] at hc;exact ah.cons (Pb hc.1 fun v e=>by subst e; cases y <;> cases h.1) (xz hc.2 h.2)
theorem BR {α:Type}{pat:α->List AV}{res:α->AV×List Prop}{xs:List AV}{r:AV×List Prop}(h:Dj pat res xs=some r):∃a,xs=pat a/\r=res a:=by
 unfold Dj at h;split at h
 .rename_i hx;simp only[zE] at h;exact⟨_,hx.choose_spec.symm,h.symm⟩
 .cases h
theorem VS {α:Type}{pat:α->List SV}{res:α->SV×List Prop}(inj:∀a b,(pat a).map aB=(pat b).map aB->a=b) (sh:∀a b,EU (pat a) (pat b)=true) (cl:∀a,(pat a).all clV=true):UnG (bZ pat res):=by
 have key:∀{H xs v},lS (bZ pat res) H xs v->∃a,ah (ImV H) ((pat a).map aB) xs/\v=aB (res a).1:=by
  intro H xs v h;rcases h with ⟨c,hg,_⟩ | ⟨_,ys,c,hi,hg,_⟩
  .obtain⟨a,rfl,e⟩:=BR hg;exact⟨a,xz (cl a) (sh a a),congrArg Prod.fst e⟩
  .obtain⟨a,rfl,e⟩:=BR hg;exact⟨a,hi,congrArg Prod.fst e⟩
 intro H xs v v' h h';obtain⟨a,h1,rfl⟩:=key h;obtain⟨b,h2,rfl⟩:=key h';have:=inj a b (Bb (sh a b) h1 h2);rw[this]
theorem VC.use {v:VC}{p:Prop}(h:v.den=p) (hp:p):v.den:=by rw[h];exact hp
theorem Tc {α:Type}{a b c d:List α}(h:a++b=c++d) (hl:a.length=c.length):a=c/\b=d:=List.append_inj h hl
theorem Ty.enc_inj:∀(t:Ty) {x y:t.den},t.enc x=t.enc y->x=y
 |.int k,x,y,h=>by simp only[Ty.enc,zG,Lf.int.injEq,and_true,true_and] at h;exact h
 |.bool,x,y,h=>by simp only[Ty.enc,zG,Lf.bool.injEq,and_true] at h;exact h
 |.str,x,y,h=>by simp only[Ty.enc,zG,Lf.str.injEq,and_true] at h;exact h
 | .pair a b,x,y,h=>by
   obtain⟨h1,h2⟩:=Tc h (by rw[Ty.enc_len,Ty.enc_len]);exact Prod.ext (Ty.enc_inj a h1) (Ty.enc_inj b h2)
 | .row t,x,y,h=>by
   simp only[Ty.enc,zG,Lf.vrow.injEq,and_true,true_and] at h;have key:∀(l l':List t.den),l.map t.enc=l'.map t.enc->l=l':=by
    intro l
    induction l with
    |nil=>intro l' h;cases l' with
     |nil=>rfl
     |cons _ _=>cases h
    |cons z l ih=>intro l' h;cases l' with
     |nil=>cases h
     | cons z' l'=>
       simp only[zK,zG] at h;rw[Ty.enc_inj t h.1,ih l' h.2]
   exact key x y h
theorem bT {t:Ty}{l l':List t.den}(h:l.map t.enc=l'.map t.enc):l=l':=by
 refine Ty.enc_inj (.row t) ?_;show [Lf.vrow t.size _]=[Lf.vrow t.size _];rw[h]
end
end Go.EA
end
section
namespace Go.EA
structure SB (S:SC):Prop where
 ok:S.Ok
 dr:S.dr=oN (fun _=>true)
 mix:S.C.P.follows .mixedOrders=true
structure MS where
 i:Nat
 g:GP
 con:Con
def wU:List MS->Nat->Option MS
 |[],_=>none
 |m::l,i=>match Nat.beq m.i i with | true=>some m | false=>wU l i
def df (g:GP) (con:Con):Prop:=UnG g/\∀xs v cs,con.g xs=some (v,cs)->aO cs->∃cs',g (xs.map aB)=some (aB v,cs')/\aO cs'
def mD (S:SC):List MS->Prop
 |[]=>True
 |m::l=>(aG S m.i (az m.g)/\df m.g m.con)/\mD S l
theorem mD.look {S:SC}:∀{l:List MS},mD S l->∀i m,wU l i=some m->aG S i (az m.g)/\df m.g m.con
 |[],_,i,m,h=>by cases h
 | p::l,⟨h1,h2⟩,i,m,h=>by
   simp only[wU] at h;split at h
   .rename_i e;cases h;rw[<- zC e];exact h1
   .exact mD.look h2 i m h
noncomputable def Xm (ms:List MS):Cx:=⟨fun _=>none,fun i=>(wU ms i).map fun m=>ll m.g⟩
theorem sj {S:SC}(hB:SB S) {ms:List MS}(h:mD S ms):S.Good (Xm ms):=by
 refine⟨hB.ok,fun i af hi=>by simp[Xm] at hi,fun i p hp=>?_,fun nt ops ais ls t hd hc=>?_⟩
 .obtain⟨m,hm,rfl⟩:=zD.1 hp;exact IV (h.look i m hm).1
 .rw[hB.mix];have key:∀f xs H v H',fQ (Xm ms) (fun _ _ _=>none) f xs H=some (v,H')->H'=H:=fun f xs H v H' h=>EX (fun _=>rfl) (fun i p xs H v H' hp hc=>by
   obtain⟨m,hm,rfl⟩:=zD.1 hp;exact(qF hc).1) h
  obtain⟨l,hl,h⟩:=AR (pp:=fun _=>true) (fun f xs H v H' _ h=>key _ xs H v H' h) (fun f xs H v H' _ hc hd o=>Eo (fun i p xs H v H' hp hc hd o=>by
   obtain⟨m,hm,rfl⟩:=zD.1 hp;exact DX (h.look i m hm).2.1 hd o hc) (fun _=>rfl) hc hd o) (fun f xs H v H' h hh=>by rw[key f xs H v H' h];exact hh) (by rw[hB.dr] at hd;exact hd) t
  obtain⟨σ,τ,h1,⟨τ',h2,h3⟩,h⟩:=h;exact⟨l,hl,σ,τ,h1,⟨τ',h2,fun T H r he=>h3 he⟩,fun T H r hHd he=>h hHd he⟩
def mkM (cd:List (Nat×AF)) (ms:List MS) (an:ANF) (top:ST->List SO->VC):Env:=⟨look cd,fun i=>(wU ms i).map MS.con,an,top,fun _=>none⟩
section
variable {S:SC}
theorem mfM (hB:SB S) (cd:List (Nat×AF)) (ms:List MS) (hcd:jw S cd) (hms:mD S ms) {i:Nat}{af:AF}(hf:S.has i af) {xs:List SV}{v:SV}(hnp:Nat.beq xs.length af.np=true) (hx:xs.all clV=true) (hv:clV v=true)
 (an:ANF) (n:Nat) (h:(wp (mkM cd ms an (Cq af.res v)) n (start i af xs)).den):MF S i [] (xs.map aB) (hl []) fun v' _=>v'=aB v:=
 PH (sj hB hms) (E:=mkM cd ms an (Cq af.res v)) (fun i af h=>hcd.look i af h) (fun i con h=>by
  obtain⟨m,hm,rfl⟩:=zD.1 h;exact pR (X:=Xm ms) (by simp[Xm,hm]) (hms.look i m hm).2.1 (hms.look i m hm).2.2) (fun _ _ h=>by cases h) rfl hf hnp hx hv n h
theorem prM (hB:SB S) (cd:List (Nat×AF)) (ms:List MS) (hcd:jw S cd) (hms:mD S ms) {i:Nat}{af:AF}(hf:S.has i af) {α:Type}{pat:α->List SV}{res:α->SV×List Prop}
 (hcl:∀a,Nat.beq (pat a).length af.np=true/\(pat a).all clV=true/\clV (res a).1=true) (an:α->ANF) (n:Nat)
 (h:∀a,aO (res a).2->(wp (mkM cd ms (an a) (Cq af.res (res a).1)) n (start i af (pat a))).den):aG S i (az (bZ pat res)):=by
 refine uS i fun a ha=>⟨?_,dR (hcl a).2.2,mfM hB cd ms hcd hms hf (hcl a).1 (hcl a).2.1 (hcl a).2.2 (an a) n (h a ha)⟩
 rw[List.all_map,List.all_eq_true];exact fun x hx=>dR (List.all_eq_true.1 (hcl a).2.1 x hx)
end
theorem aR {α:Type}{pat:α->List SV}{res:α->SV×List Prop}{con:Con}(inj:∀a b,(pat a).map aB=(pat b).map aB->a=b) (sh:∀a b,EU (pat a) (pat b)=true) (cl:∀a,(pat a).all clV=true) (h:∀xs r,con.g xs=some r->∃a,xs=pat a/\r=res a):df (bZ pat res) con:=by
 refine⟨VS inj sh cl,?_⟩;intro xs v cs hg hc;obtain⟨a,rfl,e⟩:=h xs _ hg;have:=QE (res:=res) inj a;rw[<- e] at this;exact⟨cs,this,hc⟩
end Go.EA
end
section
namespace Go.EA
def Heap.keepO (H:Heap) (K:Nat->Bool):Heap:=⟨H.n,fun i=>match K i with | true=>H.o i | false=>.dead⟩
def Heap.joinO (H1 H:Heap) (K K1:Nat->Bool):Heap:=⟨H1.n,fun i=>match Nat.blt i H.n&&!K i with | true=>H.o i | false=>match K1 i with | true=>H1.o i | false=>.dead⟩
section
variable {S:SC} {H:Heap} {K:Nat->Bool}
theorem mJ {i:Nat}(h:own ((H.keepO K).o i)=true):K i=true/\own (H.o i)=true:=by
 simp only[Heap.keepO] at h;split at h
 .rename_i hk;exact⟨hk,h⟩
 .cases h
theorem DV {i:Nat}(h:live ((H.keepO K).o i)=true):K i=true/\live (H.o i)=true:=by
 simp only[Heap.keepO] at h;split at h
 .rename_i hk;exact⟨hk,h⟩
 .cases h
theorem jC {ρ:Rho}{k:Nat}(h:ek H ρ k):ek (H.keepO K) ρ k:=fun i hi ho=>h i hi (mJ ho).2
theorem aU.keepO {ρ:Rho}{w:World}(h:aU S H ρ w):aU S (H.keepO K) ρ w:=by
 refine⟨fun i hi=>?_,fun i j hi hj hne ho hl=>h.ap i j hi hj hne (mJ ho).2 (DV hl).2,fun k ob hk=>⟨(h.fx k ob hk).1,jC (h.fx k ob hk).2⟩,fun k ob hk=>⟨(h.fz k ob hk).1,(h.fz k ob hk).2.1,jC (h.fz k ob hk).2.2⟩,h.dr⟩;show og S ρ H.n (ρ i) (match K i with | true=>H.o i | false=>.dead) _;split
 .exact h.obj i hi
 .trivial
theorem lQ {x:AO}(h:own x=true):live x=true:=by cases x <;> simp[own,live] at h ⊢
theorem MF.frame {f:Nat}{cap:List (Nat×Nat×Nat)}{xs:List AV}{Q Q':AV->Heap->Prop}(h:MF S f cap xs (H.keepO K) Q)
 (hq:∀v H1,Q v H1->H.n<=H1.n->(∀i,i<H.n->K i=false->live (H.o i)=true->own (H1.o i)=false)->∃K1:Nat->Bool,(∀i,K1 i=true->own (H1.o i)=true)/\Q' v (H1.joinO H K K1)):MF S f cap xs H Q':=by
 intro ρ w vs hc hvs hH;obtain⟨k1,k2⟩:=h ρ w vs hc hvs hH.keepO;refine⟨k1,k2.mono fun e w' hr=>?_⟩;obtain⟨v,H1,hQ,u,ρ',rfl,g1,g2,g3⟩:=hr;have hn:H.n<=H1.n:=g2.nn;have hrho:∀i,i<H.n->ρ' i=ρ i:=g2.rho;obtain⟨K1,o1,hQ'⟩:=hq v H1 hQ g2.nn fun i hi hk hl=>by
  have oth:ek (H.keepO K) ρ (ρ i).g:=by
   intro j hj ho;obtain⟨a,b⟩:=mJ ho;exact hH.ap j i hj hi (fun e=>by subst e;rw[hk] at a;cases a) b hl
  cases ho:own (H1.o i) with
  |false=>rfl
  |true=>exact absurd (by rw[hrho i hi]) ((g2.keep _ (hH.lt' hi hl) oth).2 i (Nat.lt_of_lt_of_le hi hn) ho)
 have hE:Ext ρ H.n ρ' H1.n:=⟨hn,hrho,g2.fz⟩;have cs:∀i,(i<H.n/\K i=false/\(H1.joinO H K K1).o i=H.o i)\/(K1 i=true/\(H1.joinO H K K1).o i=H1.o i/\own (H1.o i)=true)\/(H1.joinO H K K1).o i=.dead:=by
  intro i;simp only[Heap.joinO];split
  .rename_i hb;simp only[zH,Bool.not_eq_true'] at hb;exact .inl ⟨zW hb.1,hb.2,rfl⟩
  .split
   .rename_i hk;exact .inr (.inl ⟨hk,rfl,o1 i hk⟩)
   .exact .inr (.inr rfl)
 have oth:∀i,i<H.n->K i=false->live (H.o i)=true->ek (H.keepO K) ρ (ρ i).g:=by
  intro i hi hk hl j hj ho;obtain⟨a,b⟩:=mJ ho;exact hH.ap j i hj hi (fun e=>by subst e;rw[hk] at a;cases a) b hl
 have img:∀k,ek H ρ k->ek H1 ρ' k->ek (H1.joinO H K K1) ρ' k:=by
  intro k h1 h2 i hi ho;rcases cs i with ⟨a,b,e⟩ | ⟨a,e,b⟩ | e
  .rw[e] at ho;rw[hrho i a];exact h1 i a ho
  .exact h2 i hi b
  .rw[e] at ho;cases ho
 refine⟨v,_,hQ',u,ρ',rfl,⟨fun i hi=>?_,fun i j hi hj hne ho hl=>?_,fun k ob hk=>⟨(g1.fx k ob hk).1,img k (hH.fx k ob hk).2 (g1.fx k ob hk).2⟩,fun k ob hk=>⟨(g1.fz k ob hk).1,(g1.fz k ob hk).2.1,?_⟩,g1.dr⟩,
  ⟨g2.sz,g2.os,g2.tape,g2.output,hn,hrho,fun k hk hi=>⟨(g2.keep k hk (jC hi)).1,img k hi (g2.keep k hk (jC hi)).2⟩,g2.fz,fun k hk hi=>g2.fn k hk (jC hi)⟩,g3⟩
 .rcases cs i with ⟨a,b,e⟩ | ⟨a,e,b⟩ | e
  .rw[e,hrho i a];cases hd:live (H.o i) with
   | false=>
     have:H.o i=.dead:=by revert hd; cases H.o i <;> simp[live]
     rw[this];trivial
   | true=>
     rw[(g2.keep _ (hH.lt' a hd) (oth i a b hd)).1];exact(hH.obj i a).mono hE
  .rw[e];exact g1.obj i hi
  .rw[e];trivial
 .rcases cs i with ⟨a,b,e⟩ | ⟨a,e,b⟩ | e <;> rcases cs j with ⟨a',b',e'⟩ | ⟨a',e',b'⟩ | e'
  .rw[e] at ho;rw[e'] at hl;rw[hrho i a,hrho j a'];exact hH.ap i j a a' hne ho hl
  .rw[e] at ho;rw[hrho i a];have hl':=lQ ho;exact fun hh=>(g2.keep _ (hH.lt' a hl') (oth i a b hl')).2 j hj b' hh.symm
  .rw[e'] at hl;cases hl
  .rw[e'] at hl;rw[hrho j a'];exact(g2.keep _ (hH.lt' a' hl) (oth j a' b' hl)).2 i hi b
  .rw[e'] at hl;exact g1.ap i j hi hj hne b (lQ b')
  .rw[e'] at hl;cases hl
  .rw[e] at ho;cases ho
  .rw[e] at ho;cases ho
  .rw[e] at ho;cases ho
 .refine fun i hi ho=>?_
  rcases cs i with ⟨a,b,e⟩ | ⟨a,e,b⟩ | e
  .rw[e] at ho;rw[hrho i a];intro hg;have hlt:=hH.lt a ho;have hk':=g2.fn _ hlt (oth i a b (lQ ho));rw[hg] at hk';rw[hk] at hk';exact(hH.fz _ _ hk'.symm).2.2 i a ho hg
  .exact(g1.fz k ob hk).2.2 i hi b
  .rw[e] at ho;cases ho
end
def abo (b:Nat) (x y:SV):Prop:=(x=y/\clV x=true)\/(x=.one (.osl b)/\y=.one (.osl 0))\/∃i n,x=.one (.sl b i n)/\y=.one (.sl 0 i n)
section
variable {S:SC} {X:Cx} {c:Cn} {L:List SO} {H:Heap}
def c0 (c:Cn) (b:Nat):Cn:=⟨fun _=>c.π b,fun _=>c.nz b,c.Z,fun _ _=>none⟩
structure IP:Type 1 where
 α:Type
 t:Ty
 P:α->Nat->List SV
 l:α->List t.den
 pre:α->List Prop
 β:α->Type
 post:(a:α)->β a->List Prop
 v:(a:α)->β a->SV
 l':(a:α)->β a->List t.den
def IP.res (M:IP) (a:M.α) (b:Nat) (L:List SO):Yi:=⟨M.pre a,M.β a,M.post a,M.v a,fun x=>L.set b (.row M.t (M.l' a x)),[]⟩
def IP.Fits (M:IP) (mc:iR):Prop:=∀xs L r,mc.g xs L=some r->∃a b,xs.map qP=M.P a b/\ae L b=.row M.t (M.l a)/\r=M.res a b L
structure IP.Ok (M:IP) (np:Nat):Prop where
 ren:∀a b,ah (abo b) (M.P a b) (M.P a 0)
 np:∀a,Nat.beq (M.P a 0).length np=true
 cl:∀a x,clV (M.v a x)=true
end
end Go.EA
end
section
namespace Go.EA
def Hg:List (Nat×iR)->Nat->Option iR
 |[],_=>none
 |p::l,i=>match Nat.beq p.1 i with | true=>some p.2 | false=>Hg l i
def mH (S:SC):List (Nat×iR)->Prop
 |[]=>True
 |p::l=>fB S p.1 p.2/\mH S l
theorem mH.look {S:SC}:∀{l:List (Nat×iR)},mH S l->∀i mc,Hg l i=some mc->fB S i mc
 |[],_,i,mc,h=>by cases h
 | p::l,⟨h1,h2⟩,i,mc,h=>by
   simp only[Hg] at h;split at h
   .rename_i e;cases h;rw[<- zC e];exact h1
   .exact mH.look h2 i mc h
def EM (cd:List (Nat×AF)) (ms:List MS) (mm:List (Nat×iR)) (an:ANF) (top:ST->List SO->VC):Env:=⟨look cd,fun i=>(wU ms i).map MS.con,an,top,Hg mm⟩
section
variable {S:SC}
theorem abf (hB:SB S) (cd:List (Nat×AF)) (ms:List MS) (mm:List (Nat×iR)) (hcd:jw S cd) (hms:mD S ms) (hmm:mH S mm) {i:Nat}{af:AF}(hf:S.has i af) {xs:List SV}{v:SV}(hnp:Nat.beq xs.length af.np=true) (hx:xs.all clV=true) (hv:clV v=true)
 (an:ANF) (n:Nat) (h:(wp (EM cd ms mm an (Cq af.res v)) n (start i af xs)).den):MF S i [] (xs.map aB) (hl []) fun v' _=>v'=aB v:=
 PH (sj hB hms) (E:=EM cd ms mm an (Cq af.res v)) (fun i af h=>hcd.look i af h) (fun i con h=>by
  obtain⟨m,hm,rfl⟩:=zD.1 h;exact pR (X:=Xm ms) (by simp[Xm,hm]) (hms.look i m hm).2.1 (hms.look i m hm).2.2) (fun i mc h=>hmm.look i mc h) rfl hf hnp hx hv n h
theorem abj (hB:SB S) (cd:List (Nat×AF)) (ms:List MS) (mm:List (Nat×iR)) (hcd:jw S cd) (hms:mD S ms) (hmm:mH S mm) {i:Nat}{af:AF}(hf:S.has i af) {α:Type}{pat:α->List SV}{res:α->SV×List Prop}
 (hcl:∀a,Nat.beq (pat a).length af.np=true/\(pat a).all clV=true/\clV (res a).1=true) (an:α->ANF) (n:Nat)
 (h:∀a,aO (res a).2->(wp (EM cd ms mm (an a) (Cq af.res (res a).1)) n (start i af (pat a))).den):aG S i (az (bZ pat res)):=by
 refine uS i fun a ha=>⟨?_,dR (hcl a).2.2,abf hB cd ms mm hcd hms hmm hf (hcl a).1 (hcl a).2.1 (hcl a).2.2 (an a) n (h a ha)⟩
 rw[List.all_map,List.all_eq_true];exact fun x hx=>dR (List.all_eq_true.1 (hcl a).2.1 x hx)
end
end Go.EA
end
