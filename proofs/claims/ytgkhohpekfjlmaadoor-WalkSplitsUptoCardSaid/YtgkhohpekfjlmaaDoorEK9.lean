/- Texts. Conditions: none. -/
import Derived.Test.YtgkhohpekfjlmaaDoorEK8
import Derived.Test.YtgkhohpekfjlmaaDoorEK6
set_option linter.unusedVariables false
set_option linter.unusedSimpArgs false
section
namespace Go.EA
section
variable {S:SC} {X:Cx} {c:Cn} {L:List SO} {H:Heap} {T:ST} {Tm:Tm} {m:Nat}
theorem MF.conv {f:Nat}{cap:List (Nat×Nat×Nat)}{xs:List AV}{Q:AV->Heap->Prop}(h:MF S f cap xs H fun v0 H0=>∃T0 T1 H1,T0 0=v0/\Abs S H.n T0 H0 T1 H1/\Q (T1 0) H1/\∀k,k≠0->T0 k=junk):MF S f cap xs H Q:=by
 intro ρ w vs h1 h2 h3;obtain⟨k1,k2⟩:=h ρ w vs h1 h2 h3;refine⟨k1,k2.mono fun e w' hr=>?_⟩;obtain⟨v0,H0,⟨T0,T1,H1,e0,ha,hq,hj⟩,u,ρ',rfl,g1,g2,g3⟩:=hr;obtain⟨ρ1,a1,a2,a3⟩:=ha g2.nn ρ' w' #[u] (fun k v hk=>by
  cases k with
  |zero=>simp at hk;subst hk;rw[e0];exact g3
  |succ k=>simp at hk) g1
 exact⟨T1 0,H1,hq,u,ρ1,rfl,a2,g2.transB a3 (zJ _),a1 0 u (by simp)⟩
def jy (S:SC):List (Nat×AF)->Prop
 |[]=>True
 |p::l=>S.has p.1 p.2/\jy S l
def look {α:Type}:List (Nat×α)->Nat->Option α
 |[],_=>none
 |p::l,i=>match Nat.beq p.1 i with | true=>some p.2 | false=>look l i
theorem jy.look:∀{l:List (Nat×AF)},jy S l->∀i af,EA.look l i=some af->S.has i af
 |[],_,i,af,h=>by cases h
 | p::l,⟨h1,h2⟩,i,af,h=>by
   simp only[EA.look] at h;split at h
   .rename_i e;cases h;rw[<- zC e];exact h1
   .exact jy.look h2 i af h
abbrev ANF:=Nat->Nat->ST->List SO->Option LA
def start (i:Nat) (af:AF) (xs:List SV):SS:=⟨.normal,i,af.res,[.code af.body],nN af xs [],[],[]⟩
theorem qB:∀{xs:List SV},xs.all clV=true->ah (RVS c L) xs (xs.map aB)
 |[],_=>ah.nil
 | x::xs,h=>by
   simp only[List.all_cons,zH] at h;exact ah.cons ((ib h.1).2 rfl) (qB h.2)
theorem OB (hS:S.Good X) {E:Env}{i:Nat}{af:AF}{xs:List SV}{v:SV}(hcd:∀i af,E.CD i=some af->S.has i af) (hkt:∀i con,E.KT i=some con->GL X i con) (hmt:∀i mc,E.MT i=some mc->fC S i mc) (htop:E.top=BP af.res v) (hf:S.has i af) (hnp:Nat.beq xs.length af.np=true) (hx:xs.all clV=true) (hv:clV v=true)
 (n:Nat) (h:(wp E n (start i af xs)).den):MF S i [] (xs.map aB) (hl []) fun v' _=>v'=aB v:=by
 refine MF.conv (MF.of hf (by rw[<- zC hnp];simp) ?_)
 have hE:qP S X E fun ex T' H'=>(ex=.ret\/ex=.normal)/\∃v',iU T' H' af.res=some v'/\∃T0 T1 H1,T0 0=v'/\Abs S (hl []).n T0 H' T1 H1/\T1 0=aB v/\∀k,k≠0->T0 k=junk:=by
  refine⟨hS,hcd,hkt,fun c T L Tm H e he ht hT hH=>⟨he,?_⟩,hmt⟩;rw[htop] at ht;unfold BP at ht;split at ht
  .rename_i v0 hv0;obtain⟨a0,e1,e2⟩:=yP hT hH hv0;have hT0:RT c L [v0] (fun k=>match k with | 0=>a0 | _=>junk):=fun k=>by
    cases k with
    |zero=>exact e2
    |succ k=>trivial
   obtain⟨c3,T1m,H1,g1,g2,g3,_⟩:=nV (S:=S) hT0 hH ht;exact⟨a0,e1,_,T1m,H1,rfl,g1 _,(ib hv).1 (g2 0),fun k hk=>by cases k with
    |zero=>exact absurd rfl hk
    |succ k=>rfl⟩
  .exact ht.elim
 have hsy:=bO hE n _ h;have hT:RT ⟨id,fun _=>true,fun _=>ld0,fun _ _=>none⟩ [] (nN af xs []) (gp (xs.map aB++([]:List (Nat×Nat×Nat)).map fun q=>AV.one (.ptr q.1 q.2.1 q.2.2))):=by
  unfold nN;rw[List.map_nil,List.map_nil,List.nil_append,List.append_nil];exact RT.args _ (qB hx)
 exact hsy ⟨id,fun _=>true,fun _=>ld0,fun _ _=>none⟩ _ (hl []) [.code af.body] [] (hl []).n hT ⟨fun b hb=>absurd hb (zS _),fun b b' hb=>absurd hb (zS _),fun b hb=>absurd hb (zS _),Un [],⟨fun b i k r hb=>absurd hb (zS _),fun b i k r hb=>absurd hb (zS _),fun b i k r b' i' r' hb=>absurd hb (zS _)⟩⟩ ⟨rfl,trivial⟩ trivial
theorem gZ {x:SL}(h:clL x=true):(aX x).closed=true:=by
 cases x <;> simp only[clL,Bool.false_eq_true] at h <;> rfl
theorem jm {x:List SL}(h:x.all clL=true):(x.map aX).all Lf.closed=true:=by
 rw[List.all_map,List.all_eq_true];exact fun y hy=>gZ (List.all_eq_true.1 h y hy)
theorem dO {x:SV}(h:clV x=true):(aB x).closed=true:=by
 cases x with
 |one x=>exact gZ h
 |agg x=>exact jm h
 | tup x=>
   simp only[aB,AV.closed,Bool.or_eq_true];refine .inl ?_;rw[List.all_map,List.all_eq_true];intro y hy;have:=List.all_eq_true.1 h y hy;cases y with
   |o y=>exact gZ this
   |a y=>exact jm this
 |junk=>cases h
 |ite _ _ _ _=>cases h
noncomputable def dx {α:Type}(pat:α->List SV) (res:α->SV×List Prop):GP:=yD (fun a=>(pat a).map aB) (fun a=>(aB (res a).1,(res a).2))
theorem oN {i:Nat}{g:GP}{con:Con}(hp:X.pr i=some (kY g)) (hun:UnG g) (h:∀xs v cs,con.g xs=some (v,cs)->aS cs->∃cs',g (xs.map aB)=some (aB v,cs')/\aS cs'):GL X i con:=⟨g,hp,hun,h⟩
theorem PS {α:Type}{pat:α->List SV}{res:α->SV×List Prop}(inj:∀a b,(pat a).map aB=(pat b).map aB->a=b) (a:α):dx pat res ((pat a).map aB)=some (aB (res a).1,(res a).2):=
 Gc (pat:=fun a=>(pat a).map aB) inj a
def shL:SL->SL->Bool
 |.int k _,.int k' _=>decide (k=k')
 |.bool _,.bool _=>true
 |.str _,.str _=>true
 |.row t _,.row t' _=>match Ty.eq? t t' with | some _=>true | none=>false
 |.vptr t _ o,.vptr t' _ o'=>match Ty.eq? t t' with | some _=>Nat.beq o o' | none=>false
 |.fn f [],.fn g []=>Nat.beq f g
 |.nilp,.nilp | .nils,.nils | .slz,.slz | .nilf,.nilf | .nilm,.nilm | .nili,.nili=>true
 |_,_=>false
def RS:List SL->List SL->Bool
 |[],[]=>true
 |x::r,y::q=>shL x y&&RS r q
 |_,_=>false
def shV:SV->SV->Bool
 |.one x,.one y=>shL x y
 |.agg x,.agg y=>RS x y
 |_,_=>false
def Et:List SV->List SV->Bool
 |[],[]=>true
 |x::r,y::q=>shV x y&&Et r q
 |_,_=>false
theorem sS:∀{a b a' b':List Lf},ShC a a'->ShC b b'->ShC (a++b) (a'++b')
 |[],b,a',b',h,h'=>by simp only[ShC] at h;subst h;exact h'
 |x::r,b,[],b',h,_=>by simp only[ShC] at h
 | x::r,b,y::q,b',h,h'=>by
   simp only[ShC] at h;simp only[List.cons_append,ShC];exact⟨h.1,sS h.2 h'⟩
theorem Kz:∀{els:List (List Lf)}{e':List Lf},(∀e∈els,ShC e e')->ShR els e'
 |[],e',_=>by simp only[ShR]
 |e::r,e',h=>by simp only[ShR];exact⟨h e (by simp),Kz fun x hx=>h x (by simp[hx])⟩
theorem oC:∀(t:Ty) (x y:t.den),ShC (t.enc x) (t.enc y)
 |.int k,x,y=>by simp[Ty.enc,ShC,ShF]
 |.bool,x,y=>by simp[Ty.enc,ShC,ShF]
 |.str,x,y=>by simp[Ty.enc,ShC,ShF]
 |.pair a b,x,y=>sS (oC a x.1 y.1) (oC b x.2 y.2)
 | .row t,x,y=>by
   simp only[Ty.enc,ShC,ShF,and_true];refine⟨_,rfl,fun e' he'=>Kz fun e he=>?_⟩;obtain⟨u,_,rfl⟩:=List.mem_map.1 he;obtain⟨u',_,rfl⟩:=List.mem_map.1 he';exact oC t u u'
theorem Di:∀{a a':List Lf}(o:Nat),ShC a a'->ShC (a.drop o) (a'.drop o)
 |a,a',0,h=>h
 |[],a',o+1,h=>by simp only[ShC] at h;subst h;simp[ShC]
 |x::r,[],o+1,h=>by simp only[ShC] at h
 |x::r,y::q,o+1,h=>by simp only[ShC] at h;exact Di o h.2
theorem LU {x y:SL}(h:shL x y=true):ShF (aX x) (aX y):=by
 unfold shL at h;split at h
 .have:=of_decide_eq_true h;subst this;simp[aX,ShF]
 .simp[aX,ShF]
 .simp[aX,ShF]
 .rename_i t l t' l';split at h
  .rename_i he _;obtain⟨he⟩:=he;subst he;have:=oC (.row t) l l';simp only[Ty.enc,ShC,and_true] at this;exact this
  .cases h
 .split at h
  .rename_i t x o t' y o' _ he _;obtain⟨he⟩:=he;subst he;have:=zC h;subst this;simp only[aX,ShF];exact⟨_,rfl,Di o (oC t x y)⟩
  .cases h
 .have:=zC h;subst this;simp[aX,ShF]
 all_goals first | (simp[aX,ShF];done) | cases h
theorem Fv:∀{x y:List SL},RS x y=true->ShC (x.map aX) (y.map aX)
 |[],[],_=>by simp[ShC]
 | x::r,y::q,h=>by
   simp only[RS,zH] at h;simp only[zK,ShC];exact⟨LU h.1,Fv h.2⟩
 |[],_::_,h=>by cases h
 |_::_,[],h=>by cases h
theorem XC {x y:SV}(h:shV x y=true):ShV (aB x) (aB y):=by
 unfold shV at h;split at h
 .exact⟨_,rfl,LU h⟩
 .exact⟨_,rfl,Fv h⟩
 .cases h
theorem BX {H:Heap}:∀{xs ys:List SV}{zs:List AV},Et xs ys=true->ah (ImV H) (xs.map aB) zs->ah (ImV H) (ys.map aB) zs->xs.map aB=ys.map aB
 |[],[],_,_,_,_=>rfl
 | x::r,y::q,zs,h,h1,h2=>by
   simp only[Et,zH] at h;obtain⟨z,zs,rfl,a1,a2⟩:=h1.cons_inv;obtain⟨z',zs',e,b1,b2⟩:=h2.cons_inv;cases e;rw[zK,zK,WB (XC h.1) a1 b1,BX h.2 a2 b2]
 |[],_::_,_,h,_,_=>by cases h
 |_::_,[],_,h,_,_=>by cases h
theorem KQ {H:Heap}{x:SV}(h:clV x=true) (hn:∀v,x≠.tup v):ImV H (aB x) (aB x):=by
 cases x with
 |one x=>exact⟨_,rfl,rJ (gZ h)⟩
 |agg x=>exact⟨_,rfl,rfl,by have:=mU (H:=H) (zs:=[]) (jm h);rwa [List.append_nil] at this⟩
 |tup v=>exact absurd rfl (hn v)
 |junk=>cases h
 |ite _ _ _ _=>cases h
theorem xe {H:Heap}:∀{xs ys:List SV},xs.all clV=true->Et xs ys=true->ah (ImV H) (xs.map aB) (xs.map aB)
 |[],_,_,_=>ah.nil
 |x::r,[],_,h=>by cases h
 | x::r,y::q,hc,h=>by
   simp only[Et,zH] at h;simp only[List.all_cons,zH] at hc;exact ah.cons (KQ hc.1 fun v e=>by subst e; cases y <;> cases h.1) (xe hc.2 h.2)
theorem BA {α:Type}{pat:α->List AV}{res:α->AV×List Prop}{xs:List AV}{r:AV×List Prop}(h:yD pat res xs=some r):∃a,xs=pat a/\r=res a:=by
 unfold yD at h;split at h
 .rename_i hx;simp only[zE] at h;exact⟨_,hx.choose_spec.symm,h.symm⟩
 .cases h
theorem UN {α:Type}{pat:α->List SV}{res:α->SV×List Prop}(inj:∀a b,(pat a).map aB=(pat b).map aB->a=b) (sh:∀a b,Et (pat a) (pat b)=true) (cl:∀a,(pat a).all clV=true):UnG (dx pat res):=by
 have key:∀{H xs v},mo (dx pat res) H xs v->∃a,ah (ImV H) ((pat a).map aB) xs/\v=aB (res a).1:=by
  intro H xs v h;rcases h with ⟨c,hg,_⟩ | ⟨_,ys,c,hi,hg,_⟩
  .obtain⟨a,rfl,e⟩:=BA hg;exact⟨a,xe (cl a) (sh a a),congrArg Prod.fst e⟩
  .obtain⟨a,rfl,e⟩:=BA hg;exact⟨a,hi,congrArg Prod.fst e⟩
 intro H xs v v' h h';obtain⟨a,h1,rfl⟩:=key h;obtain⟨b,h2,rfl⟩:=key h';have:=inj a b (BX (sh a b) h1 h2);rw[this]
theorem VC.use {v:VC}{p:Prop}(h:v.den=p) (hp:p):v.den:=by rw[h];exact hp
theorem Ri {α:Type}{a b c d:List α}(h:a++b=c++d) (hl:a.length=c.length):a=c/\b=d:=List.append_inj h hl
theorem Ty.enc_inj:∀(t:Ty) {x y:t.den},t.enc x=t.enc y->x=y
 |.int k,x,y,h=>by simp only[Ty.enc,zG,Lf.int.injEq,and_true,true_and] at h;exact h
 |.bool,x,y,h=>by simp only[Ty.enc,zG,Lf.bool.injEq,and_true] at h;exact h
 |.str,x,y,h=>by simp only[Ty.enc,zG,Lf.str.injEq,and_true] at h;exact h
 | .pair a b,x,y,h=>by
   obtain⟨h1,h2⟩:=Ri h (by rw[Ty.enc_len,Ty.enc_len]);exact Prod.ext (Ty.enc_inj a h1) (Ty.enc_inj b h2)
 | .row t,x,y,h=>by
   simp only[Ty.enc,zG,Lf.vrow.injEq,and_true,true_and] at h;have key:∀(l l':List t.den),l.map t.enc=l'.map t.enc->l=l':=by
    intro l
    induction l with
    |nil=>intro l' h;cases l' with
     |nil=>rfl
     |cons _ _=>cases h
    |cons z l ih=>intro l' h;cases l' with
     |nil=>cases h
     | cons z' l'=>
       simp only[zK,zG] at h;rw[Ty.enc_inj t h.1,ih l' h.2]
   exact key x y h
theorem cZ {t:Ty}{l l':List t.den}(h:l.map t.enc=l'.map t.enc):l=l':=by
 refine Ty.enc_inj (.row t) ?_;show [Lf.vrow t.size _]=[Lf.vrow t.size _];rw[h]
end
end Go.EA
end
section
namespace Go.EA
structure SB (S:SC):Prop where
 ok:S.Ok
 dr:S.dr=oZ (fun _=>true)
 mix:S.C.P.follows .mixedOrders=true
structure MS where
 i:Nat
 g:GP
 con:Con
def xq:List MS->Nat->Option MS
 |[],_=>none
 |m::l,i=>match Nat.beq m.i i with | true=>some m | false=>xq l i
def dG (g:GP) (con:Con):Prop:=UnG g/\∀xs v cs,con.g xs=some (v,cs)->aS cs->∃cs',g (xs.map aB)=some (aB v,cs')/\aS cs'
def lM (S:SC):List MS->Prop
 |[]=>True
 |m::l=>(aN S m.i (az m.g)/\dG m.g m.con)/\lM S l
theorem lM.look {S:SC}:∀{l:List MS},lM S l->∀i m,xq l i=some m->aN S i (az m.g)/\dG m.g m.con
 |[],_,i,m,h=>by cases h
 | p::l,⟨h1,h2⟩,i,m,h=>by
   simp only[xq] at h;split at h
   .rename_i e;cases h;rw[<- zC e];exact h1
   .exact lM.look h2 i m h
noncomputable def Xm (ms:List MS):Cx:=⟨fun _=>none,fun i=>(xq ms i).map fun m=>kY m.g⟩
theorem rR {S:SC}(hB:SB S) {ms:List MS}(h:lM S ms):S.Good (Xm ms):=by
 refine⟨hB.ok,fun i af hi=>by simp[Xm] at hi,fun i p hp=>?_,fun nt ops ais ls t hd hc=>?_⟩
 .obtain⟨m,hm,rfl⟩:=zD.1 hp;exact Ih (h.look i m hm).1
 .rw[hB.mix];have key:∀f xs H v H',fP (Xm ms) (fun _ _ _=>none) f xs H=some (v,H')->H'=H:=fun f xs H v H' h=>Dq (fun _=>rfl) (fun i p xs H v H' hp hc=>by
   obtain⟨m,hm,rfl⟩:=zD.1 hp;exact(qi hc).1) h
  obtain⟨l,hl,h⟩:=BU (pp:=fun _=>true) (fun f xs H v H' _ h=>key _ xs H v H' h) (fun f xs H v H' _ hc hd o=>DL (fun i p xs H v H' hp hc hd o=>by
   obtain⟨m,hm,rfl⟩:=zD.1 hp;exact ES (h.look i m hm).2.1 hd o hc) (fun _=>rfl) hc hd o) (fun f xs H v H' h hh=>by rw[key f xs H v H' h];exact hh) (by rw[hB.dr] at hd;exact hd) t
  obtain⟨σ,τ,h1,⟨τ',h2,h3⟩,h⟩:=h;exact⟨l,hl,σ,τ,h1,⟨τ',h2,fun T H r he=>h3 he⟩,fun T H r hHd he=>h hHd he⟩
def mkM (cd:List (Nat×AF)) (ms:List MS) (an:ANF) (top:ST->List SO->VC):Env:=⟨look cd,fun i=>(xq ms i).map MS.con,an,top,fun _=>none⟩
section
variable {S:SC}
theorem mfM (hB:SB S) (cd:List (Nat×AF)) (ms:List MS) (hcd:jy S cd) (hms:lM S ms) {i:Nat}{af:AF}(hf:S.has i af) {xs:List SV}{v:SV}(hnp:Nat.beq xs.length af.np=true) (hx:xs.all clV=true) (hv:clV v=true)
 (an:ANF) (n:Nat) (h:(wp (mkM cd ms an (BP af.res v)) n (start i af xs)).den):MF S i [] (xs.map aB) (hl []) fun v' _=>v'=aB v:=
 OB (rR hB hms) (E:=mkM cd ms an (BP af.res v)) (fun i af h=>hcd.look i af h) (fun i con h=>by
  obtain⟨m,hm,rfl⟩:=zD.1 h;exact oN (X:=Xm ms) (by simp[Xm,hm]) (hms.look i m hm).2.1 (hms.look i m hm).2.2) (fun _ _ h=>by cases h) rfl hf hnp hx hv n h
theorem prM (hB:SB S) (cd:List (Nat×AF)) (ms:List MS) (hcd:jy S cd) (hms:lM S ms) {i:Nat}{af:AF}(hf:S.has i af) {α:Type}{pat:α->List SV}{res:α->SV×List Prop}
 (hcl:∀a,Nat.beq (pat a).length af.np=true/\(pat a).all clV=true/\clV (res a).1=true) (an:α->ANF) (n:Nat)
 (h:∀a,aS (res a).2->(wp (mkM cd ms (an a) (BP af.res (res a).1)) n (start i af (pat a))).den):aN S i (az (dx pat res)):=by
 refine tL i fun a ha=>⟨?_,dO (hcl a).2.2,mfM hB cd ms hcd hms hf (hcl a).1 (hcl a).2.1 (hcl a).2.2 (an a) n (h a ha)⟩
 rw[List.all_map,List.all_eq_true];exact fun x hx=>dO (List.all_eq_true.1 (hcl a).2.1 x hx)
end
theorem aY {α:Type}{pat:α->List SV}{res:α->SV×List Prop}{con:Con}(inj:∀a b,(pat a).map aB=(pat b).map aB->a=b) (sh:∀a b,Et (pat a) (pat b)=true) (cl:∀a,(pat a).all clV=true) (h:∀xs r,con.g xs=some r->∃a,xs=pat a/\r=res a):dG (dx pat res) con:=by
 refine⟨UN inj sh cl,?_⟩;intro xs v cs hg hc;obtain⟨a,rfl,e⟩:=h xs _ hg;have:=PS (res:=res) inj a;rw[<- e] at this;exact⟨cs,this,hc⟩
end Go.EA
end
section
namespace Go.EA
def Heap.keepO (H:Heap) (K:Nat->Bool):Heap:=⟨H.n,fun i=>match K i with | true=>H.o i | false=>.dead⟩
def Heap.joinO (H1 H:Heap) (K K1:Nat->Bool):Heap:=⟨H1.n,fun i=>match Nat.blt i H.n&&!K i with | true=>H.o i | false=>match K1 i with | true=>H1.o i | false=>.dead⟩
section
variable {S:SC} {H:Heap} {K:Nat->Bool}
theorem mM {i:Nat}(h:own ((H.keepO K).o i)=true):K i=true/\own (H.o i)=true:=by
 simp only[Heap.keepO] at h;split at h
 .rename_i hk;exact⟨hk,h⟩
 .cases h
theorem DI {i:Nat}(h:live ((H.keepO K).o i)=true):K i=true/\live (H.o i)=true:=by
 simp only[Heap.keepO] at h;split at h
 .rename_i hk;exact⟨hk,h⟩
 .cases h
theorem jD {ρ:Rho}{k:Nat}(h:dW H ρ k):dW (H.keepO K) ρ k:=fun i hi ho=>h i hi (mM ho).2
theorem aV.keepO {ρ:Rho}{w:World}(h:aV S H ρ w):aV S (H.keepO K) ρ w:=by
 refine⟨fun i hi=>?_,fun i j hi hj hne ho hl=>h.ap i j hi hj hne (mM ho).2 (DI hl).2,fun k ob hk=>⟨(h.fx k ob hk).1,jD (h.fx k ob hk).2⟩,fun k ob hk=>⟨(h.fz k ob hk).1,(h.fz k ob hk).2.1,jD (h.fz k ob hk).2.2⟩,h.dr⟩;show nP S ρ H.n (ρ i) (match K i with | true=>H.o i | false=>.dead) _;split
 .exact h.obj i hi
 .trivial
theorem lF {x:AO}(h:own x=true):live x=true:=by cases x <;> simp[own,live] at h ⊢
theorem MF.frame {f:Nat}{cap:List (Nat×Nat×Nat)}{xs:List AV}{Q Q':AV->Heap->Prop}(h:MF S f cap xs (H.keepO K) Q)
 (hq:∀v H1,Q v H1->H.n<=H1.n->(∀i,i<H.n->K i=false->live (H.o i)=true->own (H1.o i)=false)->∃K1:Nat->Bool,(∀i,K1 i=true->own (H1.o i)=true)/\Q' v (H1.joinO H K K1)):MF S f cap xs H Q':=by
 intro ρ w vs hc hvs hH;obtain⟨k1,k2⟩:=h ρ w vs hc hvs hH.keepO;refine⟨k1,k2.mono fun e w' hr=>?_⟩;obtain⟨v,H1,hQ,u,ρ',rfl,g1,g2,g3⟩:=hr;have hn:H.n<=H1.n:=g2.nn;have hrho:∀i,i<H.n->ρ' i=ρ i:=g2.rho;obtain⟨K1,o1,hQ'⟩:=hq v H1 hQ g2.nn fun i hi hk hl=>by
  have oth:dW (H.keepO K) ρ (ρ i).g:=by
   intro j hj ho;obtain⟨a,b⟩:=mM ho;exact hH.ap j i hj hi (fun e=>by subst e;rw[hk] at a;cases a) b hl
  cases ho:own (H1.o i) with
  |false=>rfl
  |true=>exact absurd (by rw[hrho i hi]) ((g2.keep _ (hH.lt' hi hl) oth).2 i (Nat.lt_of_lt_of_le hi hn) ho)
 have hE:Ext ρ H.n ρ' H1.n:=⟨hn,hrho,g2.fz⟩;have cs:∀i,(i<H.n/\K i=false/\(H1.joinO H K K1).o i=H.o i)\/(K1 i=true/\(H1.joinO H K K1).o i=H1.o i/\own (H1.o i)=true)\/(H1.joinO H K K1).o i=.dead:=by
  intro i;simp only[Heap.joinO];split
  .rename_i hb;simp only[zH,Bool.not_eq_true'] at hb;exact .inl ⟨zW hb.1,hb.2,rfl⟩
  .split
   .rename_i hk;exact .inr (.inl ⟨hk,rfl,o1 i hk⟩)
   .exact .inr (.inr rfl)
 have oth:∀i,i<H.n->K i=false->live (H.o i)=true->dW (H.keepO K) ρ (ρ i).g:=by
  intro i hi hk hl j hj ho;obtain⟨a,b⟩:=mM ho;exact hH.ap j i hj hi (fun e=>by subst e;rw[hk] at a;cases a) b hl
 have img:∀k,dW H ρ k->dW H1 ρ' k->dW (H1.joinO H K K1) ρ' k:=by
  intro k h1 h2 i hi ho;rcases cs i with ⟨a,b,e⟩ | ⟨a,e,b⟩ | e
  .rw[e] at ho;rw[hrho i a];exact h1 i a ho
  .exact h2 i hi b
  .rw[e] at ho;cases ho
 refine⟨v,_,hQ',u,ρ',rfl,⟨fun i hi=>?_,fun i j hi hj hne ho hl=>?_,fun k ob hk=>⟨(g1.fx k ob hk).1,img k (hH.fx k ob hk).2 (g1.fx k ob hk).2⟩,fun k ob hk=>⟨(g1.fz k ob hk).1,(g1.fz k ob hk).2.1,?_⟩,g1.dr⟩,
  ⟨g2.sz,g2.os,g2.tape,g2.output,hn,hrho,fun k hk hi=>⟨(g2.keep k hk (jD hi)).1,img k hi (g2.keep k hk (jD hi)).2⟩,g2.fz,fun k hk hi=>g2.fn k hk (jD hi)⟩,g3⟩
 .rcases cs i with ⟨a,b,e⟩ | ⟨a,e,b⟩ | e
  .rw[e,hrho i a];cases hd:live (H.o i) with
   | false=>
     have:H.o i=.dead:=by revert hd; cases H.o i <;> simp[live]
     rw[this];trivial
   | true=>
     rw[(g2.keep _ (hH.lt' a hd) (oth i a b hd)).1];exact(hH.obj i a).mono hE
  .rw[e];exact g1.obj i hi
  .rw[e];trivial
 .rcases cs i with ⟨a,b,e⟩ | ⟨a,e,b⟩ | e <;> rcases cs j with ⟨a',b',e'⟩ | ⟨a',e',b'⟩ | e'
  .rw[e] at ho;rw[e'] at hl;rw[hrho i a,hrho j a'];exact hH.ap i j a a' hne ho hl
  .rw[e] at ho;rw[hrho i a];have hl':=lF ho;exact fun hh=>(g2.keep _ (hH.lt' a hl') (oth i a b hl')).2 j hj b' hh.symm
  .rw[e'] at hl;cases hl
  .rw[e'] at hl;rw[hrho j a'];exact(g2.keep _ (hH.lt' a' hl) (oth j a' b' hl)).2 i hi b
  .rw[e'] at hl;exact g1.ap i j hi hj hne b (lF b')
  .rw[e'] at hl;cases hl
  .rw[e] at ho;cases ho
  .rw[e] at ho;cases ho
  .rw[e] at ho;cases ho
 .refine fun i hi ho=>?_
  rcases cs i with ⟨a,b,e⟩ | ⟨a,e,b⟩ | e
  .rw[e] at ho;rw[hrho i a];intro hg;have hlt:=hH.lt a ho;have hk':=g2.fn _ hlt (oth i a b (lF ho));rw[hg] at hk';rw[hk] at hk';exact(hH.fz _ _ hk'.symm).2.2 i a ho hg
  .exact(g1.fz k ob hk).2.2 i hi b
  .rw[e] at ho;cases ho
end
def aaq (b:Nat) (x y:SV):Prop:=(x=y/\clV x=true)\/(x=.one (.osl b)/\y=.one (.osl 0))\/∃i n,x=.one (.sl b i n)/\y=.one (.sl 0 i n)
section
variable {S:SC} {X:Cx} {c:Cn} {L:List SO} {H:Heap}
def c0 (c:Cn) (b:Nat):Cn:=⟨fun _=>c.π b,fun _=>c.nz b,c.Z,fun _ _=>none⟩
structure Jn:Type 1 where
 α:Type
 t:Ty
 P:α->Nat->List SV
 l:α->List t.den
 pre:α->List Prop
 β:α->Type
 post:(a:α)->β a->List Prop
 v:(a:α)->β a->SV
 l':(a:α)->β a->List t.den
def Jn.res (M:Jn) (a:M.α) (b:Nat) (L:List SO):XL:=⟨M.pre a,M.β a,M.post a,M.v a,fun x=>L.set b (.row M.t (M.l' a x)),[]⟩
def Jn.Fits (M:Jn) (mc:iP):Prop:=∀xs L r,mc.g xs L=some r->∃a b,xs.map qc=M.P a b/\ae L b=.row M.t (M.l a)/\r=M.res a b L
structure Jn.Ok (M:Jn) (np:Nat):Prop where
 ren:∀a b,ah (aaq b) (M.P a b) (M.P a 0)
 np:∀a,Nat.beq (M.P a 0).length np=true
 cl:∀a x,clV (M.v a x)=true
end
end Go.EA
end
section
namespace Go.EA
def Gp:List (Nat×iP)->Nat->Option iP
 |[],_=>none
 |p::l,i=>match Nat.beq p.1 i with | true=>some p.2 | false=>Gp l i
def mF (S:SC):List (Nat×iP)->Prop
 |[]=>True
 |p::l=>fC S p.1 p.2/\mF S l
theorem mF.look {S:SC}:∀{l:List (Nat×iP)},mF S l->∀i mc,Gp l i=some mc->fC S i mc
 |[],_,i,mc,h=>by cases h
 | p::l,⟨h1,h2⟩,i,mc,h=>by
   simp only[Gp] at h;split at h
   .rename_i e;cases h;rw[<- zC e];exact h1
   .exact mF.look h2 i mc h
def EN (cd:List (Nat×AF)) (ms:List MS) (mm:List (Nat×iP)) (an:ANF) (top:ST->List SO->VC):Env:=⟨look cd,fun i=>(xq ms i).map MS.con,an,top,Gp mm⟩
section
variable {S:SC}
theorem ZZ (hB:SB S) (cd:List (Nat×AF)) (ms:List MS) (mm:List (Nat×iP)) (hcd:jy S cd) (hms:lM S ms) (hmm:mF S mm) {i:Nat}{af:AF}(hf:S.has i af) {xs:List SV}{v:SV}(hnp:Nat.beq xs.length af.np=true) (hx:xs.all clV=true) (hv:clV v=true)
 (an:ANF) (n:Nat) (h:(wp (EN cd ms mm an (BP af.res v)) n (start i af xs)).den):MF S i [] (xs.map aB) (hl []) fun v' _=>v'=aB v:=
 OB (rR hB hms) (E:=EN cd ms mm an (BP af.res v)) (fun i af h=>hcd.look i af h) (fun i con h=>by
  obtain⟨m,hm,rfl⟩:=zD.1 h;exact oN (X:=Xm ms) (by simp[Xm,hm]) (hms.look i m hm).2.1 (hms.look i m hm).2.2) (fun i mc h=>hmm.look i mc h) rfl hf hnp hx hv n h
theorem ZP (hB:SB S) (cd:List (Nat×AF)) (ms:List MS) (mm:List (Nat×iP)) (hcd:jy S cd) (hms:lM S ms) (hmm:mF S mm) {i:Nat}{af:AF}(hf:S.has i af) {α:Type}{pat:α->List SV}{res:α->SV×List Prop}
 (hcl:∀a,Nat.beq (pat a).length af.np=true/\(pat a).all clV=true/\clV (res a).1=true) (an:α->ANF) (n:Nat)
 (h:∀a,aS (res a).2->(wp (EN cd ms mm (an a) (BP af.res (res a).1)) n (start i af (pat a))).den):aN S i (az (dx pat res)):=by
 refine tL i fun a ha=>⟨?_,dO (hcl a).2.2,ZZ hB cd ms mm hcd hms hmm hf (hcl a).1 (hcl a).2.1 (hcl a).2.2 (an a) n (h a ha)⟩
 rw[List.all_map,List.all_eq_true];exact fun x hx=>dO (List.all_eq_true.1 (hcl a).2.1 x hx)
end
end Go.EA
end
