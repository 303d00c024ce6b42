/- Texts. Conditions: none. -/
import Derived.Test.YtpgjilomblpcpaaDoorEK8
import Derived.Test.YtpgjilomblpcpaaDoorEK6
set_option linter.unusedVariables false
set_option linter.unusedSimpArgs false
section
namespace Go.EA
section
variable {S:SC} {X:Cx} {c:Cn} {L:List SO} {H:Heap} {T:ST} {Tm:Tm} {m:Nat}
theorem MF.conv {f:Nat}{cap:List (Nat×Nat×Nat)}{xs:List AV}{Q:AV->Heap->Prop}(h:MF S f cap xs H fun v0 H0=>∃T0 T1 H1,T0 0=v0/\Abs S H.n T0 H0 T1 H1/\Q (T1 0) H1/\∀k,k≠0->T0 k=junk):MF S f cap xs H Q:=by
 intro ρ w vs h1 h2 h3;obtain⟨k1,k2⟩:=h ρ w vs h1 h2 h3;refine⟨k1,k2.mono fun e w' hr=>?_⟩;obtain⟨v0,H0,⟨T0,T1,H1,e0,ha,hq,hj⟩,u,ρ',rfl,g1,g2,g3⟩:=hr;obtain⟨ρ1,a1,a2,a3⟩:=ha g2.nn ρ' w' #[u] (fun k v hk=>by
  cases k with
  |zero=>simp at hk;subst hk;rw[e0];exact g3
  |succ k=>simp at hk) g1
 exact⟨T1 0,H1,hq,u,ρ1,rfl,a2,g2.transB a3 (zJ _),a1 0 u (by simp)⟩
def iR (S:SC):List (Nat×AF)->Prop
 |[]=>True
 |p::l=>S.has p.1 p.2/\iR S l
def look {α:Type}:List (Nat×α)->Nat->Option α
 |[],_=>none
 |p::l,i=>match Nat.beq p.1 i with | true=>some p.2 | false=>look l i
theorem iR.look:∀{l:List (Nat×AF)},iR S l->∀i af,EA.look l i=some af->S.has i af
 |[],_,i,af,h=>by cases h
 | p::l,⟨h1,h2⟩,i,af,h=>by
   simp only[EA.look] at h;split at h
   .rename_i e;cases h;rw[<- zC e];exact h1
   .exact iR.look h2 i af h
abbrev ANF:=Nat->Nat->ST->List SO->Option LA
def start (i:Nat) (af:AF) (xs:List SV):SS:=⟨.normal,i,af.res,[.code af.body],lh af xs [],[],[]⟩
theorem qG:∀{xs:List SV},xs.all clV=true->aa (RVS c L) xs (xs.map aH)
 |[],_=>aa.nil
 | x::xs,h=>by
   simp only[List.all_cons,zH] at h;exact aa.cons ((eQ h.1).2 rfl) (qG h.2)
theorem KO (hS:S.Good X) {E:Env}{i:Nat}{af:AF}{xs:List SV}{v:SV}(hcd:∀i af,E.CD i=some af->S.has i af) (hkt:∀i con,E.KT i=some con->Fe X i con) (hmt:∀i mc,E.MT i=some mc->bJ S i mc) (htop:E.top=Ae af.res v) (hf:S.has i af) (hnp:Nat.beq xs.length af.np=true) (hx:xs.all clV=true) (hv:clV v=true)
 (n:Nat) (h:(wp E n (start i af xs)).den):MF S i [] (xs.map aH) (hl []) fun v' _=>v'=aH v:=by
 refine MF.conv (MF.of hf (by rw[<- zC hnp];simp) ?_)
 have hE:oM S X E fun ex T' H'=>(ex=.ret\/ex=.normal)/\∃v',iX T' H' af.res=some v'/\∃T0 T1 H1,T0 0=v'/\Abs S (hl []).n T0 H' T1 H1/\T1 0=aH v/\∀k,k≠0->T0 k=junk:=by
  refine⟨hS,hcd,hkt,fun c T L Tm H e he ht hT hH=>⟨he,?_⟩,hmt⟩;rw[htop] at ht;unfold Ae at ht;split at ht
  .rename_i v0 hv0;obtain⟨a0,e1,e2⟩:=xy hT hH hv0;have hT0:RT c L [v0] (fun k=>match k with | 0=>a0 | _=>junk):=fun k=>by
    cases k with
    |zero=>exact e2
    |succ k=>trivial
   obtain⟨c3,T1m,H1,g1,g2,g3,_⟩:=lN (S:=S) hT0 hH ht;exact⟨a0,e1,_,T1m,H1,rfl,g1 _,(eQ hv).1 (g2 0),fun k hk=>by cases k with
    |zero=>exact absurd rfl hk
    |succ k=>rfl⟩
  .exact ht.elim
 have hsy:=bE hE n _ h;have hT:RT ⟨id,fun _=>true,fun _=>ld0,fun _ _=>none⟩ [] (lh af xs []) (fJ (xs.map aH++([]:List (Nat×Nat×Nat)).map fun q=>AV.one (.ptr q.1 q.2.1 q.2.2))):=by
  unfold lh;rw[List.map_nil,List.map_nil,List.nil_append,List.append_nil];exact RT.args _ (qG hx)
 exact hsy ⟨id,fun _=>true,fun _=>ld0,fun _ _=>none⟩ _ (hl []) [.code af.body] [] (hl []).n hT ⟨fun b hb=>absurd hb (zS _),fun b b' hb=>absurd hb (zS _),fun b hb=>absurd hb (zS _),Re [],⟨fun b i k r hb=>absurd hb (zS _),fun b i k r hb=>absurd hb (zS _),fun b i k r b' i' r' hb=>absurd hb (zS _)⟩⟩ ⟨rfl,trivial⟩ trivial
theorem ib {x:SL}(h:clL x=true):(bi x).closed=true:=by
 cases x <;> simp only[clL,Bool.false_eq_true] at h <;> rfl
theorem jC {x:List SL}(h:x.all clL=true):(x.map bi).all Lf.closed=true:=by
 rw[List.all_map,List.all_eq_true];exact fun y hy=>ib (List.all_eq_true.1 h y hy)
theorem dI {x:SV}(h:clV x=true):(aH x).closed=true:=by
 cases x with
 |one x=>exact ib h
 |agg x=>exact jC h
 | tup x=>
   simp only[aH,AV.closed,Bool.or_eq_true];refine .inl ?_;rw[List.all_map,List.all_eq_true];intro y hy;have:=List.all_eq_true.1 h y hy;cases y with
   |o y=>exact ib this
   |a y=>exact jC this
 |junk=>cases h
 |ite _ _ _ _=>cases h
noncomputable def fH {α:Type}(pat:α->List SV) (res:α->SV×List Prop):GP:=BB (fun a=>(pat a).map aH) (fun a=>(aH (res a).1,(res a).2))
theorem lD {i:Nat}{g:GP}{con:Con}(hp:X.pr i=some (lc g)) (hun:UnG g) (h:∀xs v cs,con.g xs=some (v,cs)->aL cs->∃cs',g (xs.map aH)=some (aH v,cs')/\aL cs'):Fe X i con:=⟨g,hp,hun,h⟩
theorem Qk {α:Type}{pat:α->List SV}{res:α->SV×List Prop}(inj:∀a b,(pat a).map aH=(pat b).map aH->a=b) (a:α):fH pat res ((pat a).map aH)=some (aH (res a).1,(res a).2):=
 FB (pat:=fun a=>(pat a).map aH) inj a
def shL:SL->SL->Bool
 |.int k _,.int k' _=>decide (k=k')
 |.bool _,.bool _=>true
 |.str _,.str _=>true
 |.row t _,.row t' _=>match Ty.eq? t t' with | some _=>true | none=>false
 |.vptr t _ o,.vptr t' _ o'=>match Ty.eq? t t' with | some _=>Nat.beq o o' | none=>false
 |.fn f [],.fn g []=>Nat.beq f g
 |.nilp,.nilp | .nils,.nils | .slz,.slz | .nilf,.nilf | .nilm,.nilm | .nili,.nili=>true
 |_,_=>false
def QH:List SL->List SL->Bool
 |[],[]=>true
 |x::r,y::q=>shL x y&&QH r q
 |_,_=>false
def shV:SV->SV->Bool
 |.one x,.one y=>shL x y
 |.agg x,.agg y=>QH x y
 |_,_=>false
def CF:List SV->List SV->Bool
 |[],[]=>true
 |x::r,y::q=>shV x y&&CF r q
 |_,_=>false
theorem uj:∀{a b a' b':List Lf},ShC a a'->ShC b b'->ShC (a++b) (a'++b')
 |[],b,a',b',h,h'=>by simp only[ShC] at h;subst h;exact h'
 |x::r,b,[],b',h,_=>by simp only[ShC] at h
 | x::r,b,y::q,b',h,h'=>by
   simp only[ShC] at h;simp only[List.cons_append,ShC];exact⟨h.1,uj h.2 h'⟩
theorem MQ:∀{els:List (List Lf)}{e':List Lf},(∀e∈els,ShC e e')->ShR els e'
 |[],e',_=>by simp only[ShR]
 |e::r,e',h=>by simp only[ShR];exact⟨h e (by simp),MQ fun x hx=>h x (by simp[hx])⟩
theorem oU:∀(t:Ty) (x y:t.den),ShC (t.enc x) (t.enc y)
 |.int k,x,y=>by simp[Ty.enc,ShC,ShF]
 |.bool,x,y=>by simp[Ty.enc,ShC,ShF]
 |.str,x,y=>by simp[Ty.enc,ShC,ShF]
 |.pair a b,x,y=>uj (oU a x.1 y.1) (oU b x.2 y.2)
 | .row t,x,y=>by
   simp only[Ty.enc,ShC,ShF,and_true];refine⟨_,rfl,fun e' he'=>MQ fun e he=>?_⟩;obtain⟨u,_,rfl⟩:=List.mem_map.1 he;obtain⟨u',_,rfl⟩:=List.mem_map.1 he';exact oU t u u'
theorem Bt:∀{a a':List Lf}(o:Nat),ShC a a'->ShC (a.drop o) (a'.drop o)
 |a,a',0,h=>h
 |[],a',o+1,h=>by simp only[ShC] at h;subst h;simp[ShC]
 |x::r,[],o+1,h=>by simp only[ShC] at h
 |x::r,y::q,o+1,h=>by simp only[ShC] at h;exact Bt o h.2
theorem Jj {x y:SL}(h:shL x y=true):ShF (bi x) (bi y):=by
 unfold shL at h;split at h
 .have:=of_decide_eq_true h;subst this;simp[bi,ShF]
 .simp[bi,ShF]
 .simp[bi,ShF]
 .rename_i t l t' l';split at h
  .rename_i he _;obtain⟨he⟩:=he;subst he;have:=oU (.row t) l l';simp only[Ty.enc,ShC,and_true] at this;exact this
  .cases h
 .split at h
  .rename_i t x o t' y o' _ he _;obtain⟨he⟩:=he;subst he;have:=zC h;subst this;simp only[bi,ShF];exact⟨_,rfl,Bt o (oU t x y)⟩
  .cases h
 .have:=zC h;subst this;simp[bi,ShF]
 all_goals first | (simp[bi,ShF];done) | cases h
theorem FU:∀{x y:List SL},QH x y=true->ShC (x.map bi) (y.map bi)
 |[],[],_=>by simp[ShC]
 | x::r,y::q,h=>by
   simp only[QH,zH] at h;simp only[zK,ShC];exact⟨Jj h.1,FU h.2⟩
 |[],_::_,h=>by cases h
 |_::_,[],h=>by cases h
theorem Tn {x y:SV}(h:shV x y=true):ShV (aH x) (aH y):=by
 unfold shV at h;split at h
 .exact⟨_,rfl,Jj h⟩
 .exact⟨_,rfl,FU h⟩
 .cases h
theorem yC {H:Heap}:∀{xs ys:List SV}{zs:List AV},CF xs ys=true->aa (ImV H) (xs.map aH) zs->aa (ImV H) (ys.map aH) zs->xs.map aH=ys.map aH
 |[],[],_,_,_,_=>rfl
 | x::r,y::q,zs,h,h1,h2=>by
   simp only[CF,zH] at h;obtain⟨z,zs,rfl,a1,a2⟩:=h1.cons_inv;obtain⟨z',zs',e,b1,b2⟩:=h2.cons_inv;cases e;rw[zK,zK,TH (Tn h.1) a1 b1,yC h.2 a2 b2]
 |[],_::_,_,h,_,_=>by cases h
 |_::_,[],_,h,_,_=>by cases h
theorem JU {H:Heap}{x:SV}(h:clV x=true) (hn:∀v,x≠.tup v):ImV H (aH x) (aH x):=by
 cases x with
 |one x=>exact⟨_,rfl,rO (ib h)⟩
 |agg x=>exact⟨_,rfl,rfl,by have:=mJ (H:=H) (zs:=[]) (jC h);rwa [List.append_nil] at this⟩
 |tup v=>exact absurd rfl (hn v)
 |junk=>cases h
 |ite _ _ _ _=>cases h
theorem vk {H:Heap}:∀{xs ys:List SV},xs.all clV=true->CF xs ys=true->aa (ImV H) (xs.map aH) (xs.map aH)
 |[],_,_,_=>aa.nil
 |x::r,[],_,h=>by cases h
 | x::r,y::q,hc,h=>by
   simp only[CF,zH] at h;simp only[List.all_cons,zH] at hc;exact aa.cons (JU hc.1 fun v e=>by subst e; cases y <;> cases h.1) (vk hc.2 h.2)
theorem AB {α:Type}{pat:α->List AV}{res:α->AV×List Prop}{xs:List AV}{r:AV×List Prop}(h:BB pat res xs=some r):∃a,xs=pat a/\r=res a:=by
 unfold BB at h;split at h
 .rename_i hx;simp only[zE] at h;exact⟨_,hx.choose_spec.symm,h.symm⟩
 .cases h
theorem Vi {α:Type}{pat:α->List SV}{res:α->SV×List Prop}(inj:∀a b,(pat a).map aH=(pat b).map aH->a=b) (sh:∀a b,CF (pat a) (pat b)=true) (cl:∀a,(pat a).all clV=true):UnG (fH pat res):=by
 have key:∀{H xs v},lq (fH pat res) H xs v->∃a,aa (ImV H) ((pat a).map aH) xs/\v=aH (res a).1:=by
  intro H xs v h;rcases h with ⟨c,hg,_⟩ | ⟨_,ys,c,hi,hg,_⟩
  .obtain⟨a,rfl,e⟩:=AB hg;exact⟨a,vk (cl a) (sh a a),congrArg Prod.fst e⟩
  .obtain⟨a,rfl,e⟩:=AB hg;exact⟨a,hi,congrArg Prod.fst e⟩
 intro H xs v v' h h';obtain⟨a,h1,rfl⟩:=key h;obtain⟨b,h2,rfl⟩:=key h';have:=inj a b (yC (sh a b) h1 h2);rw[this]
theorem VC.use {v:VC}{p:Prop}(h:v.den=p) (hp:p):v.den:=by rw[h];exact hp
theorem OH {α:Type}{a b c d:List α}(h:a++b=c++d) (hl:a.length=c.length):a=c/\b=d:=List.append_inj h hl
theorem Ty.enc_inj:∀(t:Ty) {x y:t.den},t.enc x=t.enc y->x=y
 |.int k,x,y,h=>by simp only[Ty.enc,zG,Lf.int.injEq,and_true,true_and] at h;exact h
 |.bool,x,y,h=>by simp only[Ty.enc,zG,Lf.bool.injEq,and_true] at h;exact h
 |.str,x,y,h=>by simp only[Ty.enc,zG,Lf.str.injEq,and_true] at h;exact h
 | .pair a b,x,y,h=>by
   obtain⟨h1,h2⟩:=OH h (by rw[Ty.enc_len,Ty.enc_len]);exact Prod.ext (Ty.enc_inj a h1) (Ty.enc_inj b h2)
 | .row t,x,y,h=>by
   simp only[Ty.enc,zG,Lf.vrow.injEq,and_true,true_and] at h;have key:∀(l l':List t.den),l.map t.enc=l'.map t.enc->l=l':=by
    intro l
    induction l with
    | nil=>intro l' h;cases l' with
      |nil=>rfl
      |cons _ _=>cases h
    | cons z l ih=>intro l' h;cases l' with
      |nil=>cases h
      | cons z' l'=>
        simp only[zK,zG] at h;rw[Ty.enc_inj t h.1,ih l' h.2]
   exact key x y h
theorem gG {t:Ty}{l l':List t.den}(h:l.map t.enc=l'.map t.enc):l=l':=by
 refine Ty.enc_inj (.row t) ?_;show [Lf.vrow t.size _]=[Lf.vrow t.size _];rw[h]
end
end Go.EA
end
section
namespace Go.EA
structure SB (S:SC):Prop where
 ok:S.Ok
 dr:S.dr=oQ (fun _=>true)
 mix:S.C.P.follows .mixedOrders=true
structure MS where
 i:Nat
 g:GP
 con:Con
def wF:List MS->Nat->Option MS
 |[],_=>none
 |m::l,i=>match Nat.beq m.i i with | true=>some m | false=>wF l i
def gH (g:GP) (con:Con):Prop:=UnG g/\∀xs v cs,con.g xs=some (v,cs)->aL cs->∃cs',g (xs.map aH)=some (aH v,cs')/\aL cs'
def kZ (S:SC):List MS->Prop
 |[]=>True
 |m::l=>(aX S m.i (aI m.g)/\gH m.g m.con)/\kZ S l
theorem kZ.look {S:SC}:∀{l:List MS},kZ S l->∀i m,wF l i=some m->aX S i (aI m.g)/\gH m.g m.con
 |[],_,i,m,h=>by cases h
 | p::l,⟨h1,h2⟩,i,m,h=>by
   simp only[wF] at h;split at h
   .rename_i e;cases h;rw[<- zC e];exact h1
   .exact kZ.look h2 i m h
noncomputable def Xm (ms:List MS):Cx:=⟨fun _=>none,fun i=>(wF ms i).map fun m=>lc m.g⟩
theorem pq {S:SC}(hB:SB S) {ms:List MS}(h:kZ S ms):S.Good (Xm ms):=by
 refine⟨hB.ok,fun i af hi=>by simp[Xm] at hi,fun i p hp=>?_,fun nt ops ais ls t hd hc=>?_⟩
 .obtain⟨m,hm,rfl⟩:=zD.1 hp;exact Ha (h.look i m hm).1
 .rw[hB.mix];have key:∀f xs H v H',fF (Xm ms) (fun _ _ _=>none) f xs H=some (v,H')->H'=H:=fun f xs H v H' h=>Dm (fun _=>rfl) (fun i p xs H v H' hp hc=>by
   obtain⟨m,hm,rfl⟩:=zD.1 hp;exact(qF hc).1) h
  obtain⟨l,hl,h⟩:=Cm (pp:=fun _=>true) (fun f xs H v H' _ h=>key _ xs H v H' h) (fun f xs H v H' _ hc hd o=>CJ (fun i p xs H v H' hp hc hd o=>by
   obtain⟨m,hm,rfl⟩:=zD.1 hp;exact Eh (h.look i m hm).2.1 hd o hc) (fun _=>rfl) hc hd o) (fun f xs H v H' h hh=>by rw[key f xs H v H' h];exact hh) (by rw[hB.dr] at hd;exact hd) t
  obtain⟨σ,τ,h1,⟨τ',h2,h3⟩,h⟩:=h;exact⟨l,hl,σ,τ,h1,⟨τ',h2,fun T H r he=>h3 he⟩,fun T H r hHd he=>h hHd he⟩
def mkM (cd:List (Nat×AF)) (ms:List MS) (an:ANF) (top:ST->List SO->VC):Env:=⟨look cd,fun i=>(wF ms i).map MS.con,an,top,fun _=>none⟩
section
variable {S:SC}
theorem mfM (hB:SB S) (cd:List (Nat×AF)) (ms:List MS) (hcd:iR S cd) (hms:kZ S ms) {i:Nat}{af:AF}(hf:S.has i af) {xs:List SV}{v:SV}(hnp:Nat.beq xs.length af.np=true) (hx:xs.all clV=true) (hv:clV v=true)
 (an:ANF) (n:Nat) (h:(wp (mkM cd ms an (Ae af.res v)) n (start i af xs)).den):MF S i [] (xs.map aH) (hl []) fun v' _=>v'=aH v:=
 KO (pq hB hms) (E:=mkM cd ms an (Ae af.res v)) (fun i af h=>hcd.look i af h) (fun i con h=>by
  obtain⟨m,hm,rfl⟩:=zD.1 h;exact lD (X:=Xm ms) (by simp[Xm,hm]) (hms.look i m hm).2.1 (hms.look i m hm).2.2) (fun _ _ h=>by cases h) rfl hf hnp hx hv n h
theorem prM (hB:SB S) (cd:List (Nat×AF)) (ms:List MS) (hcd:iR S cd) (hms:kZ S ms) {i:Nat}{af:AF}(hf:S.has i af) {α:Type}{pat:α->List SV}{res:α->SV×List Prop}
 (hcl:∀a,Nat.beq (pat a).length af.np=true/\(pat a).all clV=true/\clV (res a).1=true) (an:α->ANF) (n:Nat)
 (h:∀a,aL (res a).2->(wp (mkM cd ms (an a) (Ae af.res (res a).1)) n (start i af (pat a))).den):aX S i (aI (fH pat res)):=by
 refine sP i fun a ha=>⟨?_,dI (hcl a).2.2,mfM hB cd ms hcd hms hf (hcl a).1 (hcl a).2.1 (hcl a).2.2 (an a) n (h a ha)⟩
 rw[List.all_map,List.all_eq_true];exact fun x hx=>dI (List.all_eq_true.1 (hcl a).2.1 x hx)
end
theorem bP {α:Type}{pat:α->List SV}{res:α->SV×List Prop}{con:Con}(inj:∀a b,(pat a).map aH=(pat b).map aH->a=b) (sh:∀a b,CF (pat a) (pat b)=true) (cl:∀a,(pat a).all clV=true) (h:∀xs r,con.g xs=some r->∃a,xs=pat a/\r=res a):gH (fH pat res) con:=by
 refine⟨Vi inj sh cl,?_⟩;intro xs v cs hg hc;obtain⟨a,rfl,e⟩:=h xs _ hg;have:=Qk (res:=res) inj a;rw[<- e] at this;exact⟨cs,this,hc⟩
end Go.EA
end
section
namespace Go.EA
def Heap.keepO (H:Heap) (K:Nat->Bool):Heap:=⟨H.n,fun i=>match K i with | true=>H.o i | false=>.dead⟩
def Heap.joinO (H1 H:Heap) (K K1:Nat->Bool):Heap:=⟨H1.n,fun i=>match Nat.blt i H.n&&!K i with | true=>H.o i | false=>match K1 i with | true=>H1.o i | false=>.dead⟩
section
variable {S:SC} {H:Heap} {K:Nat->Bool}
theorem mH {i:Nat}(h:own ((H.keepO K).o i)=true):K i=true/\own (H.o i)=true:=by
 simp only[Heap.keepO] at h;split at h
 .rename_i hk;exact⟨hk,h⟩
 .cases h
theorem DF {i:Nat}(h:live ((H.keepO K).o i)=true):K i=true/\live (H.o i)=true:=by
 simp only[Heap.keepO] at h;split at h
 .rename_i hk;exact⟨hk,h⟩
 .cases h
theorem jQ {ρ:Rho}{k:Nat}(h:dY H ρ k):dY (H.keepO K) ρ k:=fun i hi ho=>h i hi (mH ho).2
theorem aQ.keepO {ρ:Rho}{w:World}(h:aQ S H ρ w):aQ S (H.keepO K) ρ w:=by
 refine⟨fun i hi=>?_,fun i j hi hj hne ho hl=>h.ap i j hi hj hne (mH ho).2 (DF hl).2,fun k ob hk=>⟨(h.fx k ob hk).1,jQ (h.fx k ob hk).2⟩,fun k ob hk=>⟨(h.fz k ob hk).1,(h.fz k ob hk).2.1,jQ (h.fz k ob hk).2.2⟩,h.dr⟩;show nO S ρ H.n (ρ i) (match K i with | true=>H.o i | false=>.dead) _;split
 .exact h.obj i hi
 .trivial
theorem lZ {x:AO}(h:own x=true):live x=true:=by cases x <;> simp[own,live] at h ⊢
theorem MF.frame {f:Nat}{cap:List (Nat×Nat×Nat)}{xs:List AV}{Q Q':AV->Heap->Prop}(h:MF S f cap xs (H.keepO K) Q)
 (hq:∀v H1,Q v H1->H.n<=H1.n->(∀i,i<H.n->K i=false->live (H.o i)=true->own (H1.o i)=false)->∃K1:Nat->Bool,(∀i,K1 i=true->own (H1.o i)=true)/\Q' v (H1.joinO H K K1)):MF S f cap xs H Q':=by
 intro ρ w vs hc hvs hH;obtain⟨k1,k2⟩:=h ρ w vs hc hvs hH.keepO;refine⟨k1,k2.mono fun e w' hr=>?_⟩;obtain⟨v,H1,hQ,u,ρ',rfl,g1,g2,g3⟩:=hr;have hn:H.n<=H1.n:=g2.nn;have hrho:∀i,i<H.n->ρ' i=ρ i:=g2.rho;obtain⟨K1,o1,hQ'⟩:=hq v H1 hQ g2.nn fun i hi hk hl=>by
  have oth:dY (H.keepO K) ρ (ρ i).g:=by
   intro j hj ho;obtain⟨a,b⟩:=mH ho;exact hH.ap j i hj hi (fun e=>by subst e;rw[hk] at a;cases a) b hl
  cases ho:own (H1.o i) with
  |false=>rfl
  |true=>exact absurd (by rw[hrho i hi]) ((g2.keep _ (hH.lt' hi hl) oth).2 i (Nat.lt_of_lt_of_le hi hn) ho)
 have hE:Ext ρ H.n ρ' H1.n:=⟨hn,hrho,g2.fz⟩;have cs:∀i,(i<H.n/\K i=false/\(H1.joinO H K K1).o i=H.o i)\/(K1 i=true/\(H1.joinO H K K1).o i=H1.o i/\own (H1.o i)=true)\/(H1.joinO H K K1).o i=.dead:=by
  intro i;simp only[Heap.joinO];split
  .rename_i hb;simp only[zH,Bool.not_eq_true'] at hb;exact .inl ⟨zW hb.1,hb.2,rfl⟩
  .split
   .rename_i hk;exact .inr (.inl ⟨hk,rfl,o1 i hk⟩)
   .exact .inr (.inr rfl)
 have oth:∀i,i<H.n->K i=false->live (H.o i)=true->dY (H.keepO K) ρ (ρ i).g:=by
  intro i hi hk hl j hj ho;obtain⟨a,b⟩:=mH ho;exact hH.ap j i hj hi (fun e=>by subst e;rw[hk] at a;cases a) b hl
 have img:∀k,dY H ρ k->dY H1 ρ' k->dY (H1.joinO H K K1) ρ' k:=by
  intro k h1 h2 i hi ho;rcases cs i with ⟨a,b,e⟩ | ⟨a,e,b⟩ | e
  .rw[e] at ho;rw[hrho i a];exact h1 i a ho
  .exact h2 i hi b
  .rw[e] at ho;cases ho
 refine⟨v,_,hQ',u,ρ',rfl,⟨fun i hi=>?_,fun i j hi hj hne ho hl=>?_,fun k ob hk=>⟨(g1.fx k ob hk).1,img k (hH.fx k ob hk).2 (g1.fx k ob hk).2⟩,fun k ob hk=>⟨(g1.fz k ob hk).1,(g1.fz k ob hk).2.1,?_⟩,g1.dr⟩,
  ⟨g2.sz,g2.os,g2.tape,g2.output,hn,hrho,fun k hk hi=>⟨(g2.keep k hk (jQ hi)).1,img k hi (g2.keep k hk (jQ hi)).2⟩,g2.fz,fun k hk hi=>g2.fn k hk (jQ hi)⟩,g3⟩
 .rcases cs i with ⟨a,b,e⟩ | ⟨a,e,b⟩ | e
  .rw[e,hrho i a];cases hd:live (H.o i) with
   | false=>
     have:H.o i=.dead:=by revert hd; cases H.o i <;> simp[live]
     rw[this];trivial
   | true=>
     rw[(g2.keep _ (hH.lt' a hd) (oth i a b hd)).1];exact(hH.obj i a).mono hE
  .rw[e];exact g1.obj i hi
  .rw[e];trivial
 .rcases cs i with ⟨a,b,e⟩ | ⟨a,e,b⟩ | e <;> rcases cs j with ⟨a',b',e'⟩ | ⟨a',e',b'⟩ | e'
  .rw[e] at ho;rw[e'] at hl;rw[hrho i a,hrho j a'];exact hH.ap i j a a' hne ho hl
  .rw[e] at ho;rw[hrho i a];have hl':=lZ ho;exact fun hh=>(g2.keep _ (hH.lt' a hl') (oth i a b hl')).2 j hj b' hh.symm
  .rw[e'] at hl;cases hl
  .rw[e'] at hl;rw[hrho j a'];exact(g2.keep _ (hH.lt' a' hl) (oth j a' b' hl)).2 i hi b
  .rw[e'] at hl;exact g1.ap i j hi hj hne b (lZ b')
  .rw[e'] at hl;cases hl
  .rw[e] at ho;cases ho
  .rw[e] at ho;cases ho
  .rw[e] at ho;cases ho
 .refine fun i hi ho=>?_
  rcases cs i with ⟨a,b,e⟩ | ⟨a,e,b⟩ | e
  .rw[e] at ho;rw[hrho i a];intro hg;have hlt:=hH.lt a ho;have hk':=g2.fn _ hlt (oth i a b (lZ ho));rw[hg] at hk';rw[hk] at hk';exact(hH.fz _ _ hk'.symm).2.2 i a ho hg
  .exact(g1.fz k ob hk).2.2 i hi b
  .rw[e] at ho;cases ho
end
def frO:Fr:=.call 0 [] [] [] [.one (.osl 0)] none
def Xw {β:Type}(t:Ty) (post:β->List Prop) (v:β->SV) (l':β->List t.den):ST->List SO->VC:=fun T L=>.ex β fun x=>uI (post x) (mVC T L [v x] [.row t (l' x)] [frO])
def ML {β:Type}(i:Nat) (af:AF) (xs:List SV) (t:Ty) (l:List t.den) (post:β->List Prop) (v:β->SV) (l':β->List t.den):SS:=
 ⟨.normal,i,af.res,[.code af.body],lh af xs [],[.row t l],[.call 0 af.res [] [.stop (Xw t post v l') 0] [.junk] (some 0),frO]⟩
def SN (b:Nat) (x y:SV):Prop:=(x=y/\clV x=true)\/(x=.one (.osl b)/\y=.one (.osl 0))\/∃i n,x=.one (.sl b i n)/\y=.one (.sl 0 i n)
section
variable {S:SC} {X:Cx} {c:Cn} {L:List SO} {H:Heap}
def c0 (c:Cn) (b:Nat):Cn:=⟨fun _=>c.π b,fun _=>c.nz b,c.Z,fun _ _=>none⟩
theorem Oq {b:Nat}{t:Ty}{l:List t.den}(hb:ae L b=.row t l) {x y:SV}(hr:SN b x y) {a:AV}(h:RVS c L x a):RVS (c0 c b) [.row t l] y a:=by
 rcases hr with ⟨rfl,hc⟩ | ⟨rfl,rfl⟩ | ⟨i,n,rfl,rfl⟩
 .exact(eQ hc).2 ((eQ hc).1 h)
 .obtain⟨z,rfl,h1,h2⟩:=h;refine⟨z,rfl,by simp,fun t' l' he=>?_⟩;exact h2 t' l' (by rw[hb];exact he)
 .obtain⟨z,rfl,h1,h2⟩:=h;exact⟨z,rfl,by simp,h2⟩
theorem Jp {b:Nat}{t:Ty}{l:List t.den}(hb:ae L b=.row t l):∀{xs ys:List SV}{zs0:List AV},aa (SN b) xs ys->aa (RVS c L) xs zs0->aa (RVS (c0 c b) [.row t l]) ys zs0:=by
 intro xs ys zs0 h1 h2;refine⟨h1.1.symm.trans h2.1,fun i y a hy ha=>?_⟩;have hi:i<xs.length:=by rw[h1.1];exact(zI.1 hy).1
 exact Oq hb (h1.2 i _ y (zB hi) hy) (h2.2 i _ a (zB hi) ha)
structure oW:Type 1 where
 α:Type
 t:Ty
 P:α->Nat->List SV
 l:α->List t.den
 pre:α->List Prop
 β:α->Type
 post:(a:α)->β a->List Prop
 v:(a:α)->β a->SV
 l':(a:α)->β a->List t.den
def oW.res (M:oW) (a:M.α) (b:Nat) (L:List SO):RU:=⟨M.pre a,M.β a,M.post a,M.v a,fun x=>L.set b (.row M.t (M.l' a x)),[]⟩
def oW.Fits (M:oW) (mc:fu):Prop:=∀xs L r,mc.g xs L=some r->∃a b,xs.map kU=M.P a b/\ae L b=.row M.t (M.l a)/\r=M.res a b L
structure oW.Ok (M:oW) (np:Nat):Prop where
 ren:∀a b,aa (SN b) (M.P a b) (M.P a 0)
 np:∀a,Nat.beq (M.P a 0).length np=true
 cl:∀a x,clV (M.v a x)=true
theorem Va {Q0:Ex->Tm->Heap->Prop}{M:oW}{mc:fu}{i:Nat}{af:AF}(hfit:M.Fits mc) (hok:M.Ok af.np) (hf:S.has i af) (n:M.α->Nat)
 (E':M.α->Env) (hE':∀a,oM S X (E' a) Q0)
 (h:∀a,aL (M.pre a)->(wp (E' a) (n a) (ML i af (M.P a 0) M.t (M.l a) (M.post a) (M.v a) (M.l' a))).den):bJ S i mc:=by
 intro c L H xs ys r hr hpre hH hxs;obtain⟨a,b,he,hb,rfl⟩:=hfit xs L r hr;have hxs:aa (RVS c L) (M.P a b) ys:=by
  rw[<- he];refine⟨by simpa using hxs.1,fun i x y hx hy=>?_⟩;rw[List.getElem?_map,zD] at hx;obtain⟨x',hx',rfl⟩:=hx;exact sQ (hxs.2 i x' y hx' hy)
 have hbl:b<L.length:=aR (by rw[hb];simp);have hrow:=hH.rowAt hb
 let K:Nat->Bool:=fun j=>c.nz b&&Nat.beq j (c.π b)
 let y:Lf:=match c.nz b with | true=>.sl (c.π b) 0 (M.l a).length | false=>.nils
 have hargs:=Jp hb (hok.ren a b) hxs;have hnp:=zC (hok.np a);have hy0:RL' (c0 c b) [.row M.t (M.l a)] (.osl 0) y:=by
  refine⟨by simp,fun t l he=>?_⟩;cases he;rcases hrow with ⟨h1,h2⟩ | ⟨h1,_⟩
  .exact .inl ⟨h1,h2,.inl (by simp only[y,h1])⟩
  .exact .inr ⟨h1,by simp only[y,h1];rfl⟩
 have hH0:RH (c0 c b) [.row M.t (M.l a)] (H.keepO K):=by
  refine⟨fun j hj hl=>?_,fun j j' hj hj' _ _ _=>?_,fun j hj=>?_,fun j hj=>?_,⟨fun j i k r hj hI=>?_,fun j i k r hj hI=>?_,fun j i k r j' i' r' hj hj' hI=>?_⟩⟩
  rotate_right 3
  iterate 3 (obtain⟨_,_,_,_,_,h3,_⟩:=hI;cases h3)
  .have hj:j=0:=by simpa using hj
   subst hj;have hl:c.nz b=true:=hl;rcases hrow with ⟨h1,_⟩ | ⟨_,h2,_⟩
   .rw[hl] at h1;cases h1
   .exact h2
  .simp only[zM,List.length_nil] at hj hj';omega
  .have hj:j=0:=by simpa using hj
   subst hj;show ROS (c0 c b) [.row M.t (M.l a)] (.row M.t (M.l a)) 0 ((H.keepO K).o (c.π b));rcases hrow with ⟨h1,h2⟩ | ⟨h1,h2,els,h3,h4,h5,h6⟩
   .exact .inl ⟨h1,h2⟩
   .refine .inr ⟨h1,els,?_,h4,h5⟩;simp only[Heap.keepO,K,h1,Nat.beq_refl,Bool.and_self];exact h3
  .simp only[Heap.keepO];split
   .exact hH.hd j hj
   .rfl
 let R:EA.Tm->Heap->Prop:=fun Tm' H'=>∃(x:M.β a) (c1:Cn) (T1m:EA.Tm) (H1:Heap),aL (M.post a x)/\(∀m,Abs S m Tm' H' T1m H1)/\RVS c1 [.row M.t (M.l' a x)] (M.v a x) (T1m 0)/\RH c1 [.row M.t (M.l' a x)] H1/\RL' c1 [.row M.t (M.l' a x)] (.osl 0) y
 have hs:=bE (hE' a) _ _ (h a hpre) (c0 c b) (fJ (ys++([]:List (Nat×Nat×Nat)).map fun q=>AV.one (.ptr q.1 q.2.1 q.2.2))) (H.keepO K) [.code af.body]
  [.call H.n af.res [.stop R] (fun _=>EA.junk) (some 0),.call 0 [] [] (fun _=>.one y) none] H.n (by
   show RT _ _ (lh af (M.P a 0) []) _;unfold lh;rw[List.map_nil,List.map_nil,List.nil_append,List.append_nil];exact RT.args _ hargs) hH0 ⟨rfl,trivial⟩ ⟨rfl,rfl,fun k=>by
    cases k with
    |zero=>trivial
    | succ k=>trivial,⟨fun c2 T2 L2 Tm2 H2 hd hT2 hH2 hF2=>by
      obtain⟨x,hd⟩:=hd;obtain⟨hp,hd⟩:=gp hd;obtain⟨c3,T1m,H1,a1,a2,a3,a4⟩:=lN (S:=S) hT2 hH2 hd;refine⟨x,_,T1m,H1,hp,a1,a2 0,a3,?_⟩;have hF3:RFr [frO] [.call 0 [] [] (fun _=>.one y) none] c3 [.row M.t (M.l' a x)]:=a4.fr (fun b hb=>hb) hF2;obtain⟨z,hz,hr⟩:=hF3.2.2.1 0;cases hz;exact hr,trivial⟩,⟨rfl,rfl,fun k=>by
      cases k with
      |zero=>exact⟨y,rfl,hy0⟩
      |succ k=>trivial,trivial,trivial⟩⟩
 have hmf:MF S i [] ys (H.keepO K) fun v' H'=>R (di (fun _=>EA.junk) (some 0) v') H':=
  MF.of hf (by rw[<- hargs.1,<- hnp];simp) (MC.mono (show MC S H.n af.body _ (H.keepO K) _ from hs) fun e T' H' hh=>hh)
 have hmf2:MF S i [] ys (H.keepO K) fun v' H1=>∃(x:M.β a) (c1:Cn),aL (M.post a x)/\RVS c1 [.row M.t (M.l' a x)] (M.v a x) v'/\RH c1 [.row M.t (M.l' a x)] H1/\RL' c1 [.row M.t (M.l' a x)] (.osl 0) y:=
  MF.conv (hmf.mono fun v' H' hh=>by
   obtain⟨x,c1,T1m,H1,h1,h2,h3,h4,h5⟩:=hh;exact⟨_,T1m,H1,rfl,h2 _,⟨x,c1,h1,h3,h4,h5⟩,fun k hk=>by show (if k=0 then v' else EA.junk)=EA.junk;rw[if_neg hk]⟩)
 refine MF.frame hmf2 fun v' H1 hh hn _=>?_
 obtain⟨x,c1,h1,h2,h3,h4⟩:=hh;have hnz:(c.nz b=false/\M.l' a x=[])\/(c.nz b=true/\c1.nz 0=true/\c1.π 0=c.π b/\(M.l' a x).length=(M.l a).length):=by
  obtain⟨_,h4⟩:=h4;have h4:=h4 M.t (M.l' a x) rfl;rcases hrow with ⟨g1,g2⟩ | ⟨g1,_⟩
  .rcases h4 with ⟨_,k2,_⟩ | ⟨_,k2⟩
   .exact .inl ⟨g1,k2⟩
   .simp only[y,g1] at k2;cases k2
  .rcases h4 with ⟨_,_,k2⟩ | ⟨k1,k2⟩
   .simp only[y,g1] at k2; rcases k2 with k2 | k2 <;> cases k2
   .simp only[y,g1,Lf.sl.injEq] at k2;exact .inr ⟨g1,k1,k2.1.symm,k2.2.2.symm⟩
 let K1:Nat->Bool:=fun j=>c.nz b&&Nat.beq j (c.π b)
 have hrow1:=h3.rowAt (b:=0) (t:=M.t) (l:=M.l' a x) rfl;have hlen:(M.l a).length=(M.l' a x).length:=by
  rcases hnz with ⟨g1,g2⟩ | ⟨_,_,_,g⟩
  .rcases hrow with ⟨_,g3⟩ | ⟨g3,_⟩
   .rw[g2,g3]
   .rw[g1] at g3;cases g3
  .exact g.symm
 have KK:aD c L c (L.set b (.row M.t (M.l' a x))) fun _=>False:=aD.set (by rw[hb];rfl) fun t' l'' he=>by
  cases he;exact⟨M.t,M.l a,by rw[hb];rfl,hlen⟩
 have hls:∀j,j<L.length->aB c (ae (L.set b (.row M.t (M.l' a x))) j) j->aB c (ae L j) j:=fun j hj hl=>by
  by_cases e:j=b
  .subst e;rw[aT hj] at hl;rw[hb];exact hl
  .rw[aC e] at hl;exact hl
 refine⟨K1,fun j hj=>?_,x,h1,c,?_,⟨fun j hj hl=>?_,fun j j' hj hj' hl hl' he=>?_,fun j hj=>?_,fun j hj=>?_,hH.ns.keep (fun j i k r hj hI=>?_) hn (fun j i k r hj hI=>?_) (fun j hj hl=>?_)⟩,KK.any fun _ h=>h.elim⟩
 .simp only[K1,zH] at hj;have e:=zC hj.2;subst e;rcases hnz with ⟨g1,_⟩ | ⟨_,g2,g3,_⟩
  .rw[hj.1] at g1;cases g1
  .rcases hrow1 with ⟨k1,_⟩ | ⟨_,_,els,k3,_⟩
   .rw[g2] at k1;cases k1
   .rw[g3] at k3;rw[k3];rfl
 .exact(eQ (hok.cl a x)).2 ((eQ (hok.cl a x)).1 h2)
 .rw[show (M.res a b L).L x=L.set b (.row M.t (M.l' a x)) from rfl,List.length_set] at hj;exact Nat.lt_of_lt_of_le (hH.lt j hj (hls j hj hl)) hn
 .rw[show (M.res a b L).L x=L.set b (.row M.t (M.l' a x)) from rfl,List.length_set] at hj hj';exact hH.inj j j' hj hj' (hls j hj hl) (hls j' hj' hl') he
 .have hj:j<L.length:=by rw[show (M.res a b L).L x=L.set b (.row M.t (M.l' a x)) from rfl,List.length_set] at hj;exact hj
  show ROS c (L.set b (.row M.t (M.l' a x))) (ae (L.set b (.row M.t (M.l' a x))) j) j ((H1.joinO H K K1).o (c.π j));by_cases e:j=b
  .subst e;rw[aT hbl];rcases hnz with g | ⟨g1,g2,g3,g4⟩
   .exact .inl g
   .rcases hrow1 with ⟨k1,_⟩ | ⟨_,_,els,k3,k4,k5,_⟩
    .rw[g2] at k1;cases k1
    .refine .inr ⟨g1,els,?_,k4,k5⟩;simp only[Heap.joinO,K,K1,g1,Nat.beq_refl,Bool.and_self,Bool.not_true,Bool.and_false];rw[<- g3];exact k3
  .rw[aC e];have h0:=KK.ro0 hj rfl (hH.ob j hj);by_cases hl:aB c (ae L j) j
   .have hlt:=hH.lt j hj hl;have hk:K (c.π j)=false:=by
     simp only[K,Bool.and_eq_false_iff];cases hz:c.nz b with
     |false=>exact .inl rfl
     | true=>
       refine .inr ?_;cases hbq:Nat.beq (c.π j) (c.π b) with
       |false=>rfl
       |true=>exact absurd (hH.inj j b hj hbl hl (by rw[hb];exact hz) (zC hbq)) e
    have:(H1.joinO H K K1).o (c.π j)=H.o (c.π j):=by
     simp only[Heap.joinO,hk,Bool.not_false,Bool.and_true];rw[show Nat.blt (c.π j) H.n=true from Nat.ble_eq_true_of_le hlt]
    rw[this];exact h0
   .exact eH hl h0
 .have hj:H1.n<=j:=hj;simp only[Heap.joinO];split
  .rename_i hb2;simp only[zH] at hb2;have:=zW hb2.1;omega
  .split
   .exact h3.hd j hj
   .rfl
 .have hj:j<L.length:=by rw[show (M.res a b L).L x=L.set b (.row M.t (M.l' a x)) from rfl,List.length_set] at hj;exact hj
  refine⟨hj,?_⟩;by_cases e:j=b
  .subst e;exact(gN (by show bO (ae (L.set j (.row M.t (M.l' a x))) j)=false;rw[aT hbl];rfl) hI).elim
  .exact kv (aC e) rfl hI
 .have hkn:=(hH.ns.ob j i k r hj hI).1;have hk:K k=false:=by
   simp only[K,Bool.and_eq_false_iff];cases hz:c.nz b with
   |false=>exact .inl rfl
   | true=>
     refine .inr ?_;cases hbq:Nat.beq k (c.π b) with
     |false=>rfl
     |true=>exact absurd (zC hbq).symm (hH.ns.pi j i k r hj hI b hbl (by rw[hb];exact hz))
  simp only[Heap.joinO,hk,Bool.not_false,Bool.and_true];rw[show Nat.blt k H.n=true from Nat.ble_eq_true_of_le hkn]
 .have hj:j<L.length:=by rw[show (M.res a b L).L x=L.set b (.row M.t (M.l' a x)) from rfl,List.length_set] at hj;exact hj
  exact .inr ⟨j,hj,hls j hj hl,rfl⟩
end
end Go.EA
end
section
namespace Go.EA
def FR:List (Nat×fu)->Nat->Option fu
 |[],_=>none
 |p::l,i=>match Nat.beq p.1 i with | true=>some p.2 | false=>FR l i
def kM (S:SC):List (Nat×fu)->Prop
 |[]=>True
 |p::l=>bJ S p.1 p.2/\kM S l
theorem kM.look {S:SC}:∀{l:List (Nat×fu)},kM S l->∀i mc,FR l i=some mc->bJ S i mc
 |[],_,i,mc,h=>by cases h
 | p::l,⟨h1,h2⟩,i,mc,h=>by
   simp only[FR] at h;split at h
   .rename_i e;cases h;rw[<- zC e];exact h1
   .exact kM.look h2 i mc h
def xN (cd:List (Nat×AF)) (ms:List MS) (mm:List (Nat×fu)) (an:ANF) (top:ST->List SO->VC):Env:=⟨look cd,fun i=>(wF ms i).map MS.con,an,top,FR mm⟩
section
variable {S:SC}
theorem Xx (hB:SB S) (cd:List (Nat×AF)) (ms:List MS) (mm:List (Nat×fu)) (hcd:iR S cd) (hms:kZ S ms) (hmm:kM S mm) {i:Nat}{af:AF}(hf:S.has i af) {xs:List SV}{v:SV}(hnp:Nat.beq xs.length af.np=true) (hx:xs.all clV=true) (hv:clV v=true)
 (an:ANF) (n:Nat) (h:(wp (xN cd ms mm an (Ae af.res v)) n (start i af xs)).den):MF S i [] (xs.map aH) (hl []) fun v' _=>v'=aH v:=
 KO (pq hB hms) (E:=xN cd ms mm an (Ae af.res v)) (fun i af h=>hcd.look i af h) (fun i con h=>by
  obtain⟨m,hm,rfl⟩:=zD.1 h;exact lD (X:=Xm ms) (by simp[Xm,hm]) (hms.look i m hm).2.1 (hms.look i m hm).2.2) (fun i mc h=>hmm.look i mc h) rfl hf hnp hx hv n h
theorem Xb (hB:SB S) (cd:List (Nat×AF)) (ms:List MS) (mm:List (Nat×fu)) (hcd:iR S cd) (hms:kZ S ms) (hmm:kM S mm) {i:Nat}{af:AF}(hf:S.has i af) {α:Type}{pat:α->List SV}{res:α->SV×List Prop}
 (hcl:∀a,Nat.beq (pat a).length af.np=true/\(pat a).all clV=true/\clV (res a).1=true) (an:α->ANF) (n:Nat)
 (h:∀a,aL (res a).2->(wp (xN cd ms mm (an a) (Ae af.res (res a).1)) n (start i af (pat a))).den):aX S i (aI (fH pat res)):=by
 refine sP i fun a ha=>⟨?_,dI (hcl a).2.2,Xx hB cd ms mm hcd hms hmm hf (hcl a).1 (hcl a).2.1 (hcl a).2.2 (an a) n (h a ha)⟩
 rw[List.all_map,List.all_eq_true];exact fun x hx=>dI (List.all_eq_true.1 (hcl a).2.1 x hx)
theorem muM (hB:SB S) (cd:List (Nat×AF)) (ms:List MS) (mm:List (Nat×fu)) (hcd:iR S cd) (hms:kZ S ms) (hmm:kM S mm) {i:Nat}{af:AF}(hf:S.has i af) {M:oW}{mc:fu}(hfit:M.Fits mc) (hok:M.Ok af.np) (an:M.α->ANF) (n:Nat)
 (h:∀a,aL (M.pre a)->(wp (xN cd ms mm (an a) (fun _ _=>.ff)) n (ML i af (M.P a 0) M.t (M.l a) (M.post a) (M.v a) (M.l' a))).den):bJ S i mc:=
 Va (Q0:=fun _ _ _=>True) hfit hok hf (fun _=>n) (fun a=>xN cd ms mm (an a) (fun _ _=>.ff)) (fun a=>⟨pq hB hms,fun i af h=>hcd.look i af h,fun i con h=>by
  obtain⟨m,hm,rfl⟩:=zD.1 h;exact lD (X:=Xm ms) (by simp[Xm,hm]) (hms.look i m hm).2.1 (hms.look i m hm).2.2,fun c T L Tm H e he ht=>ht.elim,fun i mc h=>hmm.look i mc h⟩) h
end
end Go.EA
end
