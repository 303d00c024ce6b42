/- Texts. Conditions: none. -/
import Derived.Test.YtkpahammkkfphaaDoorEK7
set_option linter.unusedVariables false
set_option linter.unusedSimpArgs false
section
namespace Go.EA
section
variable (H:Heap) (fz:Nat->Prop)
inductive CL:Lf->Lf->Prop
 |same {x:Lf}:CL x x
 |nil {s:Nat}:CL (.vrow s []) .nils
 |slz {s:Nat}:CL (.vrow s []) .slz
 |sl0 {s b i:Nat}:CL (.vrow s []) (.sl b i 0)
 |frow {b i n s:Nat} {els els':List (List Lf)}:fz b->H.o b=.blk s els true->i+n<=els.length->(els.drop i).take n=els'->CL (.vrow s els') (.sl b i n)
inductive CV1:AV->AV->Prop
 |one {x y:Lf}:CL H fz x y->CV1 (.one x) (.one y)
 |agg {xs ys:List Lf}:ae (CL H fz) xs ys->CV1 (.agg xs) (.agg ys)
inductive CV:AV->AV->Prop
 |junk {v:AV}:CV junk v
 |same {v:AV}:CV v v
 |one {x y:Lf}:CL H fz x y->CV (.one x) (.one y)
 |agg {xs ys:List Lf}:ae (CL H fz) xs ys->CV (.agg xs) (.agg ys)
 |tup {xs ys:List AV}:ae (CV1 H fz) xs ys->CV (.tup xs) (.tup ys)
inductive CO:AO->AO->Prop
 |same {x:AO}:CO x x
 |dead {x:AO}:CO .dead x
 |blk {s:Nat} {els els':List (List Lf)} {o:Bool}:ae (ae (CL H fz)) els els'->CO (.blk s els o) (.blk s els' o)
end
section
variable {S:SC} {ρ:Rho} {w:World} {n:Nat} {H H1:Heap} {fz:Nat->Prop}
theorem CL.rel (hH:aJ S H ρ w) (hf:∀b,fz b->b<H.n/\∃s els,H.o b=.blk s els true/\aD els=true) {x y:Lf}{u:Value}(h:CL H fz x y) (hy:aA S ρ H.n y u):aA S (eP ρ w id fz) H.n x u:=by
 cases h with
 |same=>exact hy.mono (ρ':=eP ρ w id fz) (n':=H.n) ⟨zJ _,fun _ _=>rfl,fI hH hf id⟩
 |nil=>exact RL.rel (π:=id) (n1:=H.n) hH hf .nil hy
 |slz=>exact RL.rel (π:=id) (n1:=H.n) hH hf .slz hy
 |sl0=>exact RL.rel (π:=id) (n1:=H.n) hH hf .sl0 hy
 |frow h1 h2 h3 h4=>exact RL.rel (π:=id) (n1:=H.n) hH hf (.frow h1 h2 h3 h4) hy
theorem CV1.rel (hH:aJ S H ρ w) (hf:∀b,fz b->b<H.n/\∃s els,H.o b=.blk s els true/\aD els=true) {x y:AV}{u:Value}(h:CV1 H fz x y) (hy:ik S ρ H.n y u):ik S (eP ρ w id fz) H.n x u:=by
 cases h with
 |one h=>exact h.rel hH hf hy
 | agg h=>
   obtain⟨arr,e,hr⟩:=hy;exact⟨arr,e,h.imp hr fun _ _ _ a b=>CL.rel hH hf a b⟩
theorem CV.rel (hH:aJ S H ρ w) (hf:∀b,fz b->b<H.n/\∃s els,H.o b=.blk s els true/\aD els=true) {x y:AV}{u:Value}(h:CV H fz x y) (hy:aN S ρ H.n y u):aN S (eP ρ w id fz) H.n x u:=by
 cases h with
 |junk=>exact .inl rfl
 |same=>exact hy.mono (ρ':=eP ρ w id fz) (n':=H.n) ⟨zJ _,fun _ _=>rfl,fI hH hf id⟩
 |one h=>exact h.rel hH hf hy
 | agg h=>
   obtain⟨arr,e,hr⟩:=hy;exact⟨arr,e,h.imp hr fun _ _ _ a b=>CL.rel hH hf a b⟩
 | tup h=>
   rename_i xs ys;rcases hy with hj | ⟨arr,e,hr⟩
   .have hj':∃r,ys=[.tup r]:=by
     cases ys with
     |nil=>simp[AV.isJ] at hj
     | cons y ys=>
       cases y with
       |tup r=>cases ys with
        |nil=>exact⟨r,rfl⟩
        |cons _ _=>simp[AV.isJ] at hj
       |one _=>cases ys <;> simp[AV.isJ] at hj
       |agg _=>cases ys <;> simp[AV.isJ] at hj
    obtain⟨r,rfl⟩:=hj';cases xs with
    |nil=>have:=h.1;simp at this
    | cons x xs=>
      have:=h.2 0 x (.tup r) rfl rfl;cases this
   .exact .inr ⟨arr,e,h.imp hr fun _ _ _ a b=>CV1.rel hH hf a b⟩
theorem CO.live {x y:AO}(h:CO H fz x y) (hx:live x=true):live y=true:=by cases h <;> simp_all [EA.live]
theorem CO.own {x y:AO}(h:CO H fz x y) (hx:own x=true):own y=true:=by cases h <;> simp_all [EA.own]
theorem pX {m:Nat}{T T1:Tm}(hf:∀b,fz b->b<H.n/\∃s els,H.o b=.blk s els true/\aD els=true) (hn:H1.n=H.n) (hob:∀i,i<H.n->CO H fz (H1.o i) (H.o i)) (hfd:∀b,fz b->H1.o b=.dead) (hT1:∀k,CV H fz (T1 k) (T k)):Abs S m T H T1 H1:=by
 intro hm ρ w tmps hT hH;have kH:∀x,own x=true->live x=true:=fun x h=>by cases x <;> simp_all [own,live]
 refine⟨eP ρ w id fz,fun k v hk=>by rw[hn];exact(hT1 k).rel hH hf (hT k v hk),⟨fun i hi=>?_,fun i j hi hj hne hoi hlj=>?_,fun k ob hk=>⟨(hH.fx k ob hk).1,fun i hi hoi=>?_⟩,fun k ob hk=>?_,hH.dr⟩,
  ⟨zJ _,rfl,rfl,rfl,by omega,fun _ _=>rfl,fun k hk hn'=>⟨rfl,fun i hi hoi=>hn' i (by omega) ((hob i (by omega)).own hoi)⟩,fI hH hf id,fun k hk hn'=>?_⟩⟩
 .show kE S _ _ (ρ i) _ (w.heap[(ρ i).g]?);rw[hn];have hi:i<H.n:=by omega
  have ho:=hH.obj i hi;have hr:=hob i hi;generalize H1.o i=x at hr;generalize H.o i=y at hr ho;cases hr with
  |same=>exact ho.mono ⟨zJ _,fun _ _=>rfl,fI hH hf id⟩
  |dead=>trivial
  | blk h=>
    obtain⟨hs,C,ty,fr,h1,h2,h3⟩:=ho;refine⟨hs,C,ty,fr,h1,fun k e hk=>?_,fun hown=>?_⟩
    .obtain⟨e',he',hee⟩:=h.get hk;obtain⟨q1,q2⟩:=h2 k e' he';refine⟨hee.1.trans q1,fun j x hj=>?_⟩;obtain⟨y,hy,hxy⟩:=hee.get hj;obtain⟨v,hv,hr⟩:=q2 j y hy;exact⟨v,hv,hxy.rel hH hf hr⟩
    .rw[h.1];exact h3 hown
 .exact hH.ap i j (by omega) (by omega) hne ((hob i (by omega)).own hoi) ((hob j (by omega)).live hlj)
 .exact(hH.fx k ob hk).2 i (by omega) ((hob i (by omega)).own hoi)
 .have hk':=hk;by_cases hex:∃b,fz b/\(ρ b).g=k
  .rw[kw hex] at hk';obtain⟨b,hb,rfl⟩:=hex;obtain⟨hbn,s,els,hobb,hcl⟩:=hf b hb;have ho:=hH.obj b hbn;rw[hobb] at ho;obtain⟨hs,C,ty,fr,hC,_⟩:=ho;rw[hC] at hk';cases hk';refine⟨⟨C,ty,fr,rfl⟩,hC,fun i hi hoi=>?_⟩;refine hH.ap i b (by omega) hbn (fun e=>?_) ((hob i (by omega)).own hoi) (by rw[hobb];rfl);subst e;rw[hfd i hb] at hoi;cases hoi
  .rw[kr hex] at hk';obtain⟨h1,h2,h3⟩:=hH.fz k ob hk';exact⟨h1,h2,fun i hi hoi=>h3 i (by omega) ((hob i (by omega)).own hoi)⟩
 .refine kr ?_;rintro⟨b,hb,rfl⟩;obtain⟨hbn,s,els,hobb,hcl⟩:=hf b hb;exact hn' b hbn (by rw[hobb];rfl) rfl
end
end Go.EA
end
section
namespace Go.EA
section
variable {c c1:Cn} {L L1:List SO} {H:Heap} {T T1:ST} {Tm:Tm} {fzS:Nat->Prop}
def fzA (c:Cn) (fzS:Nat->Prop) (i:Nat):Prop:=∃b,fzS b/\c.nz b=true/\c.π b=i
open Classical in
theorem yZ {S:SC}(hH:RH c L H)
 (hπ:c1.π=c.π)
 (hfz:∀b,fzS b->∃t l,aa L b=.row t l)
 (hfd:∀b,fzS b->aa L1 b=.dead)
 (hlive:∀b,b<L1.length->az c1 (aa L1 b) b->b<L.length/\az c (aa L b) b/\∃y1,ROS c1 L1 (aa L1 b) b y1/\CO H (fzA c fzS) y1 (H.o (c.π b)))
 (hdead:∀b,b<L1.length->¬ az c1 (aa L1 b) b->∀y,ROS c1 L1 (aa L1 b) b y)
 (hT:∀k,∃av1,RVS c1 L1 (T1.getD k .junk) av1/\CV H (fzA c fzS) av1 (Tm k))
 (hns:∀b i k r,b<L1.length->Inn c1 L1 b i k r->b<L.length/\Inn c L b i k r) :
 ∃T1m H1,(∀m,Abs S m Tm H T1m H1)/\RT c1 L1 T1 T1m/\RH c1 L1 H1:=by
 have hinj:∀b,b<L1.length->az c1 (aa L1 b) b->¬ fzA c fzS (c.π b):=by
  rintro b hb hl ⟨b2,h1,h2,h3⟩;obtain⟨k1,k2,_⟩:=hlive b hb hl;obtain⟨t,l,hr⟩:=hfz b2 h1;have hb2:b2<L.length:=aI (by rw[hr];simp);have:=hH.inj b2 b hb2 k1 (by rw[hr];exact h2) k2 h3;subst this;rw[hfd b2 h1] at hl;exact hl
 have hl2:∀b,∃y1,b<L1.length->az c1 (aa L1 b) b->ROS c1 L1 (aa L1 b) b y1/\CO H (fzA c fzS) y1 (H.o (c.π b)):=fun b=>by
  by_cases h:b<L1.length/\az c1 (aa L1 b) b
  .obtain⟨_,_,y1,h1⟩:=hlive b h.1 h.2;exact⟨y1,fun _ _=>h1⟩
  .exact⟨.dead,fun h1 h2=>absurd ⟨h1,h2⟩ h⟩
 obtain⟨Y,hY⟩:∃Y:Nat->AO,∀b,b<L1.length->az c1 (aa L1 b) b->ROS c1 L1 (aa L1 b) b (Y b)/\CO H (fzA c fzS) (Y b) (H.o (c.π b)):=⟨fun b=>(hl2 b).choose,fun b=>(hl2 b).choose_spec⟩
 let o1:Nat->AO:=fun i=>if fzA c fzS i then .dead else if h:∃b,b<L1.length/\az c1 (aa L1 b) b/\c.π b=i then Y h.choose else H.o i
 refine⟨fun k=>(hT k).choose,⟨H.n,o1⟩,fun m=>pX (fz:=fzA c fzS) ?_ rfl (fun i hi=>?_) (fun i hi=>if_pos hi) (fun k=>(hT k).choose_spec.2),fun k=>(hT k).choose_spec.1,⟨fun b hb hl=>?_,fun b b' hb hb' hl hl' e=>?_,fun b hb=>?_,fun i hi=>?_,hH.ns.keep hns (zJ _) (fun b i k r hb hI=>?_) (fun b hb hl=>?_)⟩⟩
 rotate_right 3
 .show (if _ then _ else _)=_;have hi:H.n<=i:=hi;by_cases h1:fzA c fzS i
  .rw[if_pos h1]
  .rw[if_neg h1,dif_neg]
   .exact hH.hd i hi
   .rintro⟨b,k1,k2,k3⟩;obtain⟨j1,j2,_⟩:=hlive b k1 k2;have:=hH.lt b j1 j2;omega
 .show (if _ then _ else _)=_;rw[if_neg,dif_neg]
  .rintro⟨d,k1,k2,k3⟩;obtain⟨j1,j2,_⟩:=hlive d k1 k2;exact hH.ns.pi b i k r hb hI d j1 j2 k3
  .rintro⟨d,h1,h2,h3⟩;obtain⟨t,l,hr⟩:=hfz d h1;exact hH.ns.pi b i k r hb hI d (aI (by rw[hr];simp)) (by rw[hr];exact h2) h3
 .obtain⟨j1,j2,_⟩:=hlive b hb hl;exact .inr ⟨b,j1,j2,by rw[hπ]⟩
 .rintro i ⟨b,h1,h2,rfl⟩;obtain⟨t,l,hr⟩:=hfz b h1;rcases hH.rowAt hr with ⟨h0,_⟩ | ⟨_,hlt,els,k1,k2,_⟩
  .rw[h2] at h0;cases h0
  .exact⟨hlt,_,els,k1,k2⟩
 .show CO H _ (o1 i) (H.o i);by_cases hf:fzA c fzS i
  .rw[show o1 i=.dead from if_pos hf];exact .dead
  .by_cases h:∃b,b<L1.length/\az c1 (aa L1 b) b/\c.π b=i
   .have e:o1 i=Y h.choose:=by show (if _ then _ else _)=_;rw[if_neg hf,dif_pos h]
    rw[e];have:=(hY h.choose h.choose_spec.1 h.choose_spec.2.1).2;rw[h.choose_spec.2.2] at this;exact this
   .have e:o1 i=H.o i:=by show (if _ then _ else _)=_;rw[if_neg hf,dif_neg h]
    rw[e];exact .same
 .rw[hπ];obtain⟨k1,k2,_⟩:=hlive b hb hl;exact hH.lt b k1 k2
 .rw[hπ] at e;obtain⟨k1,k2,_⟩:=hlive b hb hl;obtain⟨k1',k2',_⟩:=hlive b' hb' hl';exact hH.inj b b' k1 k1' k2 k2' e
 .by_cases hl:az c1 (aa L1 b) b
  .rw[hπ];have h:∃b2,b2<L1.length/\az c1 (aa L1 b2) b2/\c.π b2=c.π b:=⟨b,hb,hl,rfl⟩;have e:o1 (c.π b)=Y h.choose:=by show (if _ then _ else _)=_;rw[if_neg (hinj b hb hl),dif_pos h]
   show ROS c1 L1 _ b (o1 (c.π b));rw[e];have hch:h.choose=b:=by
    obtain⟨k1,k2,_⟩:=hlive b hb hl;obtain⟨k1',k2',_⟩:=hlive h.choose h.choose_spec.1 h.choose_spec.2.1;exact hH.inj _ _ k1' k1 k2' k2 h.choose_spec.2.2
   rw[hch];exact(hY b hb hl).1
  .exact hdead b hb hl _
end
section
variable {c:Cn} {L L1:List SO} {H:Heap} {FZ:Nat->Prop}
theorem eZ {a b:MR'}{p:List Prop}{f:List Nat}(h:mr2 a b=some (p,f)) (hp:aK p):∃p1 f1 p2 f2,a=some (p1,f1)/\b=some (p2,f2)/\aK p1/\aK p2/\f=f1++f2:=by
 unfold mr2 at h;split at h
 .split at h
  .cases h;exact⟨_,_,_,_,rfl,rfl,hp.app.1,hp.app.2,rfl⟩
  .cases h
 .cases h
theorem dz {t:Bool}{q p:List Prop}{f:List Nat}(h:bK t q=some (p,f)):t=true/\p=q/\f=[]:=by
 unfold bK mr at h;split at h <;> cases h
 exact⟨rfl,rfl,rfl⟩
theorem vE:∀{a b:List (Nat×Nat×Nat)},qE a b=true->a=b
 |[],[],_=>rfl
 | (a,b,d)::r,(a',b',d')::r',h=>by
   simp only[qE,zH] at h;obtain⟨⟨⟨h1,h2⟩,h3⟩,h4⟩:=h;rw[zC h1,zC h2,zC h3,vE h4]
 |[],_::_,h=>by simp[qE] at h
 |_::_,[],h=>by simp[qE] at h
theorem uG {n:Nat}:∀{l:List (Nat×Nat×Nat)},yn n l=true->∀q∈l,q.1<n
 |[],_=>by simp
 | q::l,h=>by
   simp only[yn,zH] at h;intro q' hq;rcases List.mem_cons.1 hq with rfl | hq
   .exact zW h.1
   .exact uG h.2 q' hq
def cM (c:Cn) (L L1:List SO):Cn:=⟨c.π,fun b=>match dE (aa L b)&&jI (aa L1 b) with | true=>false | false=>c.nz b,c.Z,fun b i=>match bP (aa L b) with | true=>c.ν b i | false=>none⟩
theorem gQ {b:Nat}(h:aa L b≠.dead):(cM c L L1).nz b=c.nz b:=by
 show (match dE (aa L b)&&jI (aa L1 b) with | true=>false | false=>c.nz b)=_;cases ho:aa L b <;> simp_all [dE]
theorem qa {o:SO}{r:qw}(h:bS o=some r):jI o=true:=by cases o <;> simp_all [bS,jI]
theorem IZ {b:Nat}(h:jI (aa L1 b)=true->jI (aa L b)=true):(cM c L L1).nz b=c.nz b:=by
 show (match dE (aa L b)&&jI (aa L1 b) with | true=>false | false=>c.nz b)=_;cases ho:aa L b <;> cases ho1:aa L1 b <;> simp_all [dE,jI]
theorem fF {b:Nat}{t:Ty}{l:List t.den}(h:aa L b=.dead) (h1:bS (aa L1 b)=some ⟨t,l⟩):(cM c L L1).nz b=false:=by
 show (match dE (aa L b)&&jI (aa L1 b) with | true=>false | false=>c.nz b)=_;rw[h,qa h1];rfl
def lS (L L1:List SO):Prop:=∀b t l1,bS (aa L1 b)=some ⟨t,l1⟩->(∃t0 l0,bS (aa L b)=some ⟨t0,l0⟩/\l0.length=l1.length)\/(aa L b=.dead/\l1=[])
theorem yh (hH:RH c L H) (hrows:lS L L1) {x y:SL}{u:Lf}{p:List Prop}{f:List Nat}(h:mL L L1 x y=some (p,f)) (hp:aK p) (hf:∀b∈f,FZ b) (hx:RL' c L x u) :
 ∃u1,RL' (cM c L L1) L1 y u1/\CL H (fzA c FZ) u1 u:=by
 unfold mL at h;split at h
 .exact⟨u,trivial,.same⟩
 .split at h
  .rename_i hi;obtain⟨h1,rfl,rfl⟩:=dz h;have hk:=of_decide_eq_true h1;subst hk;rw[hx.int hi,hp.1];exact⟨_,rfl,.same⟩
  .cases h
 .split at h
  .rename_i hi;obtain⟨h1,rfl,rfl⟩:=dz h;have hk:=of_decide_eq_true h1;subst hk;rw[hx.int hi,hp.1];exact⟨_,rfl,.same⟩
  .cases h
 .split at h
  .rename_i hi;cases h;rw[hx.bool hi,hp.1];exact⟨_,rfl,.same⟩
  .cases h
 .split at h
  .cases h;exact⟨_,hx,.same⟩
  .split at h
   .rename_i hi;cases h;rw[hx.bool hi,hp.1];exact⟨_,rfl,.same⟩
   .cases h
 .split at h
  .cases h;exact⟨_,hx,.same⟩
  .split at h
   .rename_i hi;cases h;rw[hx.bool hi,hp.1];exact⟨_,rfl,.same⟩
   .cases h
 .split at h
  .rename_i hi;cases h;rw[hx.bool hi,hp.1];exact⟨_,rfl,.same⟩
  .cases h
 .split at h
  .rename_i hi;cases h;rw[hx.bool hi,hp.1];exact⟨_,rfl,.same⟩
  .cases h
 .split at h
  .cases h;cases hx;rw[hp.1];exact⟨_,rfl,.same⟩
  .cases h
 .
  rename_i t l';split at h
  .split at h
   .rename_i hh _;obtain⟨he⟩:=hh;subst he;cases h;have e:=hp.1;subst e;exact⟨_,hx,.same⟩
   .cases h
  .cases h;cases hx;rw[hp.1];exact⟨_,rfl,.nil⟩
  .cases h;cases hx;rw[hp.1];exact⟨_,rfl,.slz⟩
  .rename_i b;split at h
   .rename_i t0 l hb;split at h
    .rename_i hh _;obtain⟨he⟩:=hh;subst he;cases h;have e:l=l':=hp.1;subst e;refine⟨.vrow t0.size (l.map t0.enc),rfl,?_⟩;obtain⟨_,hx⟩:=hx;rcases hx t0 l (asR hb) with ⟨_,rfl,rfl | rfl⟩ | ⟨hnz,rfl⟩
     .exact .nil
     .exact .slz
     .rcases hH.rowAt hb with ⟨h0,_⟩ | ⟨_,_,els,k1,k2,k3,k4⟩
      .rw[hnz] at h0;cases h0
      .exact .frow ⟨b,hf b (by simp),hnz,rfl⟩ k1 (by omega) (by simpa using k3)
    .cases h
   .cases h
  .rename_i b i n;split at h
   .rename_i t0 l hb;split at h
    .rename_i hh _;obtain⟨he⟩:=hh;subst he;cases h;have e:(l.drop i).take n=l':=hp.1;have hin:i+n<=l.length:=hp.2.1;subst e;refine⟨.vrow t0.size (((l.drop i).take n).map t0.enc),rfl,?_⟩;obtain⟨_,rfl⟩:=hx;cases n with
     |zero=>exact .sl0
     | succ n=>
       rcases hH.rowAt hb with ⟨_,rfl⟩ | ⟨hnz,_,els,k1,k2,k3,k4⟩
       .simp at hin
       .refine .frow ⟨b,hf b (by simp),hnz,rfl⟩ k1 (by omega) ?_;rw[List.map_take,List.map_drop,<- k3,List.drop_take,List.take_take]
        congr 1;omega
    .cases h
   .cases h
  .cases h
 .
  rename_i b';split at h
  .rename_i b;obtain⟨h1,rfl,rfl⟩:=dz h;simp only[zH,Bool.or_eq_true,Bool.not_eq_true'] at h1;obtain⟨⟨e,hlt⟩,hrow⟩:=h1;have e:=zC e;subst e;obtain⟨hb,hx⟩:=hx;refine⟨u,⟨zW hlt,fun t l1 hr=>?_⟩,.same⟩;rcases hrows b t l1 hr with ⟨t0,l0,h2,h3⟩ | ⟨h2,_⟩
   .rw[gQ (by intro h;rw[h] at h2;cases h2)];rcases hx t0 l0 h2 with ⟨g1,g2,g3⟩ | ⟨g1,g2⟩
    .exact .inl ⟨g1,zT (by rw[<- h3,g2];rfl),g3⟩
    .exact .inr ⟨g1,by rw[<- h3];exact g2⟩
   .rw[qa hr,h2] at hrow;simp[jI] at hrow
  .split at h
   .rename_i t l1 hr;obtain⟨h1,rfl,rfl⟩:=dz h;simp only[zH] at h1;obtain⟨hlt,hd⟩:=h1;cases hx;have hd2:aa L b'=.dead:=by revert hd; cases aa L b' <;> simp[dE]
    refine⟨_,⟨zW hlt,fun t' l' hr'=>?_⟩,.same⟩;have hdd:=fF (c:=c) (L1:=L1) hd2 hr';rw[hr] at hr';cases hr';exact .inl ⟨hdd,hp.1,.inl rfl⟩
   .rename_i t l1 i1 s1 hr;obtain⟨h1,rfl,rfl⟩:=dz h;simp only[zH] at h1;obtain⟨hlt,hd⟩:=h1;cases hx;have hd2:aa L b'=.dead:=by revert hd; cases aa L b' <;> simp[dE]
    refine⟨_,⟨zW hlt,fun t' l' hr'=>?_⟩,.same⟩;have hdd:=fF (c:=c) (L1:=L1) hd2 hr';rw[hr] at hr';cases hr';exact .inl ⟨hdd,hp.1,.inl rfl⟩
   .rename_i t u1 l1 i1 hr;obtain⟨h1,rfl,rfl⟩:=dz h;simp only[zH] at h1;obtain⟨hlt,hd⟩:=h1;cases hx;have hd2:aa L b'=.dead:=by revert hd; cases aa L b' <;> simp[dE]
    refine⟨_,⟨zW hlt,fun t' l' hr'=>?_⟩,.same⟩;have hdd:=fF (c:=c) (L1:=L1) hd2 hr';rw[hr] at hr';cases hr';exact .inl ⟨hdd,hp.1,.inl rfl⟩
   .cases h
  .split at h
   .rename_i t l1 hr;obtain⟨h1,rfl,rfl⟩:=dz h;simp only[zH] at h1;obtain⟨hlt,hd⟩:=h1;cases hx;have hd2:aa L b'=.dead:=by revert hd; cases aa L b' <;> simp[dE]
    refine⟨_,⟨zW hlt,fun t' l' hr'=>?_⟩,.same⟩;have hdd:=fF (c:=c) (L1:=L1) hd2 hr';rw[hr] at hr';cases hr';exact .inl ⟨hdd,hp.1,.inr rfl⟩
   .rename_i t l1 i1 s1 hr;obtain⟨h1,rfl,rfl⟩:=dz h;simp only[zH] at h1;obtain⟨hlt,hd⟩:=h1;cases hx;have hd2:aa L b'=.dead:=by revert hd; cases aa L b' <;> simp[dE]
    refine⟨_,⟨zW hlt,fun t' l' hr'=>?_⟩,.same⟩;have hdd:=fF (c:=c) (L1:=L1) hd2 hr';rw[hr] at hr';cases hr';exact .inl ⟨hdd,hp.1,.inr rfl⟩
   .rename_i t u1 l1 i1 hr;obtain⟨h1,rfl,rfl⟩:=dz h;simp only[zH] at h1;obtain⟨hlt,hd⟩:=h1;cases hx;have hd2:aa L b'=.dead:=by revert hd; cases aa L b' <;> simp[dE]
    refine⟨_,⟨zW hlt,fun t' l' hr'=>?_⟩,.same⟩;have hdd:=fF (c:=c) (L1:=L1) hd2 hr';rw[hr] at hr';cases hr';exact .inl ⟨hdd,hp.1,.inr rfl⟩
   .cases h
  .cases h
 .cases h
 .cases h
 .split at h
  .obtain⟨h1,rfl,rfl⟩:=dz h;simp only[zH] at h1;obtain⟨e,hlt⟩:=h1;have e:=zC e;subst e;obtain⟨e1,e2,_⟩:=hp;subst e1 e2;exact⟨u,⟨zW hlt,hx.2⟩,.same⟩
  .rename_i b;split at h
   .rename_i t l hb;obtain⟨h1,rfl,rfl⟩:=dz h;simp only[zH] at h1;obtain⟨e,hlt⟩:=h1;have e:=zC e;subst e;obtain⟨e1,e2,e3,_⟩:=hp;subst e2 e3;rcases hx.2 t l (asR hb) with ⟨_,h0,_⟩ | ⟨_,h0⟩
    .exact absurd h0 e1
    .exact⟨u,⟨zW hlt,h0⟩,.same⟩
   .cases h
  .cases h
 .split at h
  .obtain⟨h1,rfl,rfl⟩:=dz h;simp only[zH] at h1;obtain⟨⟨e,e2⟩,hlt⟩:=h1;have e:=zC e;have e2:=zC e2;subst e e2;refine⟨u,⟨zW hlt,?_⟩,.same⟩;rw[hx.2];split at hp
   .rfl
   .rw[hp.1];rfl
  .cases h
 .split at h
  .split at h
   .rename_i hh _;obtain⟨he⟩:=hh;subst he;obtain⟨h1,rfl,rfl⟩:=dz h;have h1:=zC h1;subst h1;obtain⟨e,_⟩:=hp;subst e;exact⟨_,hx,.same⟩
   .cases h
  .cases h
 .split at h
  .obtain⟨h1,rfl,rfl⟩:=dz h;simp only[zH] at h1;obtain⟨⟨e,e2⟩,hlt⟩:=h1;have e:=zC e;have e2:=vE e2;subst e e2;exact⟨u,⟨uG hlt,hx.2⟩,.same⟩
  .cases h
 .split at h
  .obtain⟨h1,rfl,rfl⟩:=dz h;simp only[zH] at h1;obtain⟨e,hlt⟩:=h1;have e:=zC e;subst e;exact⟨u,⟨zW hlt,hx.2⟩,.same⟩
  .cases h
 .split at h
  .obtain⟨h1,rfl,rfl⟩:=dz h;simp only[zH] at h1;obtain⟨e,hlt⟩:=h1;have e:=zC e;subst e;exact⟨u,⟨zW hlt,hx.2⟩,.same⟩
  .cases h
 all_goals
  split at h
  .cases h;exact⟨_,hx,.same⟩
  .cases h
theorem rH (hH:RH c L H) (hrows:lS L L1):∀{x y:List SL}{u:List Lf}{p:List Prop}{f:List Nat},mLs L L1 x y=some (p,f)->aK p->(∀b∈f,FZ b)->ae (RL' c L) x u->∃u1,ae (RL' (cM c L L1) L1) y u1/\ae (CL H (fzA c FZ)) u1 u
 |[],[],u,p,f,h,hp,hf,hx=>by rw[hx.nil_inv];exact⟨[],ae.nil,ae.nil⟩
 | x::xs,y::ys,u,p,f,h,hp,hf,hx=>by
   obtain⟨p1,f1,p2,f2,h1,h2,hp1,hp2,rfl⟩:=eZ h hp;obtain⟨w,u,rfl,g1,g2⟩:=hx.cons_inv;obtain⟨w1,k1,k2⟩:=yh hH hrows h1 hp1 (fun b hb=>hf b (by simp[hb])) g1;obtain⟨u1,k3,k4⟩:=rH hH hrows h2 hp2 (fun b hb=>hf b (by simp[hb])) g2;exact⟨w1::u1,ae.cons k1 k3,ae.cons k2 k4⟩
 |[],_::_,u,p,f,h,hp,hf,hx=>by simp[mLs] at h
 |_::_,[],u,p,f,h,hp,hf,hx=>by simp[mLs] at h
theorem xe (hH:RH c L H) (hrows:lS L L1):∀{x y:List S1}{u:List AV}{p:List Prop}{f:List Nat},mS1 L L1 x y=some (p,f)->aK p->(∀b∈f,FZ b)->ae (RS1 c L) x u->∃u1,ae (RS1 (cM c L L1) L1) y u1/\ae (CV1 H (fzA c FZ)) u1 u
 |[],[],u,p,f,h,hp,hf,hx=>by rw[hx.nil_inv];exact⟨[],ae.nil,ae.nil⟩
 | .o x::xs,.o y::ys,u,p,f,h,hp,hf,hx=>by
   obtain⟨p1,f1,p2,f2,h1,h2,hp1,hp2,rfl⟩:=eZ h hp;obtain⟨w,u,rfl,g1,g2⟩:=hx.cons_inv;obtain⟨z,rfl,g1⟩:=g1;obtain⟨w1,k1,k2⟩:=yh hH hrows h1 hp1 (fun b hb=>hf b (by simp[hb])) g1;obtain⟨u1,k3,k4⟩:=xe hH hrows h2 hp2 (fun b hb=>hf b (by simp[hb])) g2;exact⟨.one w1::u1,ae.cons ⟨w1,rfl,k1⟩ k3,ae.cons (.one k2) k4⟩
 | .a x::xs,.a y::ys,u,p,f,h,hp,hf,hx=>by
   obtain⟨p1,f1,p2,f2,h1,h2,hp1,hp2,rfl⟩:=eZ h hp;obtain⟨w,u,rfl,g1,g2⟩:=hx.cons_inv;obtain⟨z,rfl,g1⟩:=g1;obtain⟨w1,k1,k2⟩:=rH hH hrows h1 hp1 (fun b hb=>hf b (by simp[hb])) g1;obtain⟨u1,k3,k4⟩:=xe hH hrows h2 hp2 (fun b hb=>hf b (by simp[hb])) g2;exact⟨.agg w1::u1,ae.cons ⟨w1,rfl,k1⟩ k3,ae.cons (.agg k2) k4⟩
 |[],_::_,u,p,f,h,hp,hf,hx=>by simp[mS1] at h
 |.o _::_,[],u,p,f,h,hp,hf,hx=>by simp[mS1] at h
 |.a _::_,[],u,p,f,h,hp,hf,hx=>by simp[mS1] at h
 |.o _::_,.a _::_,u,p,f,h,hp,hf,hx=>by simp[mS1] at h
 |.a _::_,.o _::_,u,p,f,h,hp,hf,hx=>by simp[mS1] at h
theorem IC (hH:RH c L H) (hrows:lS L L1) {x y:SV}{u:AV}{p:List Prop}{f:List Nat}(h:mV L L1 x y=some (p,f)) (hp:aK p) (hf:∀b∈f,FZ b) (hx:RVS c L x u):∃u1,RVS (cM c L L1) L1 y u1/\CV H (fzA c FZ) u1 u:=by
 unfold mV at h;split at h
 .exact⟨u,trivial,.same⟩
 .split at h
  .obtain⟨z,rfl,hx⟩:=hx;obtain⟨w1,k1,k2⟩:=yh hH hrows h hp hf hx;exact⟨_,⟨w1,rfl,k1⟩,.one k2⟩
  .cases h
 .split at h
  .obtain⟨z,rfl,hx⟩:=hx;obtain⟨w1,k1,k2⟩:=rH hH hrows h hp hf hx;exact⟨_,⟨w1,rfl,k1⟩,.agg k2⟩
  .cases h
 .split at h
  .obtain⟨z,rfl,hx⟩:=hx;obtain⟨w1,k1,k2⟩:=xe hH hrows h hp hf hx;exact⟨_,⟨w1,rfl,k1⟩,.tup k2⟩
  .cases h
 .cases h
theorem wJ (hH:RH c L H) (hrows:lS L L1):∀{T T1:ST}{Tm:Tm}{p:List Prop}{f:List Nat},mTs L L1 T T1=some (p,f)->aK p->(∀b∈f,FZ b)->RT c L T Tm->∀k,∃av1,RVS (cM c L L1) L1 (T1.getD k .junk) av1/\CV H (fzA c FZ) av1 (Tm k)
 |T,[],Tm,p,f,h,hp,hf,hT,k=>⟨Tm k,trivial,.same⟩
 | [],y::T1,Tm,p,f,h,hp,hf,hT,k=>by
   obtain⟨p1,f1,p2,f2,h1,h2,hp1,hp2,rfl⟩:=eZ h hp;cases k with
   |zero=>exact IC hH hrows h1 hp1 (fun b hb=>hf b (by simp[hb])) (hT 0)
   |succ k=>exact wJ hH hrows (T:=[]) (Tm:=fun k=>Tm (k+1)) h2 hp2 (fun b hb=>hf b (by simp[hb])) (fun k=>trivial) k
 | x::T,y::T1,Tm,p,f,h,hp,hf,hT,k=>by
   obtain⟨p1,f1,p2,f2,h1,h2,hp1,hp2,rfl⟩:=eZ h hp;cases k with
   |zero=>exact IC hH hrows h1 hp1 (fun b hb=>hf b (by simp[hb])) (hT 0)
   |succ k=>exact wJ hH hrows (Tm:=fun k=>Tm (k+1)) h2 hp2 (fun b hb=>hf b (by simp[hb])) (fun k=>hT (k+1)) k
theorem rZ:∀{X Y:List SO}{p:List Prop}{f:List Nat},mOs L L1 X Y=some (p,f)->aK p->∀b,b<Y.length->∃p' f',mO L L1 (aa X b) (aa Y b)=some (p',f')/\aK p'/\∀q∈f',q∈f
 |X,[],p,f,h,hp,b,hb=>by simp at hb
 | [],y::Y,p,f,h,hp,b,hb=>by
   obtain⟨p1,f1,p2,f2,h1,h2,hp1,hp2,rfl⟩:=eZ h hp;cases b with
   |zero=>exact⟨p1,f1,h1,hp1,fun q hq=>by simp[hq]⟩
   | succ b=>
     obtain⟨p',f',k1,k2,k3⟩:=rZ (X:=[]) h2 hp2 b (by simpa using hb);exact⟨p',f',k1,k2,fun q hq=>by simp[k3 q hq]⟩
 | x::X,y::Y,p,f,h,hp,b,hb=>by
   obtain⟨p1,f1,p2,f2,h1,h2,hp1,hp2,rfl⟩:=eZ h hp;cases b with
   |zero=>exact⟨p1,f1,h1,hp1,fun q hq=>by simp[hq]⟩
   | succ b=>
     obtain⟨p',f',k1,k2,k3⟩:=rZ h2 hp2 b (by simpa using hb);exact⟨p',f',k1,k2,fun q hq=>by simp[k3 q hq]⟩
end
end Go.EA
end
section
namespace Go.EA
section
variable {c:Cn} {L L1:List SO} {H:Heap} {T T1:ST} {Tm:Tm} {fr:List Fr}
theorem yJ:∀{f:List Nat},Hr L L1 f=true->∀b∈f,(∃t l,aa L b=.row t l)/\aa L1 b=.dead
 |[],_=>by simp
 | b::f,h=>by
   simp only[Hr,zH] at h;intro b' hb';rcases List.mem_cons.1 hb' with rfl | hb'
   .refine⟨?_,?_⟩
    .cases ho:aa L b' <;> simp_all [isRow]
    .cases ho:aa L1 b' <;> simp_all [dE]
   .exact yJ h.2 b' hb'
theorem lF:∀{n:Nat},FO fr L L1 n=true->∀b,b<n->bV b fr=true->b<L1.length/\(jI (aa L1 b)=true->jI (aa L b)=true)/\(bP (aa L b)=true->bP (aa L1 b)=true)
 |0,_=>by intro b hb;omega
 | n+1,h=>by
   simp only[FO,zH,Bool.or_eq_true,Bool.not_eq_true'] at h;intro b hb hm;by_cases e:b=n
   .subst e;rcases h.1 with h1 | ⟨⟨h1,h2⟩,h3⟩
    .rw[hm] at h1;cases h1
    .refine⟨zW h1,fun hr=>?_,fun hr=>?_⟩
     .rcases h2 with h2 | h2
      .rw[hr] at h2;cases h2
      .exact h2
     .rcases h3 with h3 | h3
      .rw[hr] at h3;cases h3
      .exact h3
   .exact lF h.2 b (by omega) hm
theorem yx:∀{x y:List SL}{p:List Prop}{f:List Nat},mLs L L1 x y=some (p,f)->aK p->x.length=y.length
 |[],[],_,_,_,_=>rfl
 | x::xs,y::ys,p,f,h,hp=>by
   obtain⟨p1,f1,p2,f2,h1,h2,hp1,hp2,rfl⟩:=eZ h hp;simp[yx h2 hp2]
 |[],_::_,_,_,h,_=>by simp[mLs] at h
 |_::_,[],_,_,h,_=>by simp[mLs] at h
theorem Bh {FZ:Nat->Prop}(hH:RH c L H) {t:Ty}{s:SL}{m:List t.den}{f:List Nat}{u:Lf}(h:rR L t s=some (m,f)) (hf:∀q∈f,FZ q) (hu:RL' c L s u):∃u1,u1=.vrow t.size (m.map t.enc)/\CL H (fzA c FZ) u1 u:=by
 refine⟨_,rfl,?_⟩;unfold rR at h;split at h
 .split at h
  .rename_i hh _;obtain⟨he⟩:=hh;subst he;cases h;cases hu;exact .same
  .cases h
 .rename_i k;split at h
  .rename_i t' m' hk;split at h
   .rename_i hh _;obtain⟨he⟩:=hh;subst he;cases h;rw[eX];rcases hu.2 t' m' (asR hk) with ⟨_,rfl,rfl | rfl⟩ | ⟨hnz,rfl⟩
    .exact .nil
    .exact .slz
    .rcases hH.rowAt hk with ⟨h0,_⟩ | ⟨_,_,els,k1,k2,k3,k4⟩
     .rw[hnz] at h0;cases h0
     .exact .frow ⟨k,hf k (by simp),hnz,rfl⟩ k1 (by omega) (by simpa using k3)
   .cases h
  .cases h
 .cases h;cases hu;exact .nil
 .cases h;cases hu;exact .slz
 .cases h
theorem tZ {n:Nat}{t:Ty}{l:List t.den}{p:List Prop}{f:List Nat}(h:xZ n t l=some (p,f)) (hp:aK p):l.length=n/\t.size=1/\∃z,l.map t.enc=List.replicate n [.vrow z []]:=by
 cases t with
 | row t=>
   simp only[xZ,mr] at h;cases h;have e:l=List.replicate n []:=hp.1;subst e;exact⟨by simp,rfl,t.size,by rw[List.map_replicate];rfl⟩
 |_=>cases h
theorem wH {els:List (List Lf)}{i:Nat}{x y:List Lf}(h:aD (els.set i x)=true) (hy:y.all Lf.closed=true):aD (els.set i y)=true:=by
 rw[<- List.set_set (a:=x)];rw[aD,List.all_eq_true] at h ⊢;intro q hq;rcases List.mem_or_eq_of_mem_set hq with hq | rfl
 .exact h q hq
 .exact hy
theorem oL {F:Nat->Prop}{els:List (List Lf)}{i:Nat}{u x:Lf}(h:els[i]?=some [x]) (hc:CL H F u x):ae (ae (CL H F)) (els.set i [u]) els:=by
 refine⟨by simp,fun j a b hja hjb=>?_⟩;by_cases e:j=i
 .subst e;rw[List.getElem?_set_self (zI.1 h).1] at hja;rw[h] at hjb;cases hja;cases hjb;exact ae.cons hc ae.nil
 .rw[List.getElem?_set_ne (Ne.symm e),hjb] at hja;cases hja;exact⟨rfl,fun q x y hx hy=>by rw[hx] at hy;cases hy;exact .same⟩
theorem Cm {S:SC}{p:List Prop}(hT:RT c L T Tm) (hH:RH c L H) (h:mS T L T1 L1 fr=some p) (hp:aK p) :
 ∃T1m H1,(∀m,Abs S m Tm H T1m H1)/\RT (cM c L L1) L1 T1 T1m/\RH (cM c L L1) L1 H1/\au c L (cM c L L1) L1 fun b=>bV b fr=false:=by
 unfold mS at h;split at h
 .rename_i p0 fz hm;split at h
  .rename_i hok;cases h;simp only[zH] at hok;obtain⟨hz,hfr⟩:=hok;obtain⟨p1,f1,p2,f2,h1,h2,hp1,hp2,rfl⟩:=eZ hm hp;have hz:=yJ hz;have hob:=rZ h2 hp2;have hrow1:∀b t l1,aa L1 b=.row t l1->aa L b=.row t l1\/(aa L b=.dead/\l1=[])\/(∃t' l i s m f,∃h:t=.row t',aa L b=.rowh t' l i s/\rR L t' s=some (m,f)/\l.set i m=dn h l1/\∀q∈f,q∈f1++f2)\/(∃n p' f',aa L b=.nilr n/\xZ n t l1=some (p',f')/\aK p'):=by
    intro b t l1 hr;have hb:b<L1.length:=aI (by rw[hr];simp);obtain⟨p',f',k1,k2,k3⟩:=hob b hb;rw[hr] at k1;simp only[mO] at k1;split at k1
    .rename_i t0 l0 ho;split at k1
     .rename_i hh _;obtain⟨he⟩:=hh;subst he;cases k1;have e:l0=l1:=k2.1;subst e;exact .inl ho
     .cases k1
    .rename_i ho;cases k1;exact .inr (.inl ⟨ho,k2.1⟩)
    .rename_i t0 l0 i0 s0 ho;split at k1
     .rename_i hh _;obtain⟨he⟩:=hh;split at k1
      .rename_i m f hcl;cases k1;exact .inr (.inr (.inl ⟨t0,l0,i0,s0,m,_,he,ho,hcl,k2.1,fun q hq=>by have:=k3 q hq;simp[this]⟩))
      .cases k1
     .cases k1
    .rename_i n ho;exact .inr (.inr (.inr ⟨n,p',f',ho,k1,k2⟩))
    .cases k1
   have hrow2:∀b t l1 i1 x1,aa L1 b=.rowh t l1 i1 x1->(aa L b=.dead/\l1=[])\/(∃s p' f',aa L b=.rowh t l1 i1 s/\mL L L1 s x1=some (p',f')/\aK p'/\∀q∈f',q∈f1++f2):=by
    intro b t l1 i1 x1 hr;have hb:b<L1.length:=aI (by rw[hr];simp);obtain⟨p',f',k1,k2,k3⟩:=hob b hb;rw[hr] at k1;simp only[mO] at k1;split at k1
    .rename_i t0 l0 i0 s0 ho;split at k1
     .rename_i hh _;obtain⟨he⟩:=hh;subst he;obtain⟨q1,g1,q2,g2,e1,e2,hq1,hq2,rfl⟩:=eZ k1 k2;cases e1;have e:l0=l1:=hq1.1;have e':i0=i1:=hq1.2.1;subst e e';exact .inr ⟨s0,q2,g2,ho,e2,hq2,fun q hq=>by have:=k3 q (by simp[hq]);simp[this]⟩
     .cases k1
    .rename_i ho;cases k1;exact .inl ⟨ho,k2.1⟩
    .cases k1
   have hrow3:∀b n,b<L1.length->aa L1 b≠.nilr n:=by
    intro b n hb hr;obtain⟨p',f',k1,k2,k3⟩:=hob b hb;rw[hr] at k1;cases k1
   have hrow4:∀b u us,b<L1.length->aa L1 b≠.nrow u us:=by
    intro b u us hb hr;obtain⟨p',f',k1,k2,k3⟩:=hob b hb;rw[hr] at k1;cases k1
   have hrow6:∀b cs,b<L1.length->aa L1 b≠.raw cs:=by
    intro b cs hb hr;obtain⟨p',f',k1,k2,k3⟩:=hob b hb;rw[hr] at k1;cases k1
   have hrow5:∀b t1 u1 l1 h1,aa L1 b=.nest t1 u1 l1 h1->aa L b=.nest t1 u1 l1 h1\/(∃us,aa L b=.nrow u1 us/\h1=none/\l1=us.map fun x=>([],x))\/(aa L b=.dead/\l1=[]/\h1=none):=by
    intro b t1 u1 l1 h1 hr;have hb:b<L1.length:=aI (by rw[hr];simp);obtain⟨p',f',k1,k2,k3⟩:=hob b hb;rw[hr] at k1;simp only[mO] at k1;split at k1
    .rename_i t u l h ho;split at k1
     .rename_i hh _;obtain⟨he⟩:=hh;cases he;split at k1
      .cases k1;have e:l=l1:=k2.1;subst e;exact .inl ho
      .cases k1;have e:l=l1:=k2.1;subst e;have e:=k2.2.1;subst e;exact .inl ho
      .cases k1
     .cases k1
    .rename_i u us ho;split at k1
     .rename_i hh _;obtain⟨he⟩:=hh;subst he;cases k1;exact .inr (.inl ⟨us,ho,rfl,k2.1.symm⟩)
     .cases k1
    .rename_i ho;split at k1
     .cases k1;exact .inr (.inr ⟨ho,k2.1,rfl⟩)
     .cases k1
    .cases k1
   have hrows:lS L L1:=by
    intro b t l1 hr;have hb:b<L1.length:=aI (by intro h;rw[h] at hr;cases hr);cases ho1:aa L1 b with
    | row t1 r1=>
      rw[ho1] at hr;cases hr;rcases hrow1 b t l1 ho1 with h | h | ⟨t',l,i,s,m,f,he,ho,_,hl,_⟩ | ⟨n,p',f',ho,hn,hp'⟩
      .exact .inl ⟨_,_,asR h,rfl⟩
      .exact .inr h
      .refine .inl ⟨.row t',l,by rw[ho];rfl,?_⟩;have:=congrArg List.length hl;rw[AA,List.length_set] at this;exact this
      .refine .inl ⟨.row .bool,List.replicate n [],by rw[ho];rfl,?_⟩;rw[(tZ hn hp').1,List.length_replicate]
    | rowh t1 r1 i1 x1=>
      rw[ho1] at hr;cases hr;rcases hrow2 b t1 _ i1 x1 ho1 with h | ⟨s,p',f',ho,_⟩
      .exact .inr h
      .exact .inl ⟨_,_,by rw[ho];rfl,rfl⟩
    |nilr n=>exact absurd ho1 (hrow3 b n hb)
    |nrow u us=>exact absurd ho1 (hrow4 b u us hb)
    |raw cs=>exact absurd ho1 (hrow6 b cs hb)
    | nest t1 u1 r1 h1=>
      rw[ho1] at hr;cases hr;rcases hrow5 b t1 u1 _ h1 ho1 with h | ⟨us,h,_,h2⟩ | ⟨h,h2,_⟩
      .exact .inl ⟨_,_,by rw[h];rfl,rfl⟩
      .exact .inl ⟨u1,us,by rw[h];rfl,by rw[h2,zR]⟩
      .exact .inr ⟨h,h2⟩
    |dead=>rw[ho1] at hr;cases hr
    |cell cs=>rw[ho1] at hr;cases hr
    |siter _ _=>rw[ho1] at hr;cases hr
    |bld _=>rw[ho1] at hr;cases hr
    |map0=>rw[ho1] at hr;cases hr
    |mapo _ _ _=>rw[ho1] at hr;cases hr
    |loop _ _=>rw[ho1] at hr;cases hr
   have hcell:∀b cs1,b<L1.length->aa L1 b=.cell cs1->∃cs ls ls1,aa L b=.cell cs/\H.o (c.π b)=.blk cs.length [ls] true/\cs.length=cs1.length/\ae (RL' (cM c L L1) L1) cs1 ls1/\ae (CL H (fzA c (·∈f1++f2))) ls1 ls:=by
    intro b cs1 hb hr;obtain⟨p',f',k1,k2,k3⟩:=hob b hb;rw[hr] at k1;simp only[mO] at k1;split at k1
    ·rename_i cs ho;have hbL:b<L.length:=aI (by rw[ho];simp);have:=hH.ob b hbL;rw[ho] at this;obtain⟨ls,e1,e2⟩:=this;obtain⟨ls1,g1,g2⟩:=rH (FZ:=(·∈f1++f2)) hH hrows k1 k2 (fun q hq=>by simp[k3 q hq]) e2;exact⟨cs,ls,ls1,ho,e1,yx k1 k2,g1,g2⟩
    .cases k1
   have hbld:∀b s1,b<L1.length->aa L1 b=.bld s1->aa L b=.bld s1/\(cM c L L1).ν b=c.ν b:=by
    intro b s1 hb hr;obtain⟨p',f',k1,k2,k3⟩:=hob b hb;rw[hr] at k1;simp only[mO] at k1;split at k1
    .rename_i s ho;cases k1;obtain⟨rfl,_⟩:=k2;refine⟨ho,funext fun i=>?_⟩;show (match bP (aa L b) with | true=>c.ν b i | false=>none)=_;rw[ho];rfl
    .cases k1
   have hlive:∀b,b<L1.length->az (cM c L L1) (aa L1 b) b->b<L.length/\az c (aa L b) b/\∃y1,ROS (cM c L L1) L1 (aa L1 b) b y1/\CO H (fzA c (·∈f1++f2)) y1 (H.o (c.π b)):=by
    intro b hb hl
    .cases hr:aa L1 b with
     |dead=>rw[hr] at hl;exact hl.elim
     | row t l1=>
       rw[hr] at hl;have hl:(cM c L L1).nz b=true:=hl;rcases hrow1 b t l1 hr with h3 | ⟨h3,_⟩ | ⟨t',l,i,s,m,f,he,ho,hcl,hel,hfq⟩ | ⟨n,p',f',ho,hn,hp'⟩
       .rw[gQ (by rw[h3];simp)] at hl;have hbL:b<L.length:=aI (by rw[h3];simp);refine⟨hbL,by rw[h3];exact hl,_,?_,.same⟩;have:=hH.ob b hbL;rw[h3] at this;simp only[ROS] at this ⊢;rw[gQ (by rw[h3];simp)];exact this
       .rw[fF h3 (asR hr)] at hl;cases hl
       .subst he;have hnz:(cM c L L1).nz b=c.nz b:=gQ (by rw[ho];simp);have hl':(cM c L L1).nz b=true:=hl;have hl:(cM c L L1).nz b=true:=hl;rw[hnz] at hl;have hbL:b<L.length:=aI (by rw[ho];simp);rcases hH.rowhAt ho with ⟨h0,_⟩ | ⟨_,_,els,k1,k2⟩
        .rw[h0] at hl;cases hl
        ·obtain⟨x,e1,e2,_⟩:=k2.at k2.1;obtain⟨u1,hu1,hcu⟩:=Bh (FZ:=(·∈f1++f2)) hH hcl hfq (e2 rfl);obtain⟨_,x0,_,q2,q3⟩:=k2;refine⟨hbL,by rw[ho];exact hl,.blk 1 (els.set i [u1]) true,.inr ⟨hl',_,rfl,wH q2 (by rw[hu1];rfl),?_⟩,?_⟩
         .have hel:l.set i m=l1:=hel;rw[<- hel,List.length_set,List.take_set,q3,List.set_set,List.map_set,hu1];rfl
         .rw[k1];exact .blk (oL e1 hcu)
       .have hnz:(cM c L L1).nz b=c.nz b:=gQ (by rw[ho];simp);have hbL:b<L.length:=aI (by rw[ho];simp);have hob2:=hH.ob b hbL;rw[ho] at hob2;obtain⟨n1,n2,z,n3⟩:=tZ hn hp';refine⟨hbL,by rw[ho];trivial,.blk 1 (List.replicate n [.vrow z []]) true,.inr ⟨hl,_,by rw[n2],?_,?_⟩,?_⟩
        .rw[<- n3];exact bA t l1
        .rw[<- n3,n1,<- n1,<- zR (f:=t.enc),List.take_length]
        .rw[hob2.2];refine .blk ⟨by simp,fun j a b hja hjb=>?_⟩;rw[List.getElem?_replicate] at hja hjb;split at hja
         .rename_i hj;rw[if_pos hj] at hjb;cases hja;cases hjb;exact ae.cons .nil ae.nil
         .cases hja
     | rowh t l1 i1 x1=>
       rw[hr] at hl;have hl:(cM c L L1).nz b=true:=hl;rcases hrow2 b t l1 i1 x1 hr with ⟨h3,_⟩ | ⟨s,p',f',ho,hm2,hp',hfq⟩
       .rw[fF (t:=.row t) (l:=l1) h3 (by rw[hr];rfl)] at hl;cases hl
       .have hnz:(cM c L L1).nz b=c.nz b:=gQ (by rw[ho];simp);have hl':=hl;rw[hnz] at hl;have hbL:b<L.length:=aI (by rw[ho];simp);rcases hH.rowhAt ho with ⟨h0,_⟩ | ⟨_,_,els,k1,k2⟩
        .rw[h0] at hl;cases hl
        ·obtain⟨x,e1,e2,_⟩:=k2.at k2.1;obtain⟨u1,hu1,hcu⟩:=yh (FZ:=(·∈f1++f2)) hH hrows hm2 hp' hfq (e2 rfl);obtain⟨hlt1,x0,_,q2,q3⟩:=k2;refine⟨hbL,by rw[ho];exact hl,.blk 1 (els.set i1 [u1]) true,.inr ⟨hl',_,rfl,hlt1,u1,hu1,by rw[List.set_set];exact q2,?_⟩,?_⟩
         .rw[List.take_set,q3,List.set_set]
         .rw[k1];exact .blk (oL e1 hcu)
     |nilr n=>exact absurd hr (hrow3 b n hb)
     |nrow u us=>exact absurd hr (hrow4 b u us hb)
     |raw cs=>exact absurd hr (hrow6 b cs hb)
     | nest t1 u1 l1 h1=>
       rw[hr] at hl;have hl:(cM c L L1).nz b=true:=hl;rcases hrow5 b t1 u1 l1 h1 hr with h | ⟨us,h,h2,h3⟩ | ⟨h,_⟩
       .have hbL:b<L.length:=aI (by rw[h];simp);have hnz:(cM c L L1).nz b=c.nz b:=gQ (by rw[h];simp);have hν:(cM c L L1).ν b=c.ν b:=by
         funext i
         show (match bP (aa L b) with | true=>c.ν b i | false=>none)=_;rw[h];rfl
        have:=hH.ob b hbL;rw[h] at this;refine⟨hbL,by rw[h];show c.nz b=true;rw[<- hnz];exact hl,_,?_,.same⟩;simp only[ROS] at this ⊢;rw[hnz,hν];exact this
       .have hbL:b<L.length:=aI (by rw[h];simp);have:=hH.ob b hbL;rw[h] at this;subst h2 h3;refine⟨hbL,by rw[h];trivial,_,.inr ⟨hl,_,this.2,by simp,fun i e he=>?_⟩,.same⟩;rw[List.getElem?_map,zD] at he;obtain⟨y0,g1,rfl⟩:=he;refine⟨.nils,by rw[List.getElem?_map,g1];rfl,fun _=>?_⟩;show InS (match bP (aa L b) with | true=>c.ν b i | false=>none) _ _;rw[h];exact⟨rfl,.inl rfl⟩
       .rw[fF (t:=.pair (.row t1) u1) (l:=l1) h (by rw[hr];rfl)] at hl;cases hl
     | cell cs1=>
       obtain⟨cs,ls,ls1,e1,e2,e3,e4,e5⟩:=hcell b cs1 hb hr;refine⟨aI (by rw[e1];simp),by rw[e1];trivial,.blk cs1.length [ls1] true,⟨ls1,rfl,e4⟩,?_⟩;rw[e2,e3];exact .blk (ae.cons e5 ae.nil)
     | map0=>
       obtain⟨p',f',k1,k2,k3⟩:=hob b hb;rw[hr] at k1;simp only[mO] at k1;split at k1
       .rename_i ho;have hbL:b<L.length:=aI (by rw[ho];simp);have:=hH.ob b hbL;rw[ho] at this;exact⟨hbL,by rw[ho];trivial,_,this,.same⟩
       .cases k1
     | mapo kt1 vt1 es1=>
       obtain⟨p',f',k1,k2,k3⟩:=hob b hb;rw[hr] at k1;simp only[mO] at k1;split at k1
       .rename_i ho;obtain⟨kq,hpq,_⟩:=dz k1;subst hpq;rw[zH] at kq;have e:es1=[]:=k2.1;subst e;have hbL:b<L.length:=aI (by rw[ho];simp);have:=hH.ob b hbL;rw[ho] at this;exact⟨hbL,by rw[ho];trivial,_,⟨kq.1,kq.2,this⟩,.same⟩
       .rename_i kt vt es ho;split at k1
        .rename_i hh hh' _ _;obtain⟨he⟩:=hh;obtain⟨he'⟩:=hh';subst he he';cases k1;have e:es=es1:=k2.1;subst e;have hbL:b<L.length:=aI (by rw[ho];simp);have:=hH.ob b hbL;rw[ho] at this;exact⟨hbL,by rw[ho];trivial,_,this,.same⟩
        .cases k1
       .cases k1
     | bld s1=>
       obtain⟨ho,hν⟩:=hbld b s1 hb hr;have hbL:b<L.length:=aI (by rw[ho];simp);have:=hH.ob b hbL;rw[ho] at this;refine⟨hbL,by rw[ho];trivial,_,?_,.same⟩;simp only[ROS] at this ⊢;rw[hν];exact this
     | siter s1 q1=>
       obtain⟨p',f',k1,k2,k3⟩:=hob b hb;rw[hr] at k1;simp only[mO] at k1;split at k1
       .rename_i s q ho;cases k1;obtain⟨rfl,rfl,_⟩:=k2;have hbL:b<L.length:=aI (by rw[ho];simp);have:=hH.ob b hbL;rw[ho] at this;exact⟨hbL,by rw[ho];trivial,_,this,.same⟩
       .cases k1
     | loop st1 pd1=>
       obtain⟨p',f',k1,k2,k3⟩:=hob b hb;rw[hr] at k1;simp only[mO] at k1;split at k1
       .rename_i st pd ho;obtain⟨k1,_,_⟩:=dz k1;simp only[zH] at k1;obtain⟨q1,q2⟩:=k1;have q1:=of_decide_eq_true q1;have q2:=of_decide_eq_true q2;subst q1 q2;have hbL:b<L.length:=aI (by rw[ho];simp);have:=hH.ob b hbL;rw[ho] at this;exact⟨hbL,by rw[ho];trivial,_,this,.same⟩
       .cases k1
   have hdead:∀b,b<L1.length->¬ az (cM c L L1) (aa L1 b) b->∀y,ROS (cM c L L1) L1 (aa L1 b) b y:=by
    intro b hb hl y
    .cases hr:aa L1 b with
     |dead=>trivial
     | row t l1=>
       rw[hr] at hl;refine .inl ⟨by cases hn:(cM c L L1).nz b;rfl;exact absurd hn hl,?_⟩;rcases hrow1 b t l1 hr with h3 | ⟨_,h3⟩ | ⟨t',l,i,s,m,f,he,ho,hcl,hel,hfq⟩ | ⟨n,p',f',ho,hn,hp'⟩
       .rcases hH.rowAt h3 with ⟨_,h4⟩ | ⟨h4,_⟩
        .exact h4
        .exact absurd (by show (cM c L L1).nz b=true;rw[gQ (by rw[h3];simp)];exact h4) hl
       .exact h3
       .subst he;rcases hH.rowhAt ho with ⟨_,h4⟩ | ⟨h4,_⟩
        .have hel:l.set i m=l1:=hel;rw[<- hel,h4];rfl
        .exact absurd (by show (cM c L L1).nz b=true;rw[gQ (by rw[ho];simp)];exact h4) hl
       .have hob2:=hH.ob b (aI (by rw[ho];simp));rw[ho] at hob2;exact absurd (by show (cM c L L1).nz b=true;rw[gQ (by rw[ho];simp)];exact hob2.1) hl
     | rowh t l1 i1 x1=>
       rw[hr] at hl;refine .inl ⟨by cases hn:(cM c L L1).nz b;rfl;exact absurd hn hl,?_⟩;rcases hrow2 b t l1 i1 x1 hr with ⟨_,h3⟩ | ⟨s,p',f',ho,_⟩
       .exact h3
       .rcases hH.rowhAt ho with ⟨_,h4⟩ | ⟨h4,_⟩
        .exact h4
        .exact absurd (by show (cM c L L1).nz b=true;rw[gQ (by rw[ho];simp)];exact h4) hl
     |nilr n=>exact absurd hr (hrow3 b n hb)
     |nrow u us=>exact absurd hr (hrow4 b u us hb)
     |raw cs=>exact absurd hr (hrow6 b cs hb)
     | nest t1 u1 l1 h1=>
       rw[hr] at hl;refine .inl ⟨by cases hn:(cM c L L1).nz b;rfl;exact absurd hn hl,?_⟩;rcases hrow5 b t1 u1 l1 h1 hr with h | ⟨us,h,h2,h3⟩ | ⟨h,h2,_⟩
       .have:=hH.ob b (aI (by rw[h];simp));rw[h] at this;rcases this with ⟨_,h4⟩ | ⟨h4,_⟩
        .exact h4
        .exact absurd (by show (cM c L L1).nz b=true;rw[gQ (by rw[h];simp)];exact h4) hl
       .have:=hH.ob b (aI (by rw[h];simp));rw[h] at this;exact absurd (by show (cM c L L1).nz b=true;rw[gQ (by rw[h];simp)];exact this.1) hl
       .exact h2
     |cell cs1=>rw[hr] at hl;exact absurd trivial hl
     |siter s1 q1=>rw[hr] at hl;exact absurd trivial hl
     |bld s1=>rw[hr] at hl;exact absurd trivial hl
     |map0=>rw[hr] at hl;exact absurd trivial hl
     |mapo _ _ _=>rw[hr] at hl;exact absurd trivial hl
     |loop st1 pd1=>rw[hr] at hl;exact absurd trivial hl
   obtain⟨T1m,H1,g1,g2,g3⟩:=yZ (S:=S) (c1:=cM c L L1) (L1:=L1) (T1:=T1) (fzS:=(·∈f1++f2)) hH rfl (fun b hb=>(hz b hb).1) (fun b hb=>(hz b hb).2) hlive hdead (wJ hH hrows h1 hp1 (fun b hb=>by simp[hb]) hT) (fun b i k r hb hI=>by
    obtain⟨rt,rl⟩:=r;obtain⟨u,l,q,g1,g2,g3,y0,g4⟩:=hI;have g3:(match bP (aa L b) with | true=>c.ν b i | false=>none)=some k:=g3;cases g0:aa L1 b with
    | nest t1 u1 l1 h1=>
      rw[g0] at g1;cases g1;rcases hrow5 b _ _ _ _ g0 with h | ⟨us,h,_,_⟩ | ⟨h,_,_⟩
      .rw[h] at g3;exact⟨aI (by rw[h];simp),_,_,_,nv h,g2,g3,y0,g4⟩
      .rw[h] at g3;cases g3
      .rw[h] at g3;cases g3
    | bld s1=>
      obtain⟨ho,_⟩:=hbld b s1 hb g0;rw[ho] at g3;exact⟨aI (by rw[ho];simp),u,l,q,by rw[ho,<- g0];exact g1,g2,g3,y0,g4⟩
    |_=>rw[g0] at g1;cases g1)
   .refine⟨T1m,H1,g1,g2,g3,⟨fun b hb hi=>?_,fun b hb hi=>rfl,fun b hb hi=>?_,fun b hb=>rfl,fun b hb hi t' l' hr=>?_,fun b hb hi _=>?_⟩⟩
    .exact(lF hfr b hb (by simpa using hi)).1
    .exact IZ (lF hfr b hb (by simpa using hi)).2.1
    .rcases hrows b t' l' hr with ⟨t0,l0,h3,h4⟩ | ⟨h3,_⟩
     .exact⟨t0,l0,h3,h4⟩
     .have:=(lF hfr b hb (by simpa using hi)).2.1 (qa hr);rw[h3] at this;cases this
    .cases hn:bP (aa L b) with
     |false=>exact BX hn
     | true=>
       have h3:=(lF hfr b hb (by simpa using hi)).2.2 hn;have h4:aa L1 b=aa L b:=by
        cases h5:aa L1 b with
        | nest t1 u1 l1 h1=>
          rcases hrow5 b t1 u1 l1 h1 h5 with h | ⟨us,h,_⟩ | ⟨h,_⟩
          .exact h.symm
          .rw[h] at hn;cases hn
          .rw[h] at hn;cases hn
        |bld s1=>exact(hbld b s1 (aI (by rw[h5];simp)) h5).1.symm
        |_=>rw[h5] at h3;cases h3
       refine lT h4 (funext fun i=>?_);show (match bP (aa L b) with | true=>c.ν b i | false=>none)=_;rw[hn]
  .cases h
 .cases h
theorem lQ {S:SC}{b:Nat}(hT:RT c L T Tm) (hH:RH c L H) (h:frz b T L fr=some (T1,L1)) :
 ∃T1m H1,(∀m,Abs S m Tm H T1m H1)/\RT c L1 T1 T1m/\RH c L1 H1/\au c L c L1 fun b=>bV b fr=false:=by
 unfold frz at h;split at h
 case h_2=>cases h
 rename_i t l hb;split at h
 .cases h
 rename_i hfr;cases h;have hlt:b<L.length:=aI (by rw[hb];simp);have g0:aa ((L.map (fzO b t l)).set b .dead) b=.dead:=by
  unfold aa;rw[zA,List.getElem?_set_self (by simpa using hlt)];rfl
 have g1:∀d,d≠b->aa ((L.map (fzO b t l)).set b .dead) d=fzO b t l (aa L d):=fun d hd=>by
  rw[ak hd,bU rfl]
 have grow:∀d t' l',bS (aa ((L.map (fzO b t l)).set b .dead) d)=some ⟨t',l'⟩->d≠b/\bS (aa L d)=some ⟨t',l'⟩:=fun d t' l' hr=>by
  by_cases e:d=b
  .subst e;rw[g0] at hr;cases hr
  .rw[g1 d e] at hr;refine⟨e,?_⟩;cases ho:aa L d <;> rw[ho] at hr <;> exact hr
 have K:au c L c ((L.map (fzO b t l)).set b .dead) (·=b):=⟨fun d hd _=>by simpa using hd,fun _ _ _=>rfl,fun _ _ _=>rfl,fun _ _=>rfl,fun d hd _ t' l' hr=>⟨t',l',(grow d t' l' hr).2,rfl⟩,fun d hd h _=>by
  have e:∀{t0 u0 l0},aa L d=.nest t0 u0 l0 none->aa ((L.map (fzO b t l)).set b .dead) d=.nest t0 u0 l0 none:=fun g=>by rw[g1 d h,g];rfl
  exact⟨fun i x ⟨t,u,l,g,q⟩=>⟨t,u,l,e g,q⟩,fun i k ⟨t,u,l,g,q⟩=>⟨t,u,l,e g,q⟩⟩⟩
 have leaf:∀{x:SL} {u:Lf},RL' c L x u->∃u1,RL' c ((L.map (fzO b t l)).set b .dead) (fzL b t l x) u1/\CL H (fzA c (·=b)) u1 u:=by
  intro x u hx;have other:∃u1,RL' c ((L.map (fzO b t l)).set b .dead) (jL b x) u1/\CL H (fzA c (·=b)) u1 u:=⟨u,K.jl hx,.same⟩;cases x
  case osl d=>
   simp only[fzL];split
   .rename_i e;have e:=zC e;subst e;refine⟨_,rfl,?_⟩;rcases hx.2 t l (asR hb) with ⟨_,rfl,rfl | rfl⟩ | ⟨hnz,rfl⟩
    .exact .nil
    .exact .slz
    .rcases hH.rowAt hb with ⟨h0,_⟩ | ⟨_,_,els,k1,k2,k3,k4⟩
     .rw[hnz] at h0;cases h0
     .exact .frow ⟨d,rfl,hnz,rfl⟩ k1 (by omega) (by simpa using k3)
   .rename_i e;exact⟨u,K.rl (fun d' hd'=>by rw[hd'];exact e) hx,.same⟩
  all_goals exact other
 have leafs:∀{x:List SL} {u:List Lf},ae (RL' c L) x u->∃u1,ae (RL' c ((L.map (fzO b t l)).set b .dead)) (x.map (fzL b t l)) u1/\ae (CL H (fzA c (·=b))) u1 u:=by
  intro x
  induction x with
  |nil=>intro u hx;rw[hx.nil_inv];exact⟨[],ae.nil,ae.nil⟩
  | cons x xs ih=>
    intro u hx;obtain⟨w,u,rfl,q1,q2⟩:=hx.cons_inv;obtain⟨w1,k1,k2⟩:=leaf q1;obtain⟨u1,k3,k4⟩:=ih q2;exact⟨w1::u1,ae.cons k1 k3,ae.cons k2 k4⟩
 have s1s:∀{x:List S1} {u:List AV},ae (RS1 c L) x u->∃u1,ae (RS1 c ((L.map (fzO b t l)).set b .dead)) (x.map fun x=>match x with | .o x=>.o (fzL b t l x) | .a cs=>.a (cs.map (fzL b t l))) u1/\ae (CV1 H (fzA c (·=b))) u1 u:=by
  intro x
  induction x with
  |nil=>intro u hx;rw[hx.nil_inv];exact⟨[],ae.nil,ae.nil⟩
  | cons x xs ih=>
    intro u hx;obtain⟨w,u,rfl,q1,q2⟩:=hx.cons_inv;obtain⟨u1,k3,k4⟩:=ih q2;cases x with
    | o x=>
      obtain⟨z,rfl,q1⟩:=q1;obtain⟨w1,k1,k2⟩:=leaf q1;exact⟨.one w1::u1,ae.cons ⟨w1,rfl,k1⟩ k3,ae.cons (.one k2) k4⟩
    | a x=>
      obtain⟨z,rfl,q1⟩:=q1;obtain⟨w1,k1,k2⟩:=leafs q1;exact⟨.agg w1::u1,ae.cons ⟨w1,rfl,k1⟩ k3,ae.cons (.agg k2) k4⟩
 have hlive:∀d,d<((L.map (fzO b t l)).set b .dead).length->az c (aa ((L.map (fzO b t l)).set b .dead) d) d->d<L.length/\az c (aa L d) d/\∃y1,ROS c ((L.map (fzO b t l)).set b .dead) (aa ((L.map (fzO b t l)).set b .dead) d) d y1/\CO H (fzA c (·=b)) y1 (H.o (c.π d)):=by
  intro d hd hl
  .by_cases e:d=b
   .subst e;rw[g0] at hl;exact hl.elim
   .rw[g1 d e] at hl ⊢;have hdL:d<L.length:=by simpa using hd
    cases ho:aa L d with
    |dead=>rw[ho] at hl;exact hl.elim
    | row t' l'=>
      rw[ho] at hl;have:=hH.ob d hdL;rw[ho] at this;exact⟨hdL,hl,_,this,.same⟩
    | rowh t' l' i s=>
      rw[ho] at hl;have:=hH.ob d hdL;rw[ho] at this;rcases this with ⟨h0,_⟩ | ⟨hnz,els,k1,k2⟩
      .exact absurd hl (by show ¬ c.nz d=true;rw[h0];simp)
      .obtain⟨x,e1,e2,_⟩:=k2.at k2.1;obtain⟨u1,hu1,hcu⟩:=leaf (e2 rfl);obtain⟨hlt1,x0,_,q2,q3⟩:=k2;refine⟨hdL,hl,.blk 1 (els.set i [u1]) true,.inr ⟨hnz,_,rfl,hlt1,u1,hu1,by rw[List.set_set];exact q2,?_⟩,?_⟩
       .rw[List.take_set,q3,List.set_set]
       .rw[k1];exact .blk (oL e1 hcu)
    | nilr n=>
      have:=hH.ob d hdL;rw[ho] at this;exact⟨hdL,trivial,_,this,.same⟩
    | nrow u us=>
      have:=hH.ob d hdL;rw[ho] at this;exact⟨hdL,trivial,_,this,.same⟩
    | raw cs=>
      have:=hH.ob d hdL;rw[ho] at this;obtain⟨h1,h2,ls,h3,h4⟩:=this;exact⟨hdL,trivial,_,⟨h1,h2,ls,h3,jm h2 h4⟩,.same⟩
    | nest t0 u0 l0 i0=>
      rw[ho] at hl;have:=hH.ob d hdL;rw[ho] at this;exact⟨hdL,hl,_,this,.same⟩
    | cell cs=>
      have:=hH.ob d hdL;rw[ho] at this;obtain⟨ls,e1,e2⟩:=this;obtain⟨ls1,k1,k2⟩:=leafs e2;refine⟨hdL,trivial,.blk cs.length [ls1] true,⟨ls1,by simp[fzO],k1⟩,?_⟩;rw[e1];exact .blk (ae.cons k2 ae.nil)
    | siter s q=>
      have:=hH.ob d hdL;rw[ho] at this;exact⟨hdL,trivial,_,this,.same⟩
    | bld s=>
      have:=hH.ob d hdL;rw[ho] at this;exact⟨hdL,trivial,_,this,.same⟩
    | map0=>
      have:=hH.ob d hdL;rw[ho] at this;exact⟨hdL,trivial,_,this,.same⟩
    | mapo _ _ _=>
      have:=hH.ob d hdL;rw[ho] at this;exact⟨hdL,trivial,_,this,.same⟩
    | loop st pd=>
      have:=hH.ob d hdL;rw[ho] at this;exact⟨hdL,trivial,_,this,.same⟩
 have hdead:∀d,d<((L.map (fzO b t l)).set b .dead).length->¬ az c (aa ((L.map (fzO b t l)).set b .dead) d) d->∀y,ROS c ((L.map (fzO b t l)).set b .dead) (aa ((L.map (fzO b t l)).set b .dead) d) d y:=by
  intro d hd hl y
  .by_cases e:d=b
   .subst e;rw[g0];trivial
   .rw[g1 d e] at hl ⊢;have hdL:d<L.length:=by simpa using hd
    cases ho:aa L d with
    |dead=>trivial
    | row t' l'=>
      rw[ho] at hl;rcases hH.rowAt ho with h4 | ⟨h4,_⟩
      .exact .inl h4
      .exact absurd h4 hl
    | rowh t' l' i s=>
      rw[ho] at hl;rcases hH.rowhAt ho with h4 | ⟨h4,_⟩
      .exact .inl h4
      .exact absurd h4 hl
    |nilr n=>rw[ho] at hl;exact absurd trivial hl
    |nrow _ _=>rw[ho] at hl;exact absurd trivial hl
    |raw _=>rw[ho] at hl;exact absurd trivial hl
    | nest t0 u0 l0 i0=>
      rw[ho] at hl;have:=hH.ob d hdL;rw[ho] at this;rcases this with h4 | ⟨h4,_⟩
      .exact .inl h4
      .exact absurd h4 hl
    |cell cs=>rw[ho] at hl;exact absurd trivial hl
    |siter s q=>rw[ho] at hl;exact absurd trivial hl
    |bld s=>rw[ho] at hl;exact absurd trivial hl
    |map0=>rw[ho] at hl;exact absurd trivial hl
    |mapo _ _ _=>rw[ho] at hl;exact absurd trivial hl
    |loop st pd=>rw[ho] at hl;exact absurd trivial hl
 have htm:∀k,∃av1,RVS c ((L.map (fzO b t l)).set b .dead) ((T.map (fzV b t l)).getD k .junk) av1/\CV H (fzA c (·=b)) av1 (Tm k):=by
  intro k
  .have hk:=hT k;have e:(T.map (fzV b t l)).getD k .junk=fzV b t l (T.getD k .junk):=by
    rw[zA,List.getElem?_map,zA];cases T[k]? <;> rfl
   rw[e];cases hv:T.getD k .junk with
   | one x=>
     rw[hv] at hk;obtain⟨z,hz,hk⟩:=hk;rw[hz];obtain⟨w1,k1,k2⟩:=leaf hk;exact⟨_,⟨w1,rfl,k1⟩,.one k2⟩
   | agg x=>
     rw[hv] at hk;obtain⟨z,hz,hk⟩:=hk;rw[hz];obtain⟨w1,k1,k2⟩:=leafs hk;exact⟨_,⟨w1,rfl,k1⟩,.agg k2⟩
   | tup x=>
     rw[hv] at hk;obtain⟨z,hz,hk⟩:=hk;rw[hz];obtain⟨w1,k1,k2⟩:=s1s hk;exact⟨_,⟨w1,rfl,k1⟩,.tup k2⟩
   |junk=>exact⟨_,trivial,.same⟩
   |ite _ _ _ _=>rw[hv] at hk;exact hk.elim
 obtain⟨T1m,H1,q1,q2,q3⟩:=yZ (S:=S) (c1:=c) (L1:=(L.map (fzO b t l)).set b .dead) (T1:=T.map (fzV b t l)) (fzS:=(·=b)) (Tm:=Tm) hH rfl (fun d hd=>⟨t,l,by rw[hd];exact hb⟩) (fun d hd=>by rw[hd];exact g0) hlive hdead htm (fun d i k r hd hI=>by
  refine⟨by simpa using hd,?_⟩;obtain⟨u,l',q,h1,h2,h3,y0,h4⟩:=hI;by_cases e:d=b
  .subst e;rw[g0] at h1;cases h1
  .rw[g1 d e] at h1;refine⟨u,l',q,?_,h2,h3,y0,h4⟩;cases hg:aa L d <;> rw[hg] at h1 <;> first | exact h1 | cases h1)
 exact⟨T1m,H1,q1,q2,q3,K.any fun d hd=>by rw[hd];exact hfr⟩
open Classical in
theorem wP {S:SC}{b:Nat}{t u:Ty}{l:List (List t.den×u.den)}(hT:RT c L T Tm) (hH:RH c L H) (hb:aa L b=.nest t u l none) :
 ∃H1,(∀m,Abs S m Tm H Tm H1)/\RT c ((L.set b (.row (.pair (.row t) u) l)).map (jO (b+1000000))) (T.map (jV (b+1000000))) Tm/\RH c ((L.set b (.row (.pair (.row t) u) l)).map (jO (b+1000000))) H1/\au c L c ((L.set b (.row (.pair (.row t) u) l)).map (jO (b+1000000))) (·=b+1000000):=by
 have hlt:=kV hb;have g0:aa ((L.set b (.row (.pair (.row t) u) l)).map (jO (b+1000000))) b=.row (.pair (.row t) u) l:=by rw[bU rfl,aM hlt];rfl
 have g1:∀d,d≠b->aa ((L.set b (.row (.pair (.row t) u) l)).map (jO (b+1000000))) d=jO (b+1000000) (aa L d):=fun d hd=>by rw[bU rfl,ak hd]
 have hlen:∀d,d<((L.set b (.row (.pair (.row t) u) l)).map (jO (b+1000000))).length->d<L.length:=fun d hd=>by simpa using hd
 have K:au c L c ((L.set b (.row (.pair (.row t) u) l)).map (jO (b+1000000))) (·=b+1000000):=by
  refine⟨fun d hd _=>by simpa using hd,fun _ _ _=>rfl,fun _ _ _=>rfl,fun _ _=>rfl,fun d hd _ t' l' h=>?_,fun d hd _ h2=>?_⟩
  .by_cases e:d=b
   .subst e;rw[g0] at h;cases h;exact⟨.pair (.row t) u,l,by rw[hb];rfl,rfl⟩
   .rw[g1 d e,Fb] at h;exact⟨t',l',h,rfl⟩
  .have e:d≠b:=fun e=>h2 (by rw[e])
   refine⟨fun i x ⟨t',u',l',h1,h3⟩=>⟨t',u',l',?_,h3⟩,fun i k ⟨t',u',l',h1,h3⟩=>⟨t',u',l',?_,h3⟩⟩ <;> (rw[g1 d e,h1]; rfl)
 let fz:Nat->Prop:=fun i=>∃j r,Inn c L b j i r
 let H1:Heap:=⟨H.n,fun i=>if fz i then .dead else if c.nz b=true/\i=c.π b then .blk (1+u.size) (l.map (Ty.pair (.row t) u).enc) true else H.o i⟩
 have hfo:∀d,d<L.length->az c (aa L d) d->¬ fz (c.π d):=fun d hd hl ⟨j,r,hI⟩=>hH.ns.pi b j _ r hlt hI d hd hl rfl
 have ob:∀d,d<L.length->d≠b->az c (aa L d) d->H1.o (c.π d)=H.o (c.π d):=fun d hd hdb hl=>by
  show (if _ then _ else _)=_;rw[if_neg (hfo d hd hl),if_neg];rintro⟨hnz,e⟩;exact hdb (hH.inj d b hd hlt hl (by rw[hb];exact hnz) e)
 have h0:=hH.ob b hlt;rw[hb] at h0;refine⟨H1,fun m=>pX (fz:=fz) (fun i ⟨j,r,hI⟩=>?_) rfl (fun i hi=>?_) (fun i hi=>if_pos hi) (fun k=>.same),K.jt hT,⟨fun d hd hl=>?_,fun d d' hd hd' hl hl' e=>?_,fun d hd=>?_,fun i hi=>?_,hH.ns.keep2 (fun d i k r hd hI=>?_) (zJ _) (fun d hd hl=>?_)⟩,K⟩
 .obtain⟨k1,els,k2,k3,_⟩:=hH.ns.ob b j i r hlt hI;exact⟨k1,_,els,k2,k3⟩
 .show CO H fz (if _ then _ else _) (H.o i);by_cases hf:fz i
  .rw[if_pos hf];exact .dead
  .rw[if_neg hf];split
   .rename_i hq;obtain⟨hnz,rfl⟩:=hq;rcases h0 with ⟨h0,_⟩ | ⟨_,els,k1,k2,k3⟩
    .rw[hnz] at h0;cases h0
    .rw[k1];refine .blk ⟨by simp[k2],fun j e e' hj hj'=>?_⟩;rw[List.getElem?_map,zD] at hj;obtain⟨⟨r,y0⟩,hj,rfl⟩:=hj;obtain⟨x,q1,q2⟩:=k3 j _ hj;rw[q1] at hj';cases hj';have q2:=q2 (by simp);show ae (CL H fz) (Lf.vrow t.size (r.map t.enc)::u.enc y0) (x::u.enc y0);refine ae.cons ?_ ⟨rfl,fun i x y hx hy=>by rw[hx] at hy;cases hy;exact .same⟩;cases hk:c.ν b j with
     | none=>
       rw[hk] at q2;obtain⟨hr0,hzn⟩:=q2;have hr0:r=[]:=zT hr0;subst hr0;rcases hzn with rfl | rfl
       .exact .nil
       .exact .slz
     | some k=>
       rw[hk] at q2;have q2:x=.sl k 0 r.length:=q2;subst q2;obtain⟨els',p1,p2,p3,p4⟩:=hH.ownRow hb hj hk;exact .frow ⟨j,⟨t,r⟩,⟨u,l,none,nv hb,by simp,hk,y0,hj⟩⟩ p1 (by omega) (by rw[List.drop_zero];exact p3)
   .exact .same
 .have hdL:=hlen d hd;by_cases e:d=b
  .subst e;rw[g0] at hl;exact hH.lt d hdL (by rw[hb];exact hl)
  .rw[g1 d e] at hl;exact hH.lt d hdL (bJ rfl hl)
 .have lv:∀x,az c (aa ((L.set b (.row (.pair (.row t) u) l)).map (jO (b+1000000))) x) x->az c (aa L x) x:=fun x h=>by
   by_cases e:x=b
   .subst e;rw[g0] at h;rw[hb];exact h
   .rw[g1 x e] at h;exact bJ rfl h
  exact hH.inj d d' (hlen d hd) (hlen d' hd') (lv d hl) (lv d' hl') e
 .have hdL:=hlen d hd;by_cases e:d=b
  .subst e;rw[g0];cases hnz:c.nz d with
   | false=>
     rcases h0 with ⟨_,h0⟩ | ⟨h0,_⟩
     .exact .inl ⟨hnz,h0⟩
     .rw[hnz] at h0;cases h0
   | true=>
     refine .inr ⟨hnz,l.map (Ty.pair (.row t) u).enc,?_,bA (.pair (.row t) u) l,by rw[<- zR (f:=(Ty.pair (.row t) u).enc),List.take_length]⟩;show (if _ then _ else _)=_;rw[if_neg (hfo d hdL (by rw[hb];exact hnz)),if_pos ⟨hnz,rfl⟩]
     rfl
  .rw[g1 d e];have hk:=K.joO (d:=b+1000000) hdL rfl rfl (hH.ob d hdL);by_cases hl:az c (aa L d) d
   .rw[ob d hdL e hl];exact hk
   .exact dY (fun h=>hl (bJ rfl h)) hk
 .show (if _ then _ else _)=_;have hi:H.n<=i:=hi;rw[if_neg,if_neg]
  .exact hH.hd i hi
  .rintro⟨hnz,rfl⟩;have:=hH.lt b hlt (by rw[hb];exact hnz);omega
  .rintro⟨j,r,hI⟩;have:=(hH.ns.ob b j i r hlt hI).1;omega
 .have hdL:=hlen d hd;refine⟨hdL,?_⟩;by_cases e:d=b
  .subst e;exact(eT (by rw[g0];rfl) hI).elim
  .have hI':Inn c L d i k r:=lH (g1 d e) rfl hI;refine⟨hI',?_⟩;show (if _ then _ else _)=_;rw[if_neg,if_neg]
   .rintro⟨hnz,e2⟩;exact hH.ns.pi d i k r hdL hI' b hlt (by rw[hb];exact hnz) e2.symm
   .rintro⟨j,r',hI2⟩;exact e (hH.ns.inj d i k r b j r' hdL hlt hI' hI2).1
 .have hdL:=hlen d hd;refine .inr ⟨d,hdL,?_,rfl⟩;by_cases e:d=b
  .subst e;rw[g0] at hl;rw[hb];exact hl
  .rw[g1 d e] at hl;exact bJ rfl hl
theorem jW:∀(t:Ty) {cs r:List SL}{ys:List Lf}{x:t.den}{fz:Nat->Prop},t.parseN cs=some (x,r)->ae (RL' c L) cs ys->∃zs ws,ys=ws++zs/\ae (CL H fz) (t.enc x) ws/\ae (RL' c L) r zs
 |.row t,[],r,ys,x,fz,h,hr=>by simp[Ty.parseN,Ty.parse] at h
 | .row t,e::cs,r,ys,x,fz,h,hr=>by
   simp only[Ty.parseN] at h;obtain⟨y,ys,rfl,h1,h2⟩:=hr.cons_inv;split at h
   .split at h
    .rename_i hh _;obtain⟨he⟩:=hh;subst he;cases h;exact⟨ys,[y],rfl,ae.cons (by cases h1;exact .same) ae.nil,h2⟩
    .cases h
   .cases h;cases h1;exact⟨ys,[_],rfl,ae.cons .nil ae.nil,h2⟩
   .cases h;cases h1;exact⟨ys,[_],rfl,ae.cons .slz ae.nil,h2⟩
   .cases h
 | .pair a b,cs,r,ys,x,fz,h,hr=>by
   simp only[Ty.parseN] at h;split at h
   .rename_i x1 r1 h1;split at h
    .rename_i y1 r2 h2;cases h;obtain⟨zs,ws,rfl,g1,g2⟩:=jW a h1 hr;obtain⟨zs',ws',rfl,g3,g4⟩:=jW b h2 g2;exact⟨zs',ws++ws',by rw[zO],g1.append g3,g4⟩
    .cases h
   .cases h
 |.int k,cs,r,ys,x,fz,h,hr=>base (.int k) (by cases cs <;> exact h) hr
 |.bool,cs,r,ys,x,fz,h,hr=>base .bool (by cases cs <;> exact h) hr
 |.str,cs,r,ys,x,fz,h,hr=>base .str (by cases cs <;> exact h) hr
where
 base (t:Ty) {cs r:List SL} {ys:List Lf} {x:t.den} {fz:Nat->Prop} (h:t.parse cs=some (x,r)) (hr:ae (RL' c L) cs ys):∃zs ws,ys=ws++zs/\ae (CL H fz) (t.enc x) ws/\ae (RL' c L) r zs:=by
  obtain⟨zs,rfl,h2⟩:=Ty.parse_rel t h hr;exact⟨zs,_,rfl,⟨rfl,fun i x y hx hy=>by rw[hx] at hy;cases hy;exact .same⟩,h2⟩
theorem Bv {S:SC}{b:Nat}{t:Ty}{cs:List SL}{e:t.den}(hT:RT c L T Tm) (hH:RH c L H) (hb:aa L b=.raw cs) (hp:t.parseN cs=some (e,[])) :
 ∃H1,(∀m,Abs S m Tm H Tm H1)/\RH c (L.set b (.row t [e])) H1/\au c L c (L.set b (.row t [e])) fun _=>False:=by
 have hlt:b<L.length:=aI (by rw[hb];simp);have hob:=hH.ob b hlt;rw[hb] at hob;obtain⟨hnz,hcl,ls,h1,h2⟩:=hob;obtain⟨zs,ws,hw,g1,g2⟩:=jW (fz:=fun _=>False) (H:=H) t hp h2;have hz:=g2.nil_inv;subst hz;rw[List.append_nil] at hw;subst hw;have hsz:cs.length=t.size:=by rw[h2.1,<- g1.1,Ty.enc_len]
 have K:au c L c (L.set b (.row t [e])) fun _=>False:=au.set (by rw[hb];rfl) fun t' l' h=>by cases h;exact⟨.row .bool,[[]],by rw[hb];rfl,rfl⟩
 refine⟨H.set (c.π b) (.blk t.size [t.enc e] true),fun m=>pX (fz:=fun _=>False) (fun _ h=>h.elim) rfl (fun i hi=>?_) (fun _ h=>h.elim) (fun _=>.same),?_,K⟩
 .show CO H _ (EA.put H.o (c.π b) _ i) _;by_cases e2:i=c.π b
  .subst e2;rw[put_eq,h1,hsz];exact .blk (ae.cons g1 ae.nil)
  .rw[aO _ _ e2];exact .same
 .exact hH.set hlt (by rw[hb];trivial) (fun t' l' h=>by cases h;exact⟨.row .bool,[[]],by rw[hb];rfl,rfl⟩) (fun _=>.inr ⟨hnz,_,rfl,bA t [e],rfl⟩) (fun h=>absurd hnz h) (by rw[hb];rfl) rfl
theorem Ha {S:SC}{b:Nat}(hT:RT c L T Tm) (hH:RH c L H) (h:Kb b T L fr=some (T1,L1)) :
 ∃T1m H1,(∀m,Abs S m Tm H T1m H1)/\RT c L1 T1 T1m/\RH c L1 H1/\au c L c L1 fun b=>bV b fr=false:=by
 unfold Kb at h;split at h
 .rename_i t u l hb;split at h
  .rename_i hf;cases h;obtain⟨H1,a1,a2,a3,a4⟩:=wP (S:=S) hT hH hb;exact⟨Tm,H1,a1,a2,a3,a4.any fun d hd=>by rw[hd];exact hf⟩
  .cases h
 .exact lQ hT hH h
theorem IR (b b':Nat) (v:SV):mvV b b' v=jV b (jV b' v)\/(v=.one (.osl b)/\mvV b b' v=.one (.osl b')):=by
 unfold mvV;split
 .split
  .rename_i e;rw[zC e];exact .inr ⟨rfl,rfl⟩
  .exact .inl rfl
 .exact .inl rfl
theorem IQ {b b':Nat}(hT:RT c L T Tm) (hH:RH c L H) (h:mvT b b' T L fr=some (T1,L1)) :
 ∃c',RT c' L1 T1 Tm/\RH c' L1 H/\au c L c' L1 (fun d=>bV d fr=false)/\L1.length=L.length:=by
 unfold mvT at h;split at h
 case h_2=>cases h
 rename_i t l hb;split at h
 .cases h
 rename_i hc;cases h;simp only[Bool.or_eq_false_iff,Bool.not_eq_false'] at hc;obtain⟨⟨⟨c1,c2⟩,c3⟩,c4⟩:=hc;have hne:b≠b':=fun e=>by rw[e,Nat.beq_refl] at c1;cases c1
 have hb'l:b'<L.length:=zW c2;have hbl:b<L.length:=aI (by rw[hb];simp)
 let c':Cn:=⟨fun i=>if i=b' then c.π b else c.π i,fun i=>if i=b' then c.nz b else c.nz i,c.Z,c.ν⟩
 have p0:c'.π b'=c.π b:=if_pos rfl;have n0:c'.nz b'=c.nz b:=if_pos rfl;have p1:∀d,d≠b'->c'.π d=c.π d:=fun d hd=>if_neg hd
 have n1:∀d,d≠b'->c'.nz d=c.nz d:=fun d hd=>if_neg hd
 have K1:au c L c' ((L.set b' (.row t l)).map (jO b')) (·=b'):=au.app c c' p1 n1 rfl (fun _ _=>rfl);have hl1:((L.set b' (.row t l)).map (jO b')).length=L.length:=by simp
 have K2:au c' ((L.set b' (.row t l)).map (jO b')) c' ((((L.set b' (.row t l)).map (jO b')).set b .dead).map (jO b)) (·=b):=au.app c' c' (fun _ _=>rfl) (fun _ _=>rfl) rfl (fun _ _=>rfl);have g1:∀d,d≠b'->aa ((L.set b' (.row t l)).map (jO b')) d=jO b' (aa L d):=fun d hd=>bX hd
 have g1':aa ((L.set b' (.row t l)).map (jO b')) b'=.row t l:=bO hb'l;have g2:∀d,d≠b->aa ((((L.set b' (.row t l)).map (jO b')).set b .dead).map (jO b)) d=jO b (aa ((L.set b' (.row t l)).map (jO b')) d):=fun d hd=>bX hd
 have g2':aa ((((L.set b' (.row t l)).map (jO b')).set b .dead).map (jO b)) b=.dead:=bO (by rw[hl1];exact hbl);have gb:aa ((((L.set b' (.row t l)).map (jO b')).set b .dead).map (jO b)) b'=.row t l:=by rw[g2 b' (Ne.symm hne),g1'];rfl
 have val:∀{v:SV} {a:AV},RVS c L v a->RVS c' ((((L.set b' (.row t l)).map (jO b')).set b .dead).map (jO b)) (mvV b b' v) a:=by
  intro v a hv;rcases IR b b' v with e | ⟨rfl,e⟩
  .rw[e];exact K2.jv (K1.jv hv)
  .rw[e];obtain⟨y,ey,_,hr⟩:=hv;refine⟨y,ey,by simpa using hb'l,fun t2 l2 h2=>?_⟩;rw[gb] at h2;have:=hr t l (asR hb);cases h2;rw[n0,p0];exact this
 refine⟨c',fun k=>?_,⟨fun d hd hv=>?_,fun d d2 hd hd2 hv hv2 e=>?_,fun d hd=>?_,hH.hd,hH.ns.keep (fun d i k r hd hI=>?_) (zJ _) (fun _ _ _ _ _ _=>rfl) (fun d hd hv=>?_)⟩,?_,by simp⟩
 .have:=val (hT k);rw[zA,List.getElem?_map];rw[zA] at this;cases hg:T[k]? with
  |none=>trivial
  |some x=>rw[hg] at this;exact this
 .have hd:d<L.length:=by simpa using hd
  by_cases e:d=b
  .subst e;rw[g2'] at hv;exact hv.elim
  .by_cases e':d=b'
   .subst e';rw[gb] at hv;rw[p0];exact hH.lt b hbl (by rw[hb];show c.nz b=true;rw[<- n0];exact hv)
   .rw[g2 d e,g1 d e'] at hv;rw[p1 d e'];exact hH.lt d hd (bJ (n1 d e') (bJ (c:=c') rfl hv))
 .have hdA:d<L.length:=by simpa using hd
  have hdB:d2<L.length:=by simpa using hd2
  have lv:∀x,x≠b->x≠b'->az c' (aa ((((L.set b' (.row t l)).map (jO b')).set b .dead).map (jO b)) x) x->az c (aa L x) x:=fun x hx hx' h=>by
   rw[g2 x hx,g1 x hx'] at h;exact bJ (n1 x hx') (bJ (c:=c') rfl h)
  have nb:∀x,az c' (aa ((((L.set b' (.row t l)).map (jO b')).set b .dead).map (jO b)) x) x->x≠b:=fun x h e=>by rw[e,g2'] at h;exact h
  have lb:az c' (aa ((((L.set b' (.row t l)).map (jO b')).set b .dead).map (jO b)) b') b'->az c (aa L b) b:=fun h=>by
   rw[gb] at h;rw[hb];show c.nz b=true;rw[<- n0];exact h
  by_cases e1:d=b' <;> by_cases e2:d2=b'
  .rw[e1,e2]
  .subst e1;rw[p0,p1 d2 e2] at e;exact absurd (hH.inj b d2 hbl hdB (lb hv) (lv d2 (nb d2 hv2) e2 hv2) e).symm (nb d2 hv2)
  .subst e2;rw[p0,p1 d e1] at e;exact absurd (hH.inj d b hdA hbl (lv d (nb d hv) e1 hv) (lb hv2) e) (nb d hv)
  .rw[p1 d e1,p1 d2 e2] at e;exact hH.inj d d2 hdA hdB (lv d (nb d hv) e1 hv) (lv d2 (nb d2 hv2) e2 hv2) e
 .have hd:d<L.length:=by simpa using hd
  by_cases e:d=b
  .subst e;rw[g2'];trivial
  .by_cases e':d=b'
   .subst e';rw[gb,p0];have:=hH.ob b hbl;rw[hb] at this;show (c'.nz d=false/\l=[])\/(c'.nz d=true/\_);rw[n0];exact this
   .rw[g2 d e,g1 d e',p1 d e'];exact K2.joO (by simpa using hd) rfl rfl (K1.joO hd (n1 d e') rfl (hH.ob d hd))
 .have hd:d<L.length:=by simpa using hd
  refine⟨hd,?_⟩;by_cases e:d=b
  .subst e;exact(eT (by rw[g2'];rfl) hI).elim
  .by_cases e':d=b'
   .subst e';exact(eT (by rw[gb];rfl) hI).elim
   .have h1:Inn c' ((L.set b' (.row t l)).map (jO b')) d i k r:=lH (g2 d e) rfl hI;exact lH (g1 d e') rfl h1
 .have hd:d<L.length:=by simpa using hd
  refine .inr ?_;by_cases e:d=b
  .subst e;rw[g2'] at hv;exact hv.elim
  .by_cases e':d=b'
   .subst e';rw[gb] at hv;exact⟨b,hbl,by rw[hb];show c.nz b=true;rw[<- n0];exact hv,p0.symm⟩
   .rw[g2 d e,g1 d e'] at hv;exact⟨d,hd,bJ (n1 d e') (bJ (c:=c') rfl hv),(p1 d e').symm⟩
 .exact(K1.any fun d (hd:d=b')=>by rw[hd];exact c4).trans (K2.any fun d (hd:d=b)=>by rw[hd];exact c3) (by rw[hl1];exact zJ _)
theorem JL (b b':Nat) (v:SV):mvP b b' v=jV b (jV b' v)\/∃i j,v=.one (.ptr b i j)/\mvP b b' v=.one (.ptr b' i j):=by
 unfold mvP;split
 .split
  .rename_i e;rw[zC e];exact .inr ⟨_,_,rfl,rfl⟩
  .exact .inl rfl
 .exact .inl rfl
theorem Jb {b b':Nat}(hT:RT c L T Tm) (hH:RH c L H) (h:mvC b b' T L fr=some (T1,L1)) :
 ∃c',RT c' L1 T1 Tm/\RH c' L1 H/\au c L c' L1 (fun d=>bV d fr=false)/\L1.length=L.length:=by
 unfold mvC at h;split at h
 case h_2=>cases h
 rename_i cs hb;split at h
 .cases h
 rename_i hc;cases h;simp only[Bool.or_eq_false_iff,Bool.not_eq_false'] at hc;obtain⟨⟨⟨c1,c2⟩,c3⟩,c4⟩:=hc;have hne:b≠b':=fun e=>by rw[e,Nat.beq_refl] at c1;cases c1
 have hb'l:b'<L.length:=zW c2;have hbl:b<L.length:=aI (by rw[hb];simp)
 let c':Cn:=⟨fun i=>if i=b' then c.π b else c.π i,fun i=>if i=b' then c.nz b else c.nz i,c.Z,c.ν⟩
 have p0:c'.π b'=c.π b:=if_pos rfl;have n0:c'.nz b'=c.nz b:=if_pos rfl;have p1:∀d,d≠b'->c'.π d=c.π d:=fun d hd=>if_neg hd
 have n1:∀d,d≠b'->c'.nz d=c.nz d:=fun d hd=>if_neg hd
 have K1:au c L c' ((L.set b' (.cell cs)).map (jO b')) (·=b'):=au.app c c' p1 n1 rfl (fun _ _=>rfl);have hl1:((L.set b' (.cell cs)).map (jO b')).length=L.length:=by simp
 have K2:au c' ((L.set b' (.cell cs)).map (jO b')) c' ((((L.set b' (.cell cs)).map (jO b')).set b .dead).map (jO b)) (·=b):=au.app c' c' (fun _ _=>rfl) (fun _ _=>rfl) rfl (fun _ _=>rfl);have g1:∀d,d≠b'->aa ((L.set b' (.cell cs)).map (jO b')) d=jO b' (aa L d):=fun d hd=>bX hd
 have g1':aa ((L.set b' (.cell cs)).map (jO b')) b'=jO b' (.cell cs):=bO hb'l;have g2:∀d,d≠b->aa ((((L.set b' (.cell cs)).map (jO b')).set b .dead).map (jO b)) d=jO b (aa ((L.set b' (.cell cs)).map (jO b')) d):=fun d hd=>bX hd
 have g2':aa ((((L.set b' (.cell cs)).map (jO b')).set b .dead).map (jO b)) b=.dead:=bO (by rw[hl1];exact hbl);have gb:aa ((((L.set b' (.cell cs)).map (jO b')).set b .dead).map (jO b)) b'=jO b (jO b' (.cell cs)):=by rw[g2 b' (Ne.symm hne),g1']
 have val:∀{v:SV} {a:AV},RVS c L v a->RVS c' ((((L.set b' (.cell cs)).map (jO b')).set b .dead).map (jO b)) (mvP b b' v) a:=by
  intro v a hv;rcases JL b b' v with e | ⟨i,j,rfl,e⟩
  .rw[e];exact K2.jv (K1.jv hv)
  .rw[e];obtain⟨y,ey,_,hr⟩:=hv;exact⟨y,ey,by simpa using hb'l,by rw[hr];show _=Lf.ptr (c'.π b') i j;rw[p0]⟩
 refine⟨c',fun k=>?_,⟨fun d hd hv=>?_,fun d d2 hd hd2 hv hv2 e=>?_,fun d hd=>?_,hH.hd,hH.ns.keep (fun d i k r hd hI=>?_) (zJ _) (fun _ _ _ _ _ _=>rfl) (fun d hd hv=>?_)⟩,?_,by simp⟩
 .have:=val (hT k);rw[zA,List.getElem?_map];rw[zA] at this;cases hg:T[k]? with
  |none=>trivial
  |some x=>rw[hg] at this;exact this
 .have hd:d<L.length:=by simpa using hd
  by_cases e:d=b
  .subst e;rw[g2'] at hv;exact hv.elim
  .by_cases e':d=b'
   .subst e';rw[gb] at hv;rw[p0];exact hH.lt b hbl (by rw[hb];trivial)
   .rw[g2 d e,g1 d e'] at hv;rw[p1 d e'];exact hH.lt d hd (bJ (n1 d e') (bJ (c:=c') rfl hv))
 .have hdA:d<L.length:=by simpa using hd
  have hdB:d2<L.length:=by simpa using hd2
  have lv:∀x,x≠b->x≠b'->az c' (aa ((((L.set b' (.cell cs)).map (jO b')).set b .dead).map (jO b)) x) x->az c (aa L x) x:=fun x hx hx' h=>by
   rw[g2 x hx,g1 x hx'] at h;exact bJ (n1 x hx') (bJ (c:=c') rfl h)
  have nb:∀x,az c' (aa ((((L.set b' (.cell cs)).map (jO b')).set b .dead).map (jO b)) x) x->x≠b:=fun x h e=>by rw[e,g2'] at h;exact h
  have lb:az c' (aa ((((L.set b' (.cell cs)).map (jO b')).set b .dead).map (jO b)) b') b'->az c (aa L b) b:=fun h=>by
   rw[hb];trivial
  by_cases e1:d=b' <;> by_cases e2:d2=b'
  .rw[e1,e2]
  .subst e1;rw[p0,p1 d2 e2] at e;exact absurd (hH.inj b d2 hbl hdB (lb hv) (lv d2 (nb d2 hv2) e2 hv2) e).symm (nb d2 hv2)
  .subst e2;rw[p0,p1 d e1] at e;exact absurd (hH.inj d b hdA hbl (lv d (nb d hv) e1 hv) (lb hv2) e) (nb d hv)
  .rw[p1 d e1,p1 d2 e2] at e;exact hH.inj d d2 hdA hdB (lv d (nb d hv) e1 hv) (lv d2 (nb d2 hv2) e2 hv2) e
 .have hd:d<L.length:=by simpa using hd
  by_cases e:d=b
  .subst e;rw[g2'];trivial
  .by_cases e':d=b'
   .subst e';rw[gb,p0];have:=hH.ob b hbl;rw[hb] at this;exact(K2.joO (b:=b) (by simpa using hbl) rfl rfl (K1.joO hbl (n1 b hne) rfl this):ROS c' _ (jO b (jO d (.cell cs))) b _)
   .rw[g2 d e,g1 d e',p1 d e'];exact K2.joO (by simpa using hd) rfl rfl (K1.joO hd (n1 d e') rfl (hH.ob d hd))
 .have hd:d<L.length:=by simpa using hd
  refine⟨hd,?_⟩;by_cases e:d=b
  .subst e;exact(eT (by rw[g2'];rfl) hI).elim
  .by_cases e':d=b'
   .subst e';exact(eT (by rw[gb];rfl) hI).elim
   .have h1:Inn c' ((L.set b' (.cell cs)).map (jO b')) d i k r:=lH (g2 d e) rfl hI;exact lH (g1 d e') rfl h1
 .have hd:d<L.length:=by simpa using hd
  refine .inr ?_;by_cases e:d=b
  .subst e;rw[g2'] at hv;exact hv.elim
  .by_cases e':d=b'
   .subst e';rw[gb] at hv;exact⟨b,hbl,by rw[hb];trivial,p0.symm⟩
   .rw[g2 d e,g1 d e'] at hv;exact⟨d,hd,bJ (n1 d e') (bJ (c:=c') rfl hv),(p1 d e').symm⟩
 .exact(K1.any fun d (hd:d=b')=>by rw[hd];exact c4).trans (K2.any fun d (hd:d=b)=>by rw[hd];exact c3) (by rw[hl1];exact zJ _)
end
end Go.EA
end
section
namespace Go.EA
inductive AFr:Type 1 where
 |call (m:Nat) (res:List dV) (k:List Kt) (T:Tm) (dst:Option Nat)
 |range (m l:Nat) (k:List Kt) (T:Tm)
 |yas (m m' l:Nat) (bd:AC) (k:List Kt) (T:Tm) (dst:Option Nat)
 |ybd (m l:Nat) (k:List Kt) (T:Tm) (dst:Option Nat)
section
variable (S:SC) (X:Cx) (Q0:Ex->Tm->Heap->Prop)
def Kv (l:Nat) (N:Bool->Heap->Prop) (e:Ex) (H2:Heap):Prop:=∃pend2 T2 ps2 as2 bd2,H2.o l=.loop .busy pend2 T2 ps2 as2 bd2/\
 (match e with | .normal=>N true (H2.set l (.loop .ready none T2 ps2 as2 bd2)) | e=>N false (H2.set l (.loop .done (some e) T2 ps2 as2 bd2)))
def QA:List AFr->Ex->Tm->Heap->Prop
 |[],e,T,H=>Q0 e T H
 |.call m res k T0 dst::r,e,T',H'=>(e=.ret\/e=.normal)/\∃v,iw T' H' res=some v/\Sem S X m k (QA r) .normal (cz T0 dst v) H'
 |.range m l k T0::r,e,T',H'=>(e=.ret\/e=.normal)/\∃st pend T1 ps as bd,H'.o l=.loop st pend T1 ps as bd/\st≠.busy/\
  (match pend with | none=>Sem S X m k (QA r) .normal T0 (H'.set l .dead) | some e=>Sem S X m k (QA r) e T0 (H'.set l .dead))
 |.yas m m' l bd k T0 dst::r,e,T1,H1=>e=.normal/\∃pend1 T2 ps1 as1 bd1,H1.o l=.loop .ready pend1 T2 ps1 as1 bd1/\
  MC S m' bd T1 (H1.set l (.loop .busy pend1 T2 ps1 as1 bd1)) fun e _ H2=>Kv l (fun b H3=>Sem S X m k (QA r) .normal (cz T0 dst (.one (.bool b))) H3) e H2
 |.ybd m l k T0 dst::r,e,_,H2=>Kv l (fun b H3=>Sem S X m k (QA r) .normal (cz T0 dst (.one (.bool b))) H3) e H2
end
def RSK (P:Cn->List SO->Prop):List SK->List Kt->Prop
 |[],[]=>True
 |.code c::k,.code c'::k'=>c=c'/\RSK P k k'
 |.ops l::k,.ops l' i::k'=>l=l'.drop i/\RSK P k k'
 |.dops l::k,.dops l' i::k'=>l=l'.drop i/\RSK P k k'
 |.blk id::k,.blk id'::k'=>id=id'/\RSK P k k'
 |.stop chk _::k,.stop R::k'=>(∀c T L Tm H,(chk T L).den->RT c L T Tm->RH c L H->P c L->R Tm H)/\RSK P k k'
 |.rnd x n::k,.rnd x' n'::k'=>x=x'/\n=n'/\RSK P k k'
 |_,_=>False
def RFr:List Fr->List AFr->Cn->List SO->Prop
 |[],[],_,_=>True
 |.call _ res _ k T dst::fr,.call _ res' k' T' dst'::ar,c,L=>res=res'/\dst=dst'/\RT c L T T'/\RSK (RFr fr ar) k k'/\RFr fr ar c L
 |.range _ l _ ps as bd k T::fr,.range _ l' k' T'::ar,c,L=>l<L.length/\l'=c.π l/\c.Z l=⟨T',ps,as,bd⟩/\RT c L T T'/\RSK (RFr fr ar) k k'/\RFr fr ar c L
 |.yas _ l _ bd k T dst::fr,.yas _ _ l' bd' k' T' dst'::ar,c,L=>l<L.length/\l'=c.π l/\bd=bd'/\dst=dst'/\RT c L T T'/\RSK (RFr fr ar) k k'/\RFr fr ar c L
 |.ybd _ l _ k T dst::fr,.ybd _ l' k' T' dst'::ar,c,L=>l<L.length/\l'=c.π l/\dst=dst'/\RT c L T T'/\RSK (RFr fr ar) k k'/\RFr fr ar c L
 |_,_,_,_=>False
def Sy (S:SC) (X:Cx) (Q0:Ex->Tm->Heap->Prop) (s:SS):Prop:=
 ∀c Tm H kA ar m,RT c s.L s.T Tm->RH c s.L H->RSK (RFr s.fr ar) s.k kA->RFr s.fr ar c s.L->Sem S X m kA (QA S X Q0 ar) s.e Tm H
section
variable {c c':Cn} {L L':List SO} {H:Heap} {T:ST} {Tm:Tm} {iv:Nat->Prop}
theorem au.rt (k:au c L c' L' iv) (hn:∀b,iv b->qp b T=false) (h:RT c L T Tm):RT c' L' T Tm:=fun i=>by
 have hi:=h i;rw[zA] at hi ⊢;cases hg:T[i]? with
 |none=>trivial
 | some x=>
   rw[hg] at hi;refine k.rv (fun b hb=>?_) hi;have:=hn b hb;unfold qp at this;rw[List.any_eq_false] at this;simpa using this x (zU hg)
theorem au.fr:∀{fr:List Fr}{ar:List AFr}(k:au c L c' L' iv) (hn:∀b,iv b->bV b fr=false) (h:RFr fr ar c L),RFr fr ar c' L'
 |[],[],_,_,_=>trivial
 | .call _ res _ k T dst::fr,.call _ res' k' T' dst'::ar,K,hn,⟨h1,h2,h3,h4,h5⟩=>
   have hn':∀b,iv b->qp b T=false/\bV b fr=false:=fun b hb=>by have:=hn b hb;simpa [bV] using this
   ⟨h1,h2,K.rt (fun b hb=>(hn' b hb).1) h3,h4,au.fr K (fun b hb=>(hn' b hb).2) h5⟩
 | .range _ l _ ps as bd k T::fr,.range _ l' k' T'::ar,K,hn,⟨h1,h2,h3,h4,h5,h6⟩=>
   have hn':∀b,iv b->(Nat.beq l b=false/\qp b T=false)/\bV b fr=false:=fun b hb=>by have:=hn b hb;simpa [bV] using this
   have hl:¬ iv l:=fun hb=>by have:=(hn' l hb).1.1;rw[Nat.beq_refl] at this;cases this
   ⟨K.len l h1 hl,by rw[K.π l h1 hl];exact h2,by rw[K.Z l h1];exact h3,K.rt (fun b hb=>(hn' b hb).1.2) h4,h5,au.fr K (fun b hb=>(hn' b hb).2) h6⟩
 | .yas _ l _ bd k T dst::fr,.yas _ _ l' bd' k' T' dst'::ar,K,hn,⟨h1,h2,h3,h4,h5,h6,h7⟩=>
   have hn':∀b,iv b->(Nat.beq l b=false/\qp b T=false)/\bV b fr=false:=fun b hb=>by have:=hn b hb;simpa [bV] using this
   have hl:¬ iv l:=fun hb=>by have:=(hn' l hb).1.1;rw[Nat.beq_refl] at this;cases this
   ⟨K.len l h1 hl,by rw[K.π l h1 hl];exact h2,h3,h4,K.rt (fun b hb=>(hn' b hb).1.2) h5,h6,au.fr K (fun b hb=>(hn' b hb).2) h7⟩
 | .ybd _ l _ k T dst::fr,.ybd _ l' k' T' dst'::ar,K,hn,⟨h1,h2,h3,h4,h5,h6⟩=>
   have hn':∀b,iv b->(Nat.beq l b=false/\qp b T=false)/\bV b fr=false:=fun b hb=>by have:=hn b hb;simpa [bV] using this
   have hl:¬ iv l:=fun hb=>by have:=(hn' l hb).1.1;rw[Nat.beq_refl] at this;cases this
   ⟨K.len l h1 hl,by rw[K.π l h1 hl];exact h2,h3,K.rt (fun b hb=>(hn' b hb).1.2) h4,h5,au.fr K (fun b hb=>(hn' b hb).2) h6⟩
theorem au.fr0 {fr:List Fr}{ar:List AFr}(k:au c L c' L' fun _=>False) (h:RFr fr ar c L):RFr fr ar c' L':=k.fr (fun _ hb=>hb.elim) h
theorem RT.mask (h:RT c L T Tm):∀m,RT c L (gq m T) Tm:=by
 induction T generalizing Tm with
 |nil=>intro m k;exact trivial
 | cons v r ih=>
   intro m k;cases k with
   | zero=>
     show RVS c L (match Nat.beq (Nat.land m 1) 1 with | true=>v | false=>.junk) _;split
     .exact h 0
     .trivial
   |succ k=>exact ih (Tm:=fun k=>Tm (k+1)) (fun k=>h (k+1)) _ k
theorem RT.same (h:RT c L T Tm) {d:Nat}{v:SV}(hv:RVS c L v (Tm d)):RT c L (T.set d v) Tm:=fun k=>by
 by_cases e:k=d
 .subst e;rw[zA,List.getElem?_set,if_pos rfl];split
  .exact hv
  .trivial
 .rw[zA,List.getElem?_set_ne (Ne.symm e),<- zA];exact h k
theorem RT.args:∀{xs:List SV}{avs:List AV}(n:Nat),ae (RVS c L) xs avs->RT c L (xs++wM n (.tup [])) (jf avs)
 | [],avs,n,h,k=>by
   rw[h.nil_inv];show RVS c L ((wM n (SV.tup [])).getD k .junk) und;rw[sV,zA,List.getElem?_replicate];split
   .exact⟨[],rfl,ae.nil⟩
   .trivial
 | x::xs,avs,n,h,k=>by
   obtain⟨y,ys,rfl,h1,h2⟩:=h.cons_inv;cases k with
   |zero=>exact h1
   |succ k=>exact RT.args n h2 k
theorem lG (h:RT c L T Tm) (xs:List Opd):ae (RVS c L) (xs.map (opd T)) (xs.map (·.ev Tm)):=⟨by simp,fun i x y hx hy=>by
 rw[List.getElem?_map,zD] at hx hy;obtain⟨o,ho,rfl⟩:=hx;obtain⟨o',ho',rfl⟩:=hy;rw[ho] at ho';cases ho';exact h.opd o⟩
theorem vg:∀{ps:List Nat}{xs:List SV}{avs:List AV}{T:ST}{Tm:EA.Tm},RT c L T Tm->ae (RVS c L) xs avs->RT c L (sS T ps xs) (setPs Tm ps avs)
 |[],xs,avs,T,Tm,h,_=>by cases xs <;> cases avs <;> exact h
 |p::ps,[],avs,T,Tm,h,hx=>by rw[hx.nil_inv];exact h
 | p::ps,x::xs,avs,T,Tm,h,hx=>by
   obtain⟨y,ys,rfl,h1,h2⟩:=hx.cons_inv;show RT c L (sS (T.set p x) ps xs) (EA.setPs (EA.put Tm p y) ps ys);exact vg (h.set (d:=some p) h1) h2
theorem EC {v:SV}{x:S1}{a:AV}(h:JZ v=some x) (r:RVS c L v a):RS1 c L x a:=by
 cases v <;> simp only[JZ,zE,reduceCtorEq] at h
 .subst h;exact r
 .subst h;exact r
theorem uF (hT:RT c L T Tm) (hH:RH c L H) {r:dV}{v:SV}(h:Ah T L r=some v):∃a,pY Tm H r=some a/\RVS c L v a:=by
 cases r with
 |t n=>cases h;exact⟨_,rfl,hT n⟩
 | cell a ag n=>
   have ha:=hT a;simp only[Ah] at h;split at h
   .rename_i b j hv;rw[hv] at ha;obtain⟨z,hz,hlt,rfl⟩:=ha;split at h
    .rename_i cs hb;split at h
     .rename_i p hp;have:=hH.ob b hlt;rw[hb] at this;obtain⟨ls,k1,k2⟩:=this;obtain⟨g1,g2⟩:=gB hp k2;obtain⟨u,u1,u2⟩:=dR h g2;exact⟨u,by simp only[pY,hz,Heap.cells,k1,List.getElem?_cons_zero,g1,if_true,Option.bind_some,u1],u2⟩
     .cases h
    .cases h
   .cases h
theorem vK (hT:RT c L T Tm) (hH:RH c L H):∀{rs:List dV}{l:List S1},yj T L rs=some l->∃a,fB Tm H rs=some a/\ae (RS1 c L) l a
 |[],l,h=>by cases h;exact⟨[],rfl,ae.nil⟩
 | r::rs,l,h=>by
   simp only[yj] at h;split at h
   .rename_i v hv;split at h
    .rename_i x l' hx hl;cases h;obtain⟨a,e1,e2⟩:=uF hT hH hv;obtain⟨as,e3,e4⟩:=vK hT hH hl;exact⟨a::as,by simp only[fB,e1,e3],ae.cons (EC hx e2) e4⟩
    .cases h
   .cases h
theorem CZ {x:S1}{a:AV}(h:RS1 c L x a):a.isVal=true:=by
 cases x <;> obtain⟨y,rfl,_⟩:=h <;> rfl
theorem yL (hT:RT c L T Tm) (hH:RH c L H) {rs:List dV}{v:SV}(h:BL T L rs=some v):∃a,iw Tm H rs=some a/\RVS c L v a:=by
 unfold BL at h;split at h
 .rename_i r;obtain⟨a,e1,e2⟩:=uF hT hH h;exact⟨a,by simp only[iw,fB,e1],e2⟩
 .rename_i hne;obtain⟨l,hl,rfl⟩:=zD.1 h;obtain⟨as,e1,e2⟩:=vK hT hH hl;refine⟨.tup as,?_,as,rfl,e2⟩;have hall:as.all AV.isVal=true:=by
   rw[List.all_eq_true];intro a ha;obtain⟨i,hi⟩:=List.getElem?_of_mem ha;have hlt:i<l.length:=by rw[e2.1];exact(zI.1 hi).1
   exact CZ (e2.2 i _ a (zB hlt) hi)
  unfold iw;rw[e1];split
  .rename_i v heq;exfalso;cases heq;cases rs with
   |nil=>simp[fB] at e1
   | cons r rs=>
     cases rs with
     |nil=>exact hne r rfl
     | cons r2 rs=>
       simp only[fB] at e1;split at e1
       .rename_i hh;split at hh
        .cases hh;cases e1
        .cases hh
       .cases e1
  .rename_i vs _ heq;cases heq;rw[if_pos hall]
  .rename_i heq;cases heq
end
end Go.EA
end
section
namespace Go.EA
def Ed (X:Cx) (i:Nat) (con:Con):Prop:=
 ∃g,X.pr i=some (iX g)/\UnG g/\∀xs v cs,con.g xs=some (v,cs)->aK cs->∃cs',g (xs.map aF)=some (aF v,cs')/\aK cs'
def jN (S:SC) (i:Nat) (mc:mP):Prop:=
 ∀c L H xs ys r,mc.g xs L=some r->aK r.pre->RH c L H->ae (RVS c L) xs ys->
  MF S i [] ys H fun v H'=>∃x,aK (r.post x)/\∃c',RVS c' (r.L x) (r.v x) v/\RH c' (r.L x) H'/\au c L c' (r.L x) fun b=>b∈r.inv
structure qI (S:SC) (X:Cx) (E:Env) (Q0:Ex->Tm->Heap->Prop):Prop where
 good:S.Good X
 cd:∀i af,E.CD i=some af->S.has i af
 kt:∀i con,E.KT i=some con->Ed X i con
 top:∀c T L Tm H e,(e=.ret\/e=.normal)->(E.top T L).den->RT c L T Tm->RH c L H->Q0 e Tm H
 mt:∀i mc,E.MT i=some mc->jN S i mc
section
variable {S:SC} {X:Cx} {Q0:Ex->Tm->Heap->Prop} {E:Env} {c:Cn} {L:List SO} {H:Heap} {T:ST} {Tm:Tm} {m:Nat}
theorem iO {x:SL}(h:clL x=true) {y:Lf}:RL' c L x y↔y=bi x:=by
 cases x <;> simp only[clL,Bool.false_eq_true,List.isEmpty_iff] at h <;> first
  |exact Iff.rfl
  |skip
 subst h;simp[RL',bi]
theorem il:∀{x:List SL},x.all clL=true->∀{y:List Lf},ae (RL' c L) x y↔y=x.map bi
 |[],_,y=>⟨fun h=>h.nil_inv,fun h=>by rw[h];exact ae.nil⟩
 | x::xs,h,y=>by
   simp only[List.all_cons,zH] at h;constructor
   .intro hr;obtain⟨z,zs,rfl,h1,h2⟩:=hr.cons_inv;rw[(iO h.1).1 h1,(il h.2).1 h2];rfl
   .rintro rfl;exact ae.cons ((iO h.1).2 rfl) ((il h.2).2 rfl)
theorem nY:∀{x:List S1},(x.all fun x=>match x with | .o x=>clL x | .a cs=>cs.all clL)=true->∀{y:List AV},ae (RS1 c L) x y↔y=x.map CX
 |[],_,y=>⟨fun h=>h.nil_inv,fun h=>by rw[h];exact ae.nil⟩
 | x::xs,h,y=>by
   simp only[List.all_cons,zH] at h;have h1:∀z,RS1 c L x z↔z=CX x:=fun z=>by
    cases x with
    |o x=>exact⟨fun⟨w,e,hr⟩=>by rw[e,(iO h.1).1 hr];rfl,fun e=>⟨_,e,(iO h.1).2 rfl⟩⟩
    |a x=>exact⟨fun⟨w,e,hr⟩=>by rw[e,(il h.1).1 hr];rfl,fun e=>⟨_,e,(il h.1).2 rfl⟩⟩
   constructor
   .intro hr;obtain⟨z,zs,rfl,g1,g2⟩:=hr.cons_inv;rw[(h1 _).1 g1,(nY h.2).1 g2];rfl
   .rintro rfl;exact ae.cons ((h1 _).2 rfl) ((nY h.2).2 rfl)
theorem kQ {x:SV}(h:clV x=true) {y:AV}:RVS c L x y↔y=aF x:=by
 cases x with
 |one x=>exact⟨fun⟨w,e,hr⟩=>by rw[e,(iO h).1 hr];rfl,fun e=>⟨_,e,(iO h).2 rfl⟩⟩
 |agg x=>exact⟨fun⟨w,e,hr⟩=>by rw[e,(il h).1 hr];rfl,fun e=>⟨_,e,(il h).2 rfl⟩⟩
 |tup x=>exact⟨fun⟨w,e,hr⟩=>by rw[e,(nY h).1 hr];rfl,fun e=>⟨_,e,(nY h).2 rfl⟩⟩
 |junk=>cases h
 |ite _ _ _ _=>cases h
theorem sN {x:SL}{y:Lf}(h:RL' c L x y):RL' c L (nrm x) y:=by cases x <;> exact h
theorem Ck {x:SV}{y:AV}(h:RVS c L x y):RVS c L (xG x) y:=by
 cases x with
 |one x=>obtain⟨w,e,hr⟩:=h;exact⟨w,e,sN hr⟩
 | agg x=>
   obtain⟨w,e,hr⟩:=h;refine⟨w,e,by simpa using hr.1,fun i p q hp hq=>?_⟩;rw[List.getElem?_map,zD] at hp;obtain⟨p',hp',rfl⟩:=hp;exact sN (hr.2 i p' q hp' hq)
 |tup x=>exact h
 |junk=>trivial
 |ite _ _ _ _=>exact h.elim
def Wk (x y:AV):Prop:=x=y\/∃s,x=.one (.vrow s [])/\(y=.one .nils\/y=.one .slz)
theorem Wk.rel {x y:AV}(h:Wk x y) {ρ:Rho}{n:Nat}{u:Value}(hr:aN S ρ n y u):aN S ρ n x u:=by
 rcases h with rfl | ⟨s,rfl,rfl | rfl⟩
 .exact hr
 .have hr:u=.slice none 0 0:=hr;subst hr;exact⟨none,0,rfl,zJ _,.inl rfl⟩
 .obtain⟨a,hr⟩:∃a,u=.slice a 0 0:=hr;subst hr;exact⟨a,0,rfl,zJ _,.inl rfl⟩
theorem dw.weak {f:AV}{xs ys:List AV}{Q:AV->Heap->Prop}(hw:ae Wk xs ys) (h:dw S f xs H Q):dw S f ys H Q:=
 fun ρ w fval vs h1 h2 h3=>h ρ w fval vs h1 ⟨hw.1.trans h2.1,fun i x v hx hv=>by
  obtain⟨y,hy,hxy⟩:=hw.get hx;exact hxy.rel (h2.2 i y v hy hv)⟩ h3
theorem Dw:∀{sg:List (Option Ty)}{xs:List SV}{avs:List AV}{nil:Bool},(rX nil sg xs).all clV=true->ae (RVS c L) xs avs->ae Wk ((rX nil sg xs).map aF) avs/\(nil=false->(rX nil sg xs).map aF=avs):=by
 have one:∀{x:SV} {av:AV},clV (xG x)=true->RVS c L x av->aF (xG x)=av:=fun hc hr=>((kQ hc).1 (Ck hr)).symm
 have one1:∀{s:Option Ty} {x:SV} {av:AV} {nil:Bool},clV (nZ nil s x)=true->RVS c L x av->Wk (aF (nZ nil s x)) av/\(nil=false->aF (nZ nil s x)=av):=by
  intro s x av nil hc hr;cases s with
  |none=>have:=one hc hr;exact⟨.inl this,fun _=>this⟩
  | some t=>
    by_cases h1:x=.one .nils
    .subst h1;cases nil with
     |false=>exact absurd hc (by simp[clV,nZ])
     |true=>obtain⟨w,rfl,hr⟩:=hr;cases hr;exact⟨.inr ⟨t.size,rfl,.inl rfl⟩,fun h=>by cases h⟩
    .by_cases h2:x=.one .slz
     .subst h2;cases nil with
      |false=>exact absurd hc (by simp[clV,nZ])
      |true=>obtain⟨w,rfl,hr⟩:=hr;cases hr;exact⟨.inr ⟨t.size,rfl,.inr rfl⟩,fun h=>by cases h⟩
     .have e:nZ nil (some t) x=xG x:=by
       cases x with
       |one y=>cases y <;> first | rfl | exact absurd rfl h1 | exact absurd rfl h2
       |_=>rfl
      rw[e] at hc ⊢;have:=one hc hr;exact⟨.inl this,fun _=>this⟩
 intro sg xs
 induction xs generalizing sg with
 |nil=>intro avs nil _ h; rw[h.nil_inv]; cases sg <;> simp only[rX] <;> exact⟨ae.nil,fun _=>rfl⟩
 | cons x xs ih=>
   intro avs nil hc h;obtain⟨y,ys,rfl,h1,h2⟩:=h.cons_inv;cases sg with
   | nil=>
     simp only[rX,List.all_cons,zH] at hc ⊢;obtain⟨k1,k2⟩:=ih hc.2 h2;have:=one hc.1 h1;exact⟨by rw[zK,this];exact ae.cons (.inl rfl) k1,fun hn=>by rw[zK,this,k2 hn]⟩
   | cons s sg=>
     simp only[rX,List.all_cons,zH] at hc ⊢;obtain⟨k1,k2⟩:=ih hc.2 h2;obtain⟨g1,g2⟩:=one1 hc.1 h1;exact⟨by rw[zK];exact ae.cons g1 k1,fun hn=>by rw[zK,g2 hn,k2 hn]⟩
def MD (S:SC) (X:Cx) (m:Nat) (d:Bool) (r:List AI) (T:EA.Tm) (H:Heap) (Q:EA.Tm->Heap->Prop):Prop:=match d with | true=>DO X r T H Q | false=>MO S m r T H Q
theorem MD.cons (hS:S.Good X) {d:Bool}{i:AI}{r:List AI}{Q:EA.Tm->Heap->Prop}(hkn:known Tm i.gd=true)
 (hh:(wanted Tm i.gd=false/\MD S X m d r (cz Tm i.dst und) H Q) \/
  (wanted Tm i.gd=true/\jT i.op=false/\∃v H1,ah Tm H i.op=some (v,H1)/\MD S X m d r (cz Tm i.dst v) H1 Q)):MD S X m d (i::r) Tm H Q:=by
 cases d with
 |true=>exact DO.cons hkn (hh.imp id .inl)
 |false=>exact MO.cons hS.ok hkn (hh.imp id .inl)
theorem MD.abs {d:Bool}{r:List AI}{T1:EA.Tm}{H1:Heap}{Q:EA.Tm->Heap->Prop}(hd:d=false) (ha:Abs S m Tm H T1 H1) (h:MD S X m d r T1 H1 Q):MD S X m d r Tm H Q:=by
 subst hd;exact MO.abs ha h
def kS (d:Bool) (l:List AI) (k:List SK):List SK:=match d with | true=>.dops l::k | false=>.ops l::k
def kA (d:Bool) (l:List AI) (i:Nat) (k:List Kt):List Kt:=match d with | true=>.dops l i::k | false=>.ops l i::k
theorem fC (d:Bool) (l:List AI) (i:Nat) (k:List Kt) (Q:Ex->EA.Tm->Heap->Prop) (T:EA.Tm) (H:Heap):Sem S X m (kA d l i k) Q .normal T H↔MD S X m d (l.drop i) T H (Sem S X m k Q .normal):=by cases d <;> exact Iff.rfl
theorem RSK.kA {P:Cn->List SO->Prop}{d:Bool}{l l':List AI}{i:Nat}{k:List SK}{k':List Kt}(h1:l=l'.drop i) (h2:RSK P k k'):RSK P (kS d l k) (EA.kA d l' i k'):=by cases d <;> exact⟨h1,h2⟩
end
end Go.EA
end
section
namespace Go.EA
section
variable {c:Cn} {L:List SO} {H:Heap}
theorem nV {x:Lf}(h:x.closed=true):Im H x x:=by
 cases x <;> simp only[Lf.closed,Bool.false_eq_true,List.isEmpty_iff] at h <;> simp only[Im]
 .exact⟨h,by rw[h]⟩
 .exact .inl trivial
 .exact .inl trivial
theorem jE:∀{ys zs:List Lf},ys.all Lf.closed=true->ImC H ys (ys++zs)
 |[],zs,_=>by simp only[ImC]
 | y::r,zs,h=>by
   simp only[List.all_cons,zH] at h;simp only[List.cons_append,ImC];exact⟨nV h.1,jE h.2⟩
theorem yu {s:Nat}:∀{ys zs:List (List Lf)},aD ys=true->(∀e∈ys,e.length=s)->ImR H s ys (ys++zs)
 |[],zs,_,_=>by simp only[ImR]
 | y::r,zs,h,hl=>by
   simp only[aD,List.all_cons,zH] at h;simp only[List.cons_append,ImR];refine⟨hl y (by simp),?_,yu (ys:=r) h.2 fun e he=>hl e (by simp[he])⟩;have:=jE (H:=H) (zs:=[]) h.1
   rwa [List.append_nil] at this
theorem sU (t:Ty) (l:List t.den) (zs:List (List Lf)):ImR H t.size (l.map t.enc) (l.map t.enc++zs):=
 yu (bA t l) fun e he=>by
  obtain⟨x,_,rfl⟩:=List.mem_map.1 he;exact Ty.enc_len t x
theorem kC (t:Ty) (x:t.den):(t.enc x).all Lf.closed=true:=by
 have:=bA t [x];simpa [aD] using this
theorem EX (hH:RH c L H) {b i:Nat}{t u:Ty}{l:List (List t.den×u.den)}(hb:aa L b=.nest t u l none) {r:List t.den}{y0:u.den}(hi:l[i]?=some (r,y0)) {z:Lf}(hz:InS (c.ν b i) r.length z):Im H (.vrow t.size (r.map t.enc)) z:=by
 simp only[Im];cases hq:c.ν b i with
 | none=>
   rw[hq] at hz;obtain⟨hr0,hzn⟩:=hz;have hr0:r=[]:=zT hr0;subst hr0;exact .inr (.inl ⟨rfl,hzn⟩)
 | some k=>
   rw[hq] at hz;have hz:z=.sl k 0 r.length:=hz;subst hz;obtain⟨els,k1,k2,k3,k4⟩:=hH.ownRow hb hi hq;refine .inr (.inr ⟨_,_,els,by rw[zR],k1,?_⟩);rw[List.drop_zero,<- List.take_append_drop r.length els,k3];exact sU t r _
theorem vP {t u:Ty}:∀{l:List (List t.den×u.den)}{els:List (List Lf)},(∀(i:Nat) (e:List t.den×u.den),l[i]?=some e->∃x,els[i]?=some (x::u.enc e.2)/\Im H (.vrow t.size (e.1.map t.enc)) x)->ImR H (1+u.size) (l.map (Ty.pair (.row t) u).enc) els
 |[],els,h=>by simp only[List.map_nil,ImR]
 | e::l,els,h=>by
   obtain⟨x,h1,h2⟩:=h 0 e rfl;cases els with
   |nil=>simp at h1
   | cons y els=>
     simp only[List.getElem?_cons_zero,zE] at h1;subst h1;simp only[zK,ImR];refine⟨?_,?_,vP fun i e he=>h (i+1) e (by simpa using he)⟩
     .show ([Lf.vrow t.size (e.1.map t.enc)]++u.enc e.2).length=_;rw[zL,Ty.enc_len];rfl
     .show ImC H (Lf.vrow t.size (e.1.map t.enc)::u.enc e.2) _;simp only[ImC];refine⟨h2,?_⟩;have:=jE (H:=H) (zs:=[]) (kC u e.2)
      rwa [List.append_nil] at this
theorem oM (hH:RH c L H) {x:SL}{r:qw}{z:Lf}{cs:List Prop}(h:rowOf L x=some (r,cs)) (hc:aK cs) (hz:RL' c L x z):Im H (.vrow r.t.size (r.l.map r.t.enc)) z:=by
 unfold rowOf at h;split at h
 .cases h;cases hz;exact nV rfl
 .rename_i b;split at h
  .rename_i t l hb;cases h;obtain⟨_,hz⟩:=hz;simp only[Im];rcases hz t l (asR hb) with ⟨_,rfl,rfl | rfl⟩ | ⟨h1,rfl⟩
   .exact .inr (.inl ⟨rfl,.inl rfl⟩)
   .exact .inr (.inl ⟨rfl,.inr rfl⟩)
   .rcases hH.rowAt hb with ⟨h2,_⟩ | ⟨_,_,els,k1,k2,k3,k4⟩
    .rw[h1] at h2;cases h2
    .refine .inr (.inr ⟨_,_,els,by rw[zR],k1,?_⟩);rw[List.drop_zero,<- List.take_append_drop l.length els,k3];exact sU t l _
  .cases h
 .rename_i b i n;split at h
  .rename_i t l hb;cases h;obtain⟨h1,h2,_⟩:=hc;obtain⟨_,rfl⟩:=hz;simp only[Im];rcases hH.rowAt hb with ⟨_,rfl⟩ | ⟨_,_,els,k1,k2,k3,k4⟩
   .simp at h1;omega
   .refine .inr (.inr ⟨_,i,els,by rw[zR,zP,List.length_drop,Nat.min_eq_left (by omega)],k1,?_⟩);have e:els.drop i=((l.drop i).take n).map t.enc++(els.drop i).drop n:=by
     conv=>lhs;rw[<- List.take_append_drop n (els.drop i)]
     congr 1
     rw[List.map_take,List.map_drop,<- k3,List.drop_take,List.take_take]
     congr 1
     omega
    rw[e];exact sU t _ _
  .cases h
 .rename_i b i;split at h
  .rename_i t u l h0 hb;cases h;obtain⟨_,t2,u2,l2,hb',e,hei,hin⟩:=hz;rw[hb] at hb';cases hb';have hg:l.getD i ([],u.dflt)=e:=by rw[zA,hei];rfl
   rw[hg];exact EX hH hb (r:=e.1) (y0:=e.2) hei hin
  .cases h
 .cases h
theorem Cs (hH:RH c L H) {x:SL}{r:qw}{z:Lf}{cs:List Prop}(h:CQ L x=some (r,cs)) (hc:aK cs) (hz:RL' c L x z):Im H (.vrow r.t.size (r.l.map r.t.enc)) z:=by
 unfold CQ at h;split at h
 .rename_i b;split at h
  .rename_i t u l hb;cases h;have h0:=hH.ob b hz.1;rw[hb] at h0;rcases hz.2 (.pair (.row t) u) l (by rw[hb];rfl) with ⟨_,rfl,hz⟩ | ⟨hnz,rfl⟩
   .simp only[Im];exact .inr (.inl ⟨rfl,hz⟩)
   .rcases h0 with ⟨h0,_⟩ | ⟨_,els,k1,k2,k3⟩
    .rw[hnz] at h0;cases h0
    .simp only[Im];refine .inr (.inr ⟨_,_,els,by rw[zR],k1,?_⟩);rw[List.drop_zero];exact vP fun i e he=>by
      obtain⟨x,q1,q2⟩:=k3 i e he;exact⟨x,q1,EX hH hb (r:=e.1) (y0:=e.2) he (q2 (by simp))⟩
  .exact oM hH h hc hz
 .exact oM hH h hc hz
theorem vB (hH:RH c L H) {x:SL}{t:Ty}{l:List t.den}{z:Lf}{cs:List Prop}(h:yt L t x=some (l,cs)) (hc:aK cs) (hz:RL' c L x z):Im H (.vrow t.size (l.map t.enc)) z:=by
 unfold yt at h;split at h
 .cases h;cases hz;simp[Im]
 .cases h;cases hz;simp[Im]
 .split at h
  .rename_i t' l' cs' hr;split at h
   .rename_i he _;obtain⟨he⟩:=he;cases h;subst he;exact Cs hH hr hc hz
   .cases h
  .cases h
theorem pI:∀{ys ys' zs:List Lf},ImC H ys zs->ImC H ys' (zs.drop ys.length)->ImC H (ys++ys') zs
 |[],ys',zs,_,h=>h
 |y::r,ys',[],h,_=>by simp only[ImC] at h
 | y::r,ys',z::zs,h,h'=>by
   simp only[ImC] at h;simp only[List.cons_append,ImC];exact⟨h.1,pI h.2 (by simpa using h')⟩
theorem mF (hH:RH c L H):∀(t:Ty) {cs r:List SL}{ls:List Lf}{e:t.den}{ps:List Prop},t.parseL L cs=some (e,r,ps)->aK ps->ae (RL' c L) cs ls->ImC H (t.enc e) ls/\ae (RL' c L) r (ls.drop t.size)
 |.row t,[],r,ls,e,ps,h,hp,hr=>by simp[Ty.parseL,Ty.parse] at h
 | .row t,x::cs,r,ls,e,ps,h,hp,hr=>by
   simp only[Ty.parseL] at h;split at h
   .rename_i l cc hx;cases h;obtain⟨z,zs,rfl,h1,h2⟩:=hr.cons_inv;refine⟨?_,h2⟩;simp only[Ty.enc,ImC];exact⟨vB hH hx hp h1,trivial⟩
   .cases h
 | .pair a b,cs,r,ls,e,ps,h,hp,hr=>by
   simp only[Ty.parseL] at h;split at h
   .rename_i x r1 c1 h1;split at h
    .rename_i y r2 c2 h2;cases h;obtain⟨p1,p2⟩:=aK.app hp;obtain⟨k1,k2⟩:=mF hH a h1 p1 hr;obtain⟨k3,k4⟩:=mF hH b h2 p2 k2;refine⟨pI k1 (by rw[Ty.enc_len];exact k3),?_⟩;rw[List.drop_drop] at k4;exact k4
    .cases h
   .cases h
 | .int k,cs,r,ls,e,ps,h,hp,hr=>flat (.int k) (by
   simp only[Ty.parseL] at h;split at h
   .cases h;assumption
   .cases h) hr
 | .bool,cs,r,ls,e,ps,h,hp,hr=>flat .bool (by
   simp only[Ty.parseL] at h;split at h
   .cases h;assumption
   .cases h) hr
 | .str,cs,r,ls,e,ps,h,hp,hr=>flat .str (by
   simp only[Ty.parseL] at h;split at h
   .cases h;assumption
   .cases h) hr
where
 flat (t:Ty) {cs r:List SL} {ls:List Lf} {e:t.den} (h:t.parse cs=some (e,r)) (hr:ae (RL' c L) cs ls):ImC H (t.enc e) ls/\ae (RL' c L) r (ls.drop t.size):=by
  obtain⟨zs,rfl,h2⟩:=Ty.parse_rel t h hr;refine⟨jE (kC t e),?_⟩;rw[<- Ty.enc_len t e,List.drop_left];exact h2
theorem CF (hH:RH c L H) {t:Ty}{b i:Nat}{e:t.den}{ps:List Prop}(h:Df L t b i=some (e,ps)) (hp:aK ps) (hb:b<L.length):Im H (.vptr (t.enc e)) (.ptr (c.π b) i 0):=by
 unfold Df at h;split at h
 .rename_i cs ho;split at h
  .split at h
   .rename_i e' r c' hx;cases h;have:=hH.ob b hb;rw[ho] at this;obtain⟨ls,k1,k2⟩:=this;simp only[Im];exact .inr ⟨_,0,0,_,[ls],ls,rfl,k1,rfl,by rw[List.drop_zero];exact(mF hH t hx hp k2).1⟩
   .cases h
  .cases h
 .rename_i t' l ho;split at h
  .rename_i he _;obtain⟨he⟩:=he;subst he;cases h;have hlt:i<l.length:=hp.1;rcases hH.rowAt ho with ⟨_,rfl⟩ | ⟨_,_,els,k1,k2,k3,k4⟩
   .simp at hlt
   .simp only[Im];have he:els[i]?=some (t'.enc (l.getD i t'.dflt)):=by
     have h1:(els.take l.length)[i]?=els[i]?:=by rw[List.getElem?_take,if_pos hlt]
     rw[<- h1,k3,List.getElem?_map,zB hlt,zA,zB hlt];rfl
    refine .inr ⟨_,i,0,_,els,_,rfl,k1,he,?_⟩;rw[List.drop_zero];have:=jE (H:=H) (zs:=[]) (kC t' (l.getD i t'.dflt))
    rwa [List.append_nil] at this
  .cases h
 .cases h
theorem wF {x:SL}{z:Lf}(hcl:clL (nrm x)=true) (hz:RL' c L x z):Im H (bi (nrm x)) z:=by
 have:=(iO (c:=c) (L:=L) hcl).1 (sN hz);rw[this];exact nV (den0L_closed' hcl)
where
 den0L_closed' {x:SL} (h:clL x=true):(bi x).closed=true:=by
  cases x <;> simp only[clL,Bool.false_eq_true] at h <;> rfl
theorem FT (hH:RH c L H) {s:Option Ty}{x y:SL}{z:Lf}{ps:List Prop}(h:Kc L s x=some (y,ps)) (hp:aK ps) (hcl:clL y=true) (hz:RL' c L x z):Im H (bi y) z:=by
 unfold Kc at h;split at h
 .cases h;exact wF hcl hz
 .rename_i t;split at h
  .rename_i b i j;split at h
   .split at h
    .rename_i e c' hx;cases h;obtain⟨hb,rfl⟩:=hz;exact CF hH hx hp hb
    .cases h
   .cases h
  iterate 5
   split at h
   .rename_i l c' hx;cases h;exact vB hH hx hp hz
   .cases h
  .cases h;exact wF hcl hz
theorem GD (hH:RH c L H) {x y:SL}{z:Lf}{ps:List Prop}(h:IK L x=some (y,ps)) (hp:aK ps) (hcl:clL y=true) (hz:RL' c L x z):Im H (bi y) z:=by
 unfold IK at h;split at h
 iterate 3
  split at h
  .rename_i t' l' c' hx;cases h;exact oM hH hx hp hz
  .cases h
 .cases h;exact wF hcl hz
theorem vo (hH:RH c L H):∀{xs ys:List SL}{zs:List Lf}{ps:List Prop},yX L xs=some (ys,ps)->aK ps->ys.all clL=true->ae (RL' c L) xs zs->zs.length=ys.length/\ImC H (ys.map bi) zs
 |[],ys,zs,ps,h,hp,hcl,hz=>by cases h;rw[hz.nil_inv];exact⟨rfl,by simp only[List.map_nil,ImC]⟩
 | x::xs,ys,zs,ps,h,hp,hcl,hz=>by
   simp only[yX] at h;split at h
   .rename_i y c1 h1;split at h
    .rename_i l c2 h2;cases h;obtain⟨p1,p2⟩:=aK.app hp;simp only[List.all_cons,zH] at hcl;obtain⟨z,zs,rfl,z1,z2⟩:=hz.cons_inv;obtain⟨k1,k2⟩:=vo hH h2 p2 hcl.2 z2;refine⟨by simp[k1],?_⟩;simp only[zK,ImC];exact⟨GD hH h1 p1 hcl.1 z1,k2⟩
    .cases h
   .cases h
theorem Gv (hH:RH c L H) {s:Option Ty}{x y:SV}{z:AV}{ps:List Prop}(h:xq L s x=some (y,ps)) (hp:aK ps) (hcl:clV y=true) (hz:RVS c L x z):ImV H (aF y) z:=by
 cases x with
 | one x=>
   simp only[xq] at h;split at h
   .rename_i y' c' hx;cases h;obtain⟨w,rfl,hz⟩:=hz;exact⟨w,rfl,FT hH hx hp hcl hz⟩
   .cases h
 | agg xs=>
   simp only[xq] at h;split at h
   .rename_i y' c' hx;cases h;obtain⟨w,rfl,hz⟩:=hz;obtain⟨k1,k2⟩:=vo hH hx hp hcl hz;exact⟨w,rfl,by rw[zR];exact k1,k2⟩
   .cases h
 |tup xs=>simp[xq] at h
 |junk=>simp[xq] at h
 |ite _ _ _ _=>exact hz.elim
theorem ve (hH:RH c L H):∀{sg:List (Option Ty)}{xs ys:List SV}{zs:List AV}{ps:List Prop},qD L sg xs=some (ys,ps)->aK ps->ys.all clV=true->ae (RVS c L) xs zs->ae (ImV H) (ys.map aF) zs
 | sg,[],ys,zs,ps,h,hp,hcl,hz=>by
   have:qD L sg []=some ([],[]):=by cases sg <;> rfl
   rw[this] at h;cases h;rw[hz.nil_inv];exact ae.nil
 | sg,x::xs,ys,zs,ps,h,hp,hcl,hz=>by
   have e:qD L sg (x::xs)=match xq L (match sg with | []=>none | s::_=>s) x with
    |some (y,c)=>match qD L sg.tail xs with
     |some (l,c')=>some (y::l,su c c')
     |none=>none
    |none=>none:=by cases sg <;> rfl
   rw[e] at h;split at h
   .rename_i y c1 h1;split at h
    .rename_i l c2 h2;cases h;obtain⟨p1,p2⟩:=aK.app hp;simp only[List.all_cons,zH] at hcl;obtain⟨z,zs,rfl,z1,z2⟩:=hz.cons_inv;exact ae.cons (Gv hH h1 p1 hcl.1 z1) (ve hH h2 p2 hcl.2 z2)
    .cases h
   .cases h
end
end Go.EA
end
section
namespace Go.EA
def StR.good (S:SC) (X:Cx) (Q0:Ex->Tm->Heap->Prop):StR->Prop
 |.next s cs=>aK cs/\Sy S X Q0 s
 |.two p _ s1 s2=>(p->Sy S X Q0 s1)/\(¬ p->Sy S X Q0 s2)
 |.fin v=>v.den
 |.loop _=>False
 |.all l=>∀s∈l,Sy S X Q0 s
 |.opt p s1 s2=>(p->Sy S X Q0 s1)/\Sy S X Q0 s2
 |.twc c p _ s1 s2=>aK c/\(p->Sy S X Q0 s1)/\(¬ p->Sy S X Q0 s2)
 |.rel c α p s=>aK c/\∀x,aK (p x)->Sy S X Q0 (s x)
section
variable {S:SC} {X:Cx} {Q0:Ex->Tm->Heap->Prop} {E:Env} {c:Cn} {L:List SO} {H:Heap} {T:ST} {Tm:Tm} {m:Nat} {P:Cn->List SO->Prop}
theorem Cc {id:Nat}:∀{k:List SK}{kk:List Kt}{k':List SK},RSK P k kk->unw id k=some k'->∃kk',RSK P k' kk'/\∀(Q:Ex->EA.Tm->Heap->Prop) (T:EA.Tm) (H:Heap),Sem S X m kk' Q .normal T H->Sem S X m kk Q (.exit id) T H:=by
 intro k
 induction k with
 |nil=>intro kk k' _ h;cases h
 | cons x k ih=>
   intro kk k' hr h;cases kk with
   |nil=>cases x <;> exact hr.elim
   | cons y kk=>
     cases x <;> cases y <;> simp only[RSK] at hr
     case blk.blk i j=>
      obtain⟨rfl,hr⟩:=hr;simp only[unw] at h;split at h
      .rename_i he;have he:=zC he;subst he;cases h;exact⟨kk,hr,fun Q T H hs=>by show (if id=id then _ else _);rw[if_pos rfl];exact hs⟩
      .rename_i he;have he:¬ id=i:=fun e=>by rw[e,Nat.beq_refl] at he;cases he
       obtain⟨kk',h1,h2⟩:=ih hr h;exact⟨kk',h1,fun Q T H hs=>by show (if id=i then _ else _);rw[if_neg he];exact h2 Q T H hs⟩
     case rnd.rnd=>
      simp only[unw] at h;obtain⟨kk',h1,h2⟩:=ih hr.2.2 h;exact⟨kk',h1,h2⟩
     all_goals
      simp only[unw] at h;obtain⟨kk',h1,h2⟩:=ih hr.2 h;exact⟨kk',h1,h2⟩
theorem EG {id:Nat}:∀{k:List SK}{kk:List Kt},RSK P k kk->unw id k=none->∀(Q:Ex->EA.Tm->Heap->Prop) (T:EA.Tm) (H:Heap),Q (.exit id) T H->Sem S X m kk Q (.exit id) T H:=by
 intro k
 induction k with
 |nil=>intro kk hr _ Q T H hq;cases kk with
  |nil=>exact hq
  |cons y kk=>exact hr.elim
 | cons x k ih=>
   intro kk hr h Q T H hq;cases kk with
   |nil=>cases x <;> exact hr.elim
   | cons y kk=>
     cases x <;> cases y <;> simp only[RSK] at hr
     case blk.blk i j=>
      obtain⟨rfl,hr⟩:=hr;simp only[unw] at h;split at h
      .cases h
      .rename_i he;have he:¬ id=i:=fun e=>by rw[e,Nat.beq_refl] at he;cases he
       show (if id=i then _ else _);rw[if_neg he];exact ih hr h Q T H hq
     case rnd.rnd=>
      simp only[unw] at h;exact ih hr.2.2 h Q T H hq
     all_goals
      simp only[unw] at h;exact ih hr.2 h Q T H hq
theorem mR (hH:RH c L H) {l:Nat}{st:LSt}{pd:Option Ex}(h:aa L l=.loop st pd):l<L.length/\H.o (c.π l)=.loop st pd (c.Z l).T (c.Z l).ps (c.Z l).as (c.Z l).bd:=by
 have hl:l<L.length:=aI (by rw[h];simp);have:=hH.ob l hl;rw[h] at this;exact⟨hl,this⟩
theorem qh {l:Nat}{o:SO}(hl:bP (aa L l)=false) (h:∀t r,bS o≠some ⟨t,r⟩):au c L c (L.set l o) fun _=>False:=au.set hl fun t r e=>absurd e (h t r)
theorem DF (hH:RH c L H) {l:Nat}{st:LSt}{pd:Option Ex}(h:aa L l=.loop st pd) (st':LSt) (pd':Option Ex):RH c (L.set l (.loop st' pd')) (H.set (c.π l) (.loop st' pd' (c.Z l).T (c.Z l).ps (c.Z l).as (c.Z l).bd)):=
 hH.set (mR hH h).1 (by rw[h];trivial) (fun t r e=>by cases e) (fun _=>rfl) (fun h=>absurd trivial h) (by rw[h];rfl) rfl
theorem Jj (hH:RH c L H) {l:Nat}{st:LSt}{pd:Option Ex}(h:aa L l=.loop st pd):RH c (L.set l .dead) (H.set (c.π l) .dead):=
 hH.set (mR hH h).1 (by rw[h];trivial) (fun t r e=>by cases e) (fun _=>trivial) (fun _=>rfl) (by rw[h];rfl) rfl
theorem sJ (hE:qI S X E Q0) {e:Ex}{fr:List Fr}{ar:List AFr}(h:(vT E e T L fr).good S X Q0) (hT:RT c L T Tm) (hH:RH c L H) (hF:RFr fr ar c L):QA S X Q0 ar e Tm H:=by
 cases fr with
 | nil=>
   cases ar with
   |cons a ar=>exact hF.elim
   | nil=>
     cases e with
     |exit id=>exact h.elim
     |normal=>exact hE.top c T L Tm H _ (.inr rfl) h hT hH
     |ret=>exact hE.top c T L Tm H _ (.inl rfl) h hT hH
 | cons f fr=>
   cases ar with
   |nil=>cases f <;> exact hF.elim
   | cons a ar=>
     cases f with
     | call f res rs k T0 dst=>
       cases a with
       | call m res' kk T0m dst'=>
         obtain⟨rfl,rfl,h3,h4,h5⟩:=hF;have key:(e=.ret\/e=.normal)->QA S X Q0 (.call m res kk T0m dst::ar) e Tm H:=by
          intro he;have h2:(match BL T L res with | some v=>StR.next ⟨.normal,f,rs,k,fG T0 dst v,L,fr⟩ [] | none=>.fin .ff).good S X Q0:=by rcases he with rfl | rfl <;> exact h
          split at h2
          .rename_i v hv;obtain⟨a,e1,e2⟩:=yL hT hH hv;exact⟨he,a,e1,h2.2 c (cz T0m dst a) H kk ar m (h3.set e2) hH h4 h5⟩
          .exact h2.elim
         cases e with
         |exit id=>exact h.elim
         |normal=>exact key (.inr rfl)
         |ret=>exact key (.inl rfl)
       |_=>exact hF.elim
     | range f l rs ps as bd k T0=>
       cases a with
       | range m l' kk T0m=>
         obtain⟨h1,rfl,h3,h4,h5,h6⟩:=hF;have key:(e=.ret\/e=.normal)->QA S X Q0 (.range m (c.π l) kk T0m::ar) e Tm H:=by
          intro he;have h2:(match aa L l with
           |.loop st pd=>match BS st .busy with
            |true=>StR.fin .ff
            |false=>.next ⟨match pd with | some e'=>e' | none=>.normal,f,rs,k,T0,L.set l .dead,fr⟩ []
           |_=>.fin .ff).good S X Q0:=by rcases he with rfl | rfl <;> exact h
          split at h2
          .rename_i st pd ho;split at h2
           .exact h2.elim
           .rename_i hb;obtain⟨g1,g2⟩:=mR hH ho;have hb:st≠.busy:=fun e=>by rw[e] at hb;cases hb
            have K:au c L c (L.set l .dead) fun _=>False:=qh (by rw[ho];rfl) fun _ _ e=>by cases e
            have:=h2.2 c T0m _ kk ar m (K.rt0 h4) (Jj hH ho) h5 (K.fr0 h6);refine⟨he,_,_,_,_,_,_,g2,hb,?_⟩;cases pd with
            |none=>exact this
            |some e'=>exact this
          .exact h2.elim
         cases e with
         |exit id=>exact h.elim
         |normal=>exact key (.inr rfl)
         |ret=>exact key (.inl rfl)
       |_=>exact hF.elim
     | yas f l rs bd k T0 dst=>
       cases a with
       | yas m m' l' bd' kk T0m dst'=>
         obtain⟨h1,rfl,rfl,rfl,h5,h6,h7⟩:=hF;cases e with
         |exit id=>exact h.elim
         |ret=>exact h.elim
         | normal=>
           have h2:(match aa L l with
            |.loop .ready pd=>StR.next ⟨.normal,f,rs,[.code bd],T,L.set l (.loop .busy pd),.ybd f l rs k T0 dst::fr⟩ []
            |_=>.fin .ff).good S X Q0:=h
           split at h2
           .rename_i pd ho;obtain⟨g1,g2⟩:=mR hH ho;have K:au c L c (L.set l (.loop .busy pd)) fun _=>False:=qh (by rw[ho];rfl) fun _ _ e=>by cases e
            exact⟨rfl,pd,_,_,_,_,g2,h2.2 c Tm _ [.code bd] (.ybd m (c.π l) kk T0m dst::ar) m' (K.rt0 hT) (DF hH ho .busy pd) ⟨rfl,trivial⟩ ⟨by simpa using h1,rfl,rfl,K.rt0 h5,h6,K.fr0 h7⟩⟩
           .exact h2.elim
       |_=>exact hF.elim
     | ybd f l rs k T0 dst=>
       cases a with
       | ybd m l' kk T0m dst'=>
         obtain⟨h1,rfl,rfl,h4,h5,h6⟩:=hF;have h2:(match aa L l with
          |.loop .busy _=>match e with
           |.normal=>StR.next ⟨.normal,f,rs,k,fG T0 dst (.one .tt),L.set l (.loop .ready none),fr⟩ []
           |e=>.next ⟨.normal,f,rs,k,fG T0 dst (.one .ff),L.set l (.loop .done (some e)),fr⟩ []
          |_=>.fin .ff).good S X Q0:=h
         split at h2
         .rename_i pd ho;obtain⟨g1,g2⟩:=mR hH ho;refine⟨pd,_,_,_,_,g2,?_⟩;have fin:∀(b:Bool) (st':LSt) (pd':Option Ex),Sy S X Q0 ⟨.normal,f,rs,k,fG T0 dst (.one (Ba b)),L.set l (.loop st' pd'),fr⟩->Sem S X m kk (QA S X Q0 ar) .normal (cz T0m dst (.one (.bool b))) (H.set (c.π l) (.loop st' pd' (c.Z l).T (c.Z l).ps (c.Z l).as (c.Z l).bd)):=by
           intro b st' pd' hs;have K:au c L c (L.set l (.loop st' pd')) fun _=>False:=qh (by rw[ho];rfl) fun _ _ e=>by cases e
           exact hs c _ _ kk ar m ((K.rt0 h4).set ⟨_,rfl,uL b⟩) (DF hH ho st' pd') h5 (K.fr0 h6)
          cases e with
          |normal=>exact fin true .ready none h2.2
          |exit id=>exact fin false .done (some (.exit id)) h2.2
          |ret=>exact fin false .done (some .ret) h2.2
         .exact h2.elim
       |_=>exact hF.elim
end
end Go.EA
end
section
namespace Go.EA
section
variable {S:SC} {X:Cx} {Q0:Ex->Tm->Heap->Prop} {E:Env} {c:Cn} {L:List SO} {H:Heap} {T:ST} {Tm:Tm} {m:Nat} {P:Cn->List SO->Prop}
theorem jA:∀{fr:List Fr}{ar:List AFr}{l f:Nat}{rs:List dV}{ps:List Nat}{as bd:AC}{T0:ST},vX l fr=some (f,rs,ps,as,bd,T0)->RFr fr ar c L->∃T0m,c.Z l=⟨T0m,ps,as,bd⟩/\RT c L T0 T0m
 |[],ar,_,_,_,_,_,_,_,h,_=>by cases h
 | .range f' l' rs' ps' as' bd' k T::fr,ar,l,f,rs,ps,as,bd,T0,h,hF=>by
   cases ar with
   |nil=>exact hF.elim
   | cons a ar=>
     cases a with
     | range m l2 kk T0m=>
       obtain⟨h1,h2,h3,h4,h5,h6⟩:=hF;simp only[vX] at h;split at h
       .rename_i he;have he:=zC he;subst he;cases h;exact⟨T0m,h3,h4⟩
       .exact jA h h6
     |_=>exact hF.elim
 | .call f' res rs' k T dst::fr,ar,l,f,rs,ps,as,bd,T0,h,hF=>by
   cases ar with
   |nil=>exact hF.elim
   |cons a ar=>cases a with
    |call=>exact jA (fr:=fr) h hF.2.2.2.2
    |_=>exact hF.elim
 | .yas f' l' rs' bd' k T dst::fr,ar,l,f,rs,ps,as,bd,T0,h,hF=>by
   cases ar with
   |nil=>exact hF.elim
   |cons a ar=>cases a with
    |yas=>exact jA (fr:=fr) h hF.2.2.2.2.2.2
    |_=>exact hF.elim
 | .ybd f' l' rs' k T dst::fr,ar,l,f,rs,ps,as,bd,T0,h,hF=>by
   cases ar with
   |nil=>exact hF.elim
   |cons a ar=>cases a with
    |ybd=>exact jA (fr:=fr) h hF.2.2.2.2.2
    |_=>exact hF.elim
theorem yB {cap:List (Nat×Nat×Nat)}(h:∀q∈cap,q.1<L.length):ae (RVS c L) (cap.map fun q=>SV.one (.ptr q.1 q.2.1 q.2.2)) ((cap.map fun q=>(c.π q.1,q.2)).map fun q=>AV.one (.ptr q.1 q.2.1 q.2.2)):=
 ⟨by simp,fun i x y hx hy=>by
  rw[List.getElem?_map,zD] at hx;obtain⟨q,hq,rfl⟩:=hx;rw[List.map_map,List.getElem?_map,hq] at hy;simp only[Option.map_some,zE] at hy;subst hy;exact⟨_,rfl,h q (zU hq),rfl⟩⟩
theorem uz {v:SV}{mk:SV->SS}{chk:SV->Bool}{cs:List Prop}(h:(fork v mk chk cs).good S X Q0):∃w,aF v=aF w/\chk w=true/\aK cs/\Sy S X Q0 (mk w):=by
 unfold fork at h;split at h
 .rename_i p d a b;split at h
  .rename_i hc;simp only[zH] at hc;obtain⟨h0,h1,h2⟩:=h;by_cases hp:p
   .exact⟨a,if_pos hp,hc.1,h0,h1 hp⟩
   .exact⟨b,if_neg hp,hc.2,h0,h2 hp⟩
  .exact h.elim
 .split at h
  .rename_i hc;exact⟨_,rfl,hc,h.1,h.2⟩
  .exact h.elim
theorem vZ (hE:qI S X E Q0) {d:Bool}{f:Nat}{rs:List dV}{i:AI}{r l:List AI}{q:Nat}{fo:Opd}{xs:List Opd}{k:List SK}{kk:List Kt}{fr:List Fr}{ar:List AFr}
 (hop:i.op=.call fo xs) (hkn:known Tm i.gd=true) (hw:wanted Tm i.gd=true) (hdr:l.drop q=i::r)
 (h:(jh E d ⟨.normal,f,rs,kS d (i::r) k,T,L,fr⟩ i.dst fo xs (kS d r k)).good S X Q0) (hT:RT c L T Tm) (hH:RH c L H) (hk:RSK (RFr fr ar) k kk) (hF:RFr fr ar c L) :
 Sem S X m (kA d l q kk) (QA S X Q0 ar) .normal Tm H:=by
 have hdr1:l.drop (q+1)=r:=by
  have:l.drop (q+1)=(l.drop q).drop 1:=by rw[List.drop_drop]
  rw[this,hdr];rfl
 rw[fC,hdr];have ord:d=false->(dw S (fo.ev Tm) (xs.map (·.ev Tm)) H fun v H1=>Sem S X m (kA d l (q+1) kk) (QA S X Q0 ar) .normal (cz Tm i.dst v) H1)->MD S X m d (i::r) Tm H (Sem S X m kk (QA S X Q0 ar) .normal):=by
  rintro rfl hc;refine MO.cons hE.good.ok hkn (.inr (.inr ⟨hw,fo,xs,hop,hc.mono fun v H1 hs=>?_⟩));have:=(fC (S:=S) (X:=X) (m:=m) false l (q+1) kk (QA S X Q0 ar) (cz Tm i.dst v) H1).1 hs;rw[hdr1] at this;exact this
 have hfo:=hT.opd fo;unfold jh at h;simp only at h;split at h
 .rename_i g cap hv;rw[hv] at hfo;obtain⟨fv,hfv,hcap,rfl⟩:=hfo;split at h
  .rename_i con hcon;have hcap0:cap=[]:=by
    cases cap with
    |nil=>rfl
    |cons _ _=>cases hcon
   subst hcap0;have hcon:E.KT g=some con:=hcon;obtain⟨g0,hp,hun,hgg⟩:=hE.kt g con hcon;split at h
   .
    split at h
    .rename_i ys c0 him;split at h
     .rename_i hcl;split at h
      .rename_i v cs hg
       .obtain⟨v',hv',hsc,hcs,hs⟩:=uz h;obtain⟨p0,p1⟩:=aK.app hcs;simp only[zH] at hsc;obtain⟨cs',k1,k2⟩:=hgg _ v cs hg p1;rw[hv'] at k1
        revert hsc hs k1
        generalize v'=v;intro hs hsc k1;have him:=ve hH him p0 hcl (lG hT xs);have hpe:iX g0 (xs.map (·.ev Tm)) H=some (aF v,H):=oW hun (.inr ⟨hsc.2,_,_,him,k1,k2⟩);have hres:Sem S X m (kA d l (q+1) kk) (QA S X Q0 ar) .normal (cz Tm i.dst (aF v)) H:=hs c _ H (kA d l (q+1) kk) ar m (hT.set ((kQ hsc.1).2 rfl)) hH (RSK.kA hdr1.symm hk) hF;cases d with
        | false=>
          refine ord rfl ?_;rw[hfv];exact dw.pr (hE.good.prs g _ hp) hpe hres
        | true=>
          have hres:=(fC (S:=S) (X:=X) (m:=m) true l (q+1) kk (QA S X Q0 ar) (cz Tm i.dst (aF v)) H).1 hres;rw[hdr1] at hres;refine DO.cons hkn (.inr (.inr ⟨hw,fo,xs,aF v,H,hop,?_,hres⟩));rw[hfv];simp only[callP,eD,List.map_nil,hp,List.isEmpty_nil,if_true];exact hpe
      .exact h.elim
     .exact h.elim
    .exact h.elim
   split at h
   .
    rename_i b hb;split at h
    .rename_i T' L' hz;obtain⟨T1m,H1,a1,a2,a3,a4⟩:=lQ (S:=S) hT hH hz;have:=h.2 c T1m H1 (kA false l q kk) ar m a2 a3 (RSK.kA (d:=false) (l:=i::r) hdr.symm hk) (a4.fr (fun b hb=>hb) hF);rw[fC,hdr] at this;exact MD.abs rfl (a1 m) this
    .exact h.elim
   .split at h
    .rename_i hcl;split at h
     .rename_i v cs hg
      .obtain⟨v',hv',hclv,hcs,hs⟩:=uz h;obtain⟨cs',k1,k2⟩:=hgg _ v cs hg hcs;rw[hv'] at k1
       revert hclv hs k1
       generalize v'=v;intro hclv hs k1;have hpe:∀H,iX g0 _ H=some (aF v,H):=fun H=>oW hun (.inl ⟨cs',k1,k2⟩)
       obtain⟨w1,w2⟩:=Dw hcl (lG hT xs);have hres:Sem S X m (kA d l (q+1) kk) (QA S X Q0 ar) .normal (cz Tm i.dst (aF v)) H:=hs c _ H (kA d l (q+1) kk) ar m (hT.set ((kQ hclv).2 rfl)) hH (RSK.kA hdr1.symm hk) hF;cases d with
       | false=>
         refine ord rfl ?_;rw[hfv];exact dw.weak w1 (dw.pr (hE.good.prs g _ hp) (hpe H) hres)
       | true=>
         have hres:=(fC (S:=S) (X:=X) (m:=m) true l (q+1) kk (QA S X Q0 ar) (cz Tm i.dst (aF v)) H).1 hres;rw[hdr1] at hres;refine DO.cons hkn (.inr (.inr ⟨hw,fo,xs,aF v,H,hop,?_,hres⟩));rw[hfv,<- w2 rfl];simp only[callP,eD,List.map_nil,hp,List.isEmpty_nil,if_true];exact hpe H
     .exact h.elim
    .exact h.elim
  .split at h
   .rename_i mc hmc;have hcap0:cap=[]:=by
     cases cap with
     |nil=>rfl
     |cons _ _=>cases hmc
    subst hcap0;have hd:d=false/\E.MT g=some mc:=by
     cases d with
     |false=>exact⟨rfl,hmc⟩
     |true=>cases hmc
    obtain⟨rfl,hmc⟩:=hd;split at h
    .rename_i r hr;split at h
     .exact h.elim
     rename_i hfi;obtain⟨h1,h2⟩:=h;refine ord rfl ?_;rw[hfv];refine dw.fn ((hE.mt g mc hmc c L H _ _ r hr h1 hH (lG hT xs)).mono ?_);rintro v H1 ⟨x,hx,c',k1,k2,k3⟩;have hT':RT c' (r.L x) (match r.inv with | []=>T | inv=>T.map (jVs inv)) Tm:=by
      split
      .rename_i hin;rw[hin] at k3;exact(k3.any fun b hb=>by cases hb).rt0 hT
      .exact k3.jts (fun b hb=>hb) hT
     exact h2 x hx c' _ H1 (kA false l (q+1) kk) ar m (hT'.set k1) k2 (RSK.kA (d:=false) hdr1.symm hk) (k3.fr (fun b hb=>by
      rw[List.any_eq_false] at hfi;cases hq:bV b fr with
      |false=>rfl
      |true=>exact absurd hq (hfi b hb)) hF)
    .exact h.elim
   split at h
   .rename_i af haf _;split at h
    ·rename_i hnp;have hnp:=zC hnp;refine ord rfl ?_;rw[hfv];refine dw.fn (MF.of (hE.cd g af haf) (by simpa using hnp) ?_);have hall:ae (RVS c L) (xs.map (opd T)++cap.map fun q=>SV.one (.ptr q.1 q.2.1 q.2.2)) (xs.map (·.ev Tm)++(cap.map fun q=>(c.π q.1,q.2)).map fun q=>AV.one (.ptr q.1 q.2.1 q.2.2)):=(lG hT xs).append (yB hcap);have hnew:RT c L (qj af (xs.map (opd T)) cap) (jf (xs.map (·.ev Tm)++(cap.map fun q=>(c.π q.1,q.2)).map fun q=>AV.one (.ptr q.1 q.2.1 q.2.2))):=by
      unfold qj;rw[<- zO];exact RT.args _ hall
     exact h.2 c _ H [.code af.body] (.call m af.res (kA false l (q+1) kk) Tm i.dst::ar) H.n hnew hH ⟨rfl,trivial⟩ ⟨rfl,rfl,hT.mask _,RSK.kA (d:=false) hdr1.symm hk,hF⟩
    .exact h.elim
   .exact h.elim
 .rename_i lo hv;rw[hv] at hfo;obtain⟨fv,hfv,hlo,rfl⟩:=hfo;split at h
  .rename_i pd f' rs' ps as bd T0 ho hfr;split at h
   .rename_i hlen;have hlen:=zC hlen;obtain⟨g1,g2⟩:=mR hH ho;obtain⟨T0m,hz,hT0⟩:=jA hfr hF;rw[hz] at g2;refine ord rfl ?_;rw[hfv];refine dw.yld g2 (by simpa using hlen) ?_;have:=h.2 c _ H [.code as] (.yas m H.n (c.π lo) bd (kA false l (q+1) kk) Tm i.dst::ar) H.n (vg (ps:=ps) hT0 (lG hT xs)) hH ⟨rfl,trivial⟩ ⟨hlo,rfl,rfl,rfl,hT.mask _,RSK.kA (d:=false) hdr1.symm hk,hF⟩;refine MC.mono this fun e T1 H1 hh=>?_
    obtain⟨h1,pend1,T2,ps1,as1,bd1,h2,h3⟩:=hh;exact⟨h1,pend1,T2,ps1,as1,bd1,h2,h3.mono fun e T' H2 hy=>by
     obtain⟨pend2,T3,ps2,as2,bd2,k1,k2⟩:=hy;exact⟨pend2,T3,ps2,as2,bd2,k1,by cases e <;> exact k2⟩⟩
   .exact h.elim
  .exact h.elim
 .exact h.elim
theorem Am {op:AOp}{b:Nat}{o:SO}(h:Ce T L op=some (b,o)):∃t u l i,aa L b=.nest t u l none/\o=.nest t u l (some i):=by
 unfold Ce at h;split at h
 .split at h
  .split at h
   .rename_i hb;cases h;exact⟨_,_,_,_,hb,rfl⟩
   .cases h
  .cases h
 .cases h
theorem wL {op:AOp}{k b i:Nat}{L':List SO}{cs:List Prop}(hT:RT c L T Tm) (hH:RH c L H) (h:sD T L op=some ((k,b,i),L',cs)) (hc:aK cs) :
 ∃H' c',ah Tm H op=some (und,H')/\au c L c' L' (fun _=>False)/\RH c' L' H'/\RT c' L' (T.map (GH k b i)) Tm:=by
 unfold sD at h;split at h
 case h_2=>cases h
 rename_i n o p;split at h
 case h_2=>cases h
 rename_i b' i' k' hn hx hy;have hn:=zC hn;subst hn;split at h
 case h_2=>cases h
 rename_i t u l i2 t' m hb hk;split at h
 case h_2=>cases h
 rename_i hh _;obtain⟨he⟩:=hh;subst he;simp only[zE,zF] at h;obtain⟨⟨rfl,rfl,rfl⟩,rfl,rfl⟩:=h;rw[eX];obtain⟨hi,rfl,_⟩:=hc;have hxT:=hT.opd o;have hyT:=hT.opd p;rw[hx] at hxT;rw[hy] at hyT;obtain⟨z,hz,hlt,rfl⟩:=hxT;obtain⟨w,hw,hltk,hr⟩:=hyT;have h0b:=hH.ob b' hlt;rw[hb] at h0b;obtain⟨hnz,els,r,y0,x0,k1,k2,k3,k4,k5⟩:c.nz b'=true/\∃els r y0 x0,H.o (c.π b')=.blk (1+u.size) els true/\els.length=l.length/\l[i']?=some (r,y0)/\els[i']?=some (x0::u.enc y0)/\l.getD i' ([],u.dflt)=(r,y0):=by
  rcases h0b with ⟨_,h1⟩ | ⟨h1,els,h2,h3,h4⟩
  .rw[h1] at hi;simp at hi
  .obtain⟨x0,q1,q2⟩:=h4 i' l[i'] (zB hi);exact⟨h1,els,l[i'].1,l[i'].2,x0,h2,h3,zB hi,q1,by rw[zA,zB hi];rfl⟩
 rw[k5];have hbk:b'≠k':=fun e=>by rw[e,hk] at hb;cases hb
 have hL0:aa (L.set k' .dead) b'=.nest t' u l (some i'):=by rw[ak hbk];exact hb
 have hkn:bP (aa L k')=false:=by rw[hk];rfl
 have hR:=hH.kill hkn;have hrow:=hH.rowAt hk;have hlv0:∀d,d<L.length->az c (aa (L.set k' .dead) d) d->d≠k'/\az c (aa L d) d:=fun d hd hl=>by
  by_cases e:d=k'
  .subst e;rw[aM hd] at hl;exact hl.elim
  .rw[ak e] at hl;exact⟨e,hl⟩
 have hI0:∀d i k2 r',d<L.length->Inn c (L.set k' .dead) d i k2 r'->Inn c L d i k2 r':=fun d i k2 r' hd hI=>by
  by_cases e:d=k'
  .subst e;exact(eT (by rw[aM hd];rfl) hI).elim
  .exact gJ (ak e) rfl hI
 have hev:ah Tm H (.store 1 o p)=some (und,H.set (c.π b') (.blk (1+u.size) (els.set i' (w::u.enc y0)) true)):=by
  simp only[ah,hz,hw,AV.cells?,zM,List.length_nil,Nat.zero_add,if_true,Heap.storeC,k1,k4];rw[if_pos (by omega)];rfl
 have main:∀q,(∀x,RL' c L (.osl k') x->InS q m.length x)->(∀k2,q=some k2->k2<H.n/\(∃els,H.o k2=.blk t'.size els true/\aD els=true/\els.take m.length=m.map t'.enc)/\(∀d,d<(L.set k' .dead).length->az c (aa (L.set k' .dead) d) d->c.π d≠k2)/\∀d i3 k3 r',d<(L.set k' .dead).length->Inn c (L.set k' .dead) d i3 k3 r'->k3≠k2)->
  ∃H' c',ah Tm H (.store 1 o p)=some (und,H')/\au c L c' ((L.set k' .dead).set b' (.nest t' u (l.set i' (m,y0)) none)) (fun _=>False)/\RH c' ((L.set k' .dead).set b' (.nest t' u (l.set i' (m,y0)) none)) H'/\RT c' ((L.set k' .dead).set b' (.nest t' u (l.set i' (m,y0)) none)) (T.map (GH k' b' i')) Tm:=fun q h1 h2=>by
  have K:au c L (dO c b' i' q) ((L.set k' .dead).set b' (.nest t' u (l.set i' (m,y0)) none)) (fun _=>False):=((au.set hkn fun t l h=>by cases h).trans (au.close hL0 _) (by simp)).any (fun _ h=>h.elim);have h1w:=h1 w ⟨hltk,hr⟩;refine⟨_,dO c b' i' q,hev,K,hR.close hL0 hi k1 h1w h2,fun j=>?_⟩;have hj:=hT j;rw[zA,List.getElem?_map];rw[zA] at hj;cases hg:T[j]? with
  |none=>trivial
  | some v=>
    rw[hg] at hj;simp only[Option.map_some,Option.getD_some] at hj ⊢;unfold GH;split
    .rename_i k2;split
     .rename_i he;have he:=zC he;subst he;obtain⟨x,e1,e2⟩:=hj;have hlb:b'<(L.set k2 .dead).length:=by rw[List.length_set];exact hlt
      refine⟨x,e1,by rw[List.length_set];exact hlb,t',u,l.set i' (m,y0),aM hlb,(m,y0),by rw[List.getElem?_set_self hi],?_⟩;have:=h1 x e2;have eν:(dO c b' i' q).ν b' i'=q:=by simp[dO]
      rw[eν];exact this
     .exact K.rv0 hj
    .exact K.rv0 hj
 rcases hr t' m (asR hk) with ⟨hz0,rfl,_⟩ | ⟨hnk,_⟩
 .refine main none (fun x ⟨_,hx⟩=>?_) (fun k2 h=>by cases h);rcases hx t' [] (asR hk) with ⟨_,_,hx⟩ | ⟨h,_⟩
  .exact⟨rfl,hx⟩
  .rw[hz0] at h;cases h
 .refine main (some (c.π k')) (fun x ⟨_,hx⟩=>?_) fun k2 h=>?_
  .rcases hx t' m (asR hk) with ⟨h,_⟩ | ⟨_,h⟩
   .rw[hnk] at h;cases h
   .exact h
  .cases h;rcases hrow with ⟨g,_⟩ | ⟨_,g1,els',g2,g3,g4,_⟩
   .rw[hnk] at g;cases g
   .have hlk:az c (aa L k') k':=by rw[hk];exact hnk
    refine⟨g1,⟨els',g2,g3,g4⟩,fun d hd hl e=>?_,fun d i3 k3 r' hd hI e=>?_⟩
    .have hd:d<L.length:=by simpa using hd
     obtain⟨p1,p2⟩:=hlv0 d hd hl;exact p1 (hH.inj d k' hd hltk p2 hlk e)
    .have hd:d<L.length:=by simpa using hd
     exact hH.ns.pi d i3 k3 r' hd (hI0 d i3 k3 r' hd hI) k' hltk hlk e.symm
theorem Au {op:AOp}{b:Nat}{o:SO}(h:Ei T L op=some (b,o)):∃t cs e,aa L b=.raw cs/\t.parseN cs=some (e,[])/\o=.row t [e]:=by
 unfold Ei at h;split at h
 .split at h
  .split at h
   .rename_i t _ _;split at h
    .split at h
     .rename_i cs hb;split at h
      .rename_i e hp;cases h;exact⟨t,cs,e,hb,hp,rfl⟩
      .cases h
     .cases h
    .cases h
   .cases h
  .cases h
 .cases h
theorem vY (hE:qI S X E Q0) {d:Bool}{f:Nat}{rs:List dV}{i:AI}{r l:List AI}{q:Nat}{k:List SK}{kk:List Kt}{fr:List Fr}{ar:List AFr}
 (hdr:l.drop q=i::r)
 (h:(rz E d ⟨.normal,f,rs,kS d (i::r) k,T,L,fr⟩ i (kS d r k)).good S X Q0) (hT:RT c L T Tm) (hH:RH c L H) (hk:RSK (RFr fr ar) k kk) (hF:RFr fr ar c L) :
 Sem S X m (kA d l q kk) (QA S X Q0 ar) .normal Tm H:=by
 have hdr1:l.drop (q+1)=r:=by
  have:l.drop (q+1)=(l.drop q).drop 1:=by rw[List.drop_drop]
  rw[this,hdr];rfl
 have again:∀{T':ST},RT c L T' Tm->Sy S X Q0 ⟨.normal,f,rs,kS d (i::r) k,T',L,fr⟩->Sem S X m (kA d l q kk) (QA S X Q0 ar) .normal Tm H:=fun hT' hs=>hs c Tm H (kA d l q kk) ar m hT' hH (RSK.kA hdr.symm hk) hF
 have next:∀{T':ST} {Tm':EA.Tm} {c':Cn} {L':List SO} {H':Heap},Sy S X Q0 ⟨.normal,f,rs,kS d r k,T',L',fr⟩->RT c' L' T' Tm'->RH c' L' H'->RFr fr ar c' L'->MD S X m d r Tm' H' (Sem S X m kk (QA S X Q0 ar) .normal):=fun {T' Tm' c' L' H'} hs h1 h2 h3=>by
  have:=(fC (S:=S) (X:=X) (m:=m) d l (q+1) kk (QA S X Q0 ar) Tm' H').1 (hs c' Tm' H' (kA d l (q+1) kk) ar m h1 h2 (RSK.kA hdr1.symm hk) h3);rw[hdr1] at this;exact this
 unfold rz at h;simp only at h;split at h
 .
  rename_i hg;rw[fC,hdr];have hkw:known Tm i.gd=true/\wanted Tm i.gd=false:=by
   split at hg
   .cases hg
   .rename_i g b hgd;have hgv:=hT g;split at hg
    .rename_i hv;rw[hv] at hgv;obtain⟨w,e,hr⟩:=hgv;cases hr;rw[hgd];simp only[known,wanted,e];cases b <;> simp_all [AV.isJ]
    .rename_i hv;rw[hv] at hgv;obtain⟨w,e,hr⟩:=hgv;cases hr;rw[hgd];simp only[known,wanted,e];cases b <;> simp_all [AV.isJ]
    .rename_i hv;rw[hv] at hgv;obtain⟨w,e,hr⟩:=hgv;have:=hr.nil_inv;subst this;rw[hgd];simp only[known,wanted,e];simp[AV.isJ]
    .cases hg
  exact MD.cons hE.good hkw.1 (.inl ⟨hkw.2,next h.2 (hT.set ⟨[],rfl,ae.nil⟩) hH hF⟩)
 .rename_i hg;have hkw:known Tm i.gd=true/\wanted Tm i.gd=true:=by
   split at hg
   .rename_i hgd;rw[hgd];exact⟨rfl,rfl⟩
   .rename_i g b hgd;have hgv:=hT g;split at hg
    .rename_i hv;rw[hv] at hgv;obtain⟨w,e,hr⟩:=hgv;cases hr;rw[hgd];simp only[known,wanted,e];cases b <;> simp_all [AV.isJ]
    .rename_i hv;rw[hv] at hgv;obtain⟨w,e,hr⟩:=hgv;cases hr;rw[hgd];simp only[known,wanted,e];cases b <;> simp_all [AV.isJ]
    .cases hg
    .cases hg
  split at h
  .rename_i fo xs hop;exact vZ hE hop hkw.1 hkw.2 hdr h hT hH hk hF
  .rename_i op hnc;have hcall:jT i.op=false:=by
    cases ho:i.op with
    |call fo xs=>exact absurd ho (hnc fo xs)
    |_=>rfl
   rw[fC,hdr];split at h
   .rename_i p neg hq;split at hq
    .cases hq
    .obtain⟨h1,h2⟩:=h;unfold Ld at hq;split at hq
     .rename_i neg' x hop;split at hq
      .rename_i t l hv;simp only[zE,zF] at hq;obtain⟨rfl,rfl⟩:=hq;have hx:=hT.opd x;rw[hv] at hx;obtain⟨y,e,hr⟩:=hx;have hr:y=.vrow t.size (l.map t.enc):=hr;subst hr;refine MO.eqn hE.good.ok hkw.1 hkw.2 hop e (fun h0=>?_) ?_
       .have h0:l=[]:=by simpa using h0
        exact next (h1 h0) (hT.set ⟨_,rfl,by cases neg' <;> rfl⟩) hH hF
       .exact next h2 (hT.set ⟨_,rfl,by cases neg' <;> rfl⟩) hH hF
      .cases hq
     .cases hq
   .split at h
    .rename_i b hq;split at hq
     .cases hq
     .split at h
      .rename_i T' L' hz;obtain⟨T1m,H1,a1,a2,a3,a4⟩:=lQ (S:=S) hT hH hz;have:=h.2 c T1m H1 (kA false l q kk) ar m a2 a3 (RSK.kA (d:=false) (l:=i::r) hdr.symm hk) (a4.fr (fun b hb=>hb) hF);rw[fC,hdr] at this;exact MD.abs rfl (a1 m) this
      .exact h.elim
    split at h
    .rename_i b hq;have hd:d=false:=by
      cases d with
      |false=>rfl
      |true=>cases hq
     subst hd;split at h
     .rename_i T' L' hz;obtain⟨T1m,H1,a1,a2,a3,a4⟩:=Ha (S:=S) hT hH hz;have:=h.2 c T1m H1 (kA false l q kk) ar m a2 a3 (RSK.kA (d:=false) (l:=i::r) hdr.symm hk) (a4.fr (fun b hb=>hb) hF);rw[fC,hdr] at this;exact MD.abs rfl (a1 m) this
     .exact h.elim
    split at h
    .rename_i b2 o hq;have hd:d=false:=by
      cases d with
      |false=>rfl
      |true=>cases hq
     subst hd;obtain⟨t,cs,e,hb,hp,rfl⟩:=Au hq;obtain⟨H1,a1,a3,a4⟩:=Bv (S:=S) hT hH hb hp;have:=h.2 c Tm H1 (kA false l q kk) ar m (a4.rt0 hT) a3 (RSK.kA (d:=false) (l:=i::r) hdr.symm hk) (a4.fr0 hF);rw[fC,hdr] at this;exact MD.abs rfl (a1 m) this
    split at h
    .rename_i b o hq;split at h
     .rename_i hfr;obtain⟨t,u,l',i',hb,rfl⟩:=Am hq;have K:=au.open (c:=c) (i:=i') hb;have:=h.2 c Tm H (kA d l q kk) ar m (K.jt hT) (hH.open hb) (RSK.kA (d:=d) (l:=i::r) hdr.symm hk) (K.fr (fun b' hb'=>by rw[hb'];exact hfr) hF);rw[fC,hdr] at this;exact this
     .exact h.elim
    split at h
    .rename_i k1 b1 i1 L' cs hq;obtain⟨H',c',e1,K,hH',hT'⟩:=wL hT hH hq h.1;exact MD.cons hE.good hkw.1 (.inr ⟨hkw.2,hcall,und,H',e1,next h.2 (hT'.set ⟨_,rfl,ae.nil⟩) hH' (K.fr0 hF)⟩)
    split at h
    .rename_i v L' inv cs hop;have hok:=fun hc=>ET hT hH hop hc
     split at h
     .obtain⟨av,H',c',e1,K,hv,hH'⟩:=hok h.1;have K0:au c L c' L' fun _=>False:=K.any fun b hb=>by cases hb
      exact MD.cons hE.good hkw.1 (.inr ⟨hkw.2,hcall,av,H',e1,next h.2 ((K0.rt0 hT).set hv) hH' (K0.fr0 hF)⟩)
     .rename_i b;split at h
      ·rename_i hfr;obtain⟨av,H',c',e1,K,hv,hH'⟩:=hok h.1;have K1:au c L c' (L'.map (jO b)) (·=b):=K.any fun b' hb=>by cases hb;rfl
       exact MD.cons hE.good hkw.1 (.inr ⟨hkw.2,hcall,av,H',e1,next h.2 ((K1.jt hT).set hv) hH' (K1.fr (fun b' hb=>by rw[hb];exact hfr) hF)⟩)
      .exact h.elim
    .rename_i p dp v1 L1 v2 L2 hop;split at h
     .obtain⟨h1,h2⟩:=Ar hT hH hop;by_cases hp:p
      .obtain⟨av,H',c',e1,K,hv,hH'⟩:=h1 hp;have K0:au c L c' L1 fun _=>False:=K.any fun b hb=>by cases hb
       exact MD.cons (d:=false) hE.good hkw.1 (.inr ⟨hkw.2,hcall,av,H',e1,next (h.1 hp) ((K0.rt0 hT).set hv) hH' (K0.fr0 hF)⟩)
      .obtain⟨av,H',c',e1,K,hv,hH'⟩:=h2 hp;have K0:au c L c' L2 fun _=>False:=K.any fun b hb=>by cases hb
       exact MD.cons (d:=false) hE.good hkw.1 (.inr ⟨hkw.2,hcall,av,H',e1,next (h.2 hp) ((K0.rt0 hT).set hv) hH' (K0.fr0 hF)⟩)
     .exact h.elim
    .rename_i cs p dp v1 v2 hop;split at h
     .obtain⟨h1,h2⟩:=ma hT hH hop h.1.2;obtain⟨av,H',c',e1,K,hv,hH'⟩:=h1 h.1.1;have K0:au c L c' L fun _=>False:=K.any fun b hb=>by cases hb
      exact MD.cons hE.good hkw.1 (.inr ⟨hkw.2,hcall,av,H',e1,next h.2 ((K0.rt0 hT).set hv) hH' (K0.fr0 hF)⟩)
     .obtain⟨h1,h2⟩:=ma hT hH hop h.1.2;obtain⟨av,H',c',e1,K,hv,hH'⟩:=h2 h.1.1;have K0:au c L c' L fun _=>False:=K.any fun b hb=>by cases hb
      exact MD.cons hE.good hkw.1 (.inr ⟨hkw.2,hcall,av,H',e1,next h.2 ((K0.rt0 hT).set hv) hH' (K0.fr0 hF)⟩)
     obtain⟨h1,h2⟩:=ma hT hH hop h.1;by_cases hp:p
     .obtain⟨av,H',c',e1,K,hv,hH'⟩:=h1 hp;have K0:au c L c' L fun _=>False:=K.any fun b hb=>by cases hb
      exact MD.cons hE.good hkw.1 (.inr ⟨hkw.2,hcall,av,H',e1,next (h.2.1 hp) ((K0.rt0 hT).set hv) hH' (K0.fr0 hF)⟩)
     .obtain⟨av,H',c',e1,K,hv,hH'⟩:=h2 hp;have K0:au c L c' L fun _=>False:=K.any fun b hb=>by cases hb
      exact MD.cons hE.good hkw.1 (.inr ⟨hkw.2,hcall,av,H',e1,next (h.2.2 hp) ((K0.rt0 hT).set hv) hH' (K0.fr0 hF)⟩)
    .exact h.elim
 .split at h
  .rename_i g b hgd;have hgv:=hT g;split at h
   .rename_i p dp hv;rw[hv] at hgv;obtain⟨w,e,hr⟩:=hgv;have k1:p->Sy S X Q0 ⟨.normal,f,rs,kS d (i::r) k,T.set g (.one .tt),L,fr⟩->Sem S X m (kA d l q kk) (QA S X Q0 ar) .normal Tm H:=fun hp h=>again (hT.same (by rw[e];exact⟨_,rfl,by rw[show w=Lf.bool (@decide p dp) from hr];simp[RL',hp]⟩)) h
    have k2:¬ p->Sy S X Q0 ⟨.normal,f,rs,kS d (i::r) k,T.set g (.one .ff),L,fr⟩->Sem S X m (kA d l q kk) (QA S X Q0 ar) .normal Tm H:=fun hp h=>again (hT.same (by rw[e];exact⟨_,rfl,by rw[show w=Lf.bool (@decide p dp) from hr];simp[RL',hp]⟩)) h
    split at h
    .exact k1 h.1.1 h.2
    .exact k2 h.1.1 h.2
    .by_cases hp:p
     .exact k1 hp (h.1 hp)
     .exact k2 hp (h.2 hp)
   .rename_i p dp hv;rw[hv] at hgv;obtain⟨w,e,hr⟩:=hgv;have k1:p->Sy S X Q0 ⟨.normal,f,rs,kS d (i::r) k,T.set g (.one .ff),L,fr⟩->Sem S X m (kA d l q kk) (QA S X Q0 ar) .normal Tm H:=fun hp h=>again (hT.same (by rw[e];exact⟨_,rfl,by rw[show w=Lf.bool (!@decide p dp) from hr];simp[RL',hp]⟩)) h
    have k2:¬ p->Sy S X Q0 ⟨.normal,f,rs,kS d (i::r) k,T.set g (.one .tt),L,fr⟩->Sem S X m (kA d l q kk) (QA S X Q0 ar) .normal Tm H:=fun hp h=>again (hT.same (by rw[e];exact⟨_,rfl,by rw[show w=Lf.bool (!@decide p dp) from hr];simp[RL',hp]⟩)) h
    split at h
    .exact k2 h.1.1 h.2
    .exact k1 h.1.1 h.2
    .by_cases hp:p
     .exact k1 hp (h.1 hp)
     .exact k2 hp (h.2 hp)
   .rename_i x hv;rw[hv] at hgv;obtain⟨w,e,hr⟩:=hgv;by_cases hp:x=true
    .exact again (hT.same (by rw[e];exact⟨_,rfl,by rw[show w=Lf.bool x from hr,hp];rfl⟩)) (h.1 hp)
    .exact again (hT.same (by rw[e];exact⟨_,rfl,by rw[show w=Lf.bool x from hr,Bool.eq_false_iff.2 hp];rfl⟩)) (h.2 hp)
   .exact h.elim
  .exact h.elim
end
end Go.EA
end
section
namespace Go.EA
section
variable {S:SC} {X:Cx} {Q0:Ex->Tm->Heap->Prop} {E:Env} {c:Cn} {L:List SO} {H:Heap} {T:ST} {Tm:Tm} {m:Nat} {P:Cn->List SO->Prop}
theorem oI {cc:AC}{kk:List Kt}{Q:Ex->EA.Tm->Heap->Prop}:Sem S X m (.code cc::kk) Q .normal Tm H↔MC S m cc Tm H (Sem S X m kk Q):=Iff.rfl
theorem RSK.inv_code {cc:AC}{k:List SK}{kk:List Kt}(h:RSK P (.code cc::k) kk):∃kk',kk=.code cc::kk'/\RSK P k kk':=by
 cases kk with
 |nil=>exact h.elim
 |cons x kk=>cases x <;> first | (obtain⟨rfl,h⟩:=h; exact⟨kk,rfl,h⟩) | exact h.elim
theorem step_ok (hE:qI S X E Q0) {s:SS}(h:(step E s).good S X Q0):Sy S X Q0 s:=by
 obtain⟨e,f,rs,k,T,L,fr⟩:=s;intro c Tm H kk ar m hT hH hk hF;simp only at hT hH hk hF ⊢;cases e with
 |ret=>exact Sem.ret (sJ hE h hT hH hF)
 | exit id=>
   have h:(match unw id k with | some k'=>StR.next ⟨.normal,f,rs,k',T,L,fr⟩ [] | none=>vT E (.exit id) T L fr).good S X Q0:=h;split at h
   .rename_i k' hu;obtain⟨kk',h1,h2⟩:=Cc (S:=S) (X:=X) (m:=m) hk hu;exact h2 _ _ _ (h.2 c Tm H kk' ar m hT hH h1 hF)
   .rename_i hu;exact EG hk hu _ _ _ (sJ hE h hT hH hF)
 | normal=>
   cases k with
   | nil=>
     cases kk with
     |nil=>exact sJ hE h hT hH hF
     |cons _ _=>exact hk.elim
   | cons x k=>
     cases x with
     | ops l=>
       cases kk with
       |nil=>exact hk.elim
       | cons y kk=>
         cases y <;> first | exact hk.elim | skip
         rename_i l' q;obtain⟨hl,hk⟩:=hk;cases l with
         | nil=>
           show MO S m (l'.drop q) _ _ _;rw[<- hl];exact MO.nil (h.2 c Tm H kk ar m hT hH hk hF)
         |cons i r=>exact vY (d:=false) hE hl.symm h hT hH hk hF
     | dops l=>
       cases kk with
       |nil=>exact hk.elim
       | cons y kk=>
         cases y <;> first | exact hk.elim | skip
         rename_i l' q;obtain⟨hl,hk⟩:=hk;cases l with
         | nil=>
           show DO X (l'.drop q) _ _ _;rw[<- hl];exact⟨_,_,rfl,h.2 c Tm H kk ar m hT hH hk hF⟩
         |cons i r=>exact vY (d:=true) hE hl.symm h hT hH hk hF
     | blk id=>
       cases kk with
       |nil=>exact hk.elim
       | cons y kk=>
         cases y <;> first | exact hk.elim | skip
         exact h.2 c Tm H kk ar m hT hH hk.2 hF
     | rnd x n=>
       cases kk with
       |nil=>exact hk.elim
       | cons y kk=>
         cases y <;> first | exact hk.elim | skip
         obtain⟨rfl,rfl,hk⟩:=hk;cases n with
         |zero=>exact h.elim
         | succ n=>
           have:=h.2 c Tm H (.code x::.rnd x n::kk) ar m hT hH ⟨rfl,rfl,rfl,hk⟩ hF;refine MR.succ (MC.mono (show MC S m x _ _ (Sem S X m (.rnd x n::kk) _) from this) fun e T' H' hh=>?_);cases e <;> exact hh
     | stop chk lv=>
       cases kk with
       |nil=>exact hk.elim
       | cons y kk=>
         cases y <;> first | exact hk.elim | skip
         exact hk.1 c T L Tm H h hT hH hF
     | code cc=>
       obtain⟨kk,rfl,hk2⟩:=hk.inv_code;clear hk;have hk:=hk2;rw[oI];cases cc with
       |skip=>exact MC.skip (h.2 c Tm H kk ar m hT hH hk hF)
       |reg l=>exact MC.reg (h.2 c Tm H (.ops l 0::kk) ar m hT hH ⟨rfl,hk⟩ hF)
       | dreg l=>
         have h:(match iR E.KT T l with
          |none=>StR.next ⟨.normal,f,rs,.dops l::k,T,L,fr⟩ []
          |some b=>match frz b T L fr with
           |some (T',L')=>.next ⟨.normal,f,rs,.code (.dreg l)::k,T',L',fr⟩ []
           |none=>.fin .ff).good S X Q0:=h
         split at h
         .obtain⟨T',H',h1,h2⟩:=(show DO X (l.drop 0) _ _ _ from h.2 c Tm H (.dops l 0::kk) ar m hT hH ⟨rfl,hk⟩ hF);exact MC.dreg hE.good hH.hd h1 h2
         .split at h
          .rename_i T' L' hz;obtain⟨T1m,H1,a1,a2,a3,a4⟩:=lQ (S:=S) hT hH hz;exact MC.abs (a1 m) (h.2 c T1m H1 (.code (.dreg l)::kk) ar m a2 a3 ⟨rfl,hk⟩ (a4.fr (fun b hb=>hb) hF))
          .exact h.elim
       | dalt ls=>
         have h:(match iR E.KT T (hdL ls) with
          |none=>StR.all (ls.map fun l=>⟨.normal,f,rs,.dops l::k,T,L,fr⟩)
          |some b=>match frz b T L fr with
           |some (T',L')=>.next ⟨.normal,f,rs,.code (.dalt ls)::k,T',L',fr⟩ []
           |none=>.fin .ff).good S X Q0:=h
         split at h
         .exact MC.drawn hE.good hH.hd (.inr (.inl ⟨rfl,rfl⟩)) fun l hl=>by
           obtain⟨T',H',h1,h2⟩:=(show DO X (l.drop 0) _ _ _ from h _ (List.mem_map_of_mem (f:=fun l=>(⟨.normal,f,rs,.dops l::k,T,L,fr⟩:SS)) hl) c Tm H (.dops l 0::kk) ar m hT hH ⟨rfl,hk⟩ hF);exact⟨T',H',h1,MO.nil ⟨T',H',rfl,h2⟩⟩
         .split at h
          .rename_i T' L' hz;obtain⟨T1m,H1,a1,a2,a3,a4⟩:=lQ (S:=S) hT hH hz;exact MC.abs (a1 m) (h.2 c T1m H1 (.code (.dalt ls)::kk) ar m a2 a3 ⟨rfl,hk⟩ (a4.fr (fun b hb=>hb) hF))
          .exact h.elim
       | dtl ls tl=>
         have h:(match iR E.KT T (hdL ls) with
          |none=>StR.all (ls.map fun l=>⟨.normal,f,rs,.dops l::.ops (tl.take 1)::.dops (tl.drop 1)::k,T,L,fr⟩)
          |some b=>match frz b T L fr with
           |some (T',L')=>.next ⟨.normal,f,rs,.code (.dtl ls tl)::k,T',L',fr⟩ []
           |none=>.fin .ff).good S X Q0:=h
         split at h
         .exact MC.drawn hE.good hH.hd (.inr (.inr rfl)) fun l hl=>by
           obtain⟨T',H',h1,h2⟩:=(show DO X (l.drop 0) _ _ _ from h _ (List.mem_map_of_mem (f:=fun l=>(⟨.normal,f,rs,.dops l::.ops (tl.take 1)::.dops (tl.drop 1)::k,T,L,fr⟩:SS)) hl) c Tm H (.dops l 0::.ops (tl.take 1) 0::.dops (tl.drop 1) 0::kk) ar m hT hH ⟨rfl,rfl,rfl,hk⟩ hF);exact⟨T',H',h1,h2⟩
         .split at h
          .rename_i T' L' hz;obtain⟨T1m,H1,a1,a2,a3,a4⟩:=lQ (S:=S) hT hH hz;exact MC.abs (a1 m) (h.2 c T1m H1 (.code (.dtl ls tl)::kk) ar m a2 a3 ⟨rfl,hk⟩ (a4.fr (fun b hb=>hb) hF))
          .exact h.elim
       | seq a b=>
         have h:(match a with | .skip=>StR.next ⟨.normal,f,rs,.code b::k,T,L,fr⟩ [] | a=>.next ⟨.normal,f,rs,.code a::.code b::k,T,L,fr⟩ []).good S X Q0:=h;by_cases ha:a=.skip
         .subst ha;exact MC.skip_seq (h.2 c Tm H (.code b::kk) ar m hT hH ⟨rfl,hk⟩ hF)
         .have h2:Sy S X Q0 ⟨.normal,f,rs,.code a::.code b::k,T,L,fr⟩:=by
           cases a <;> first | exact absurd rfl ha | exact h.2
          refine MC.seq ha (MC.mono (show MC S m a _ _ (Sem S X m (.code b::kk) _) from h2 c Tm H (.code a::.code b::kk) ar m hT hH ⟨rfl,rfl,hk⟩ hF) fun e T' H' hh=>?_);cases e <;> exact hh
       | cond x a b=>
         have hx:=hT.opd x;have go:∀(t:Bool),x.ev Tm=.one (.bool t)->Sy S X Q0 ⟨.normal,f,rs,.code (if t then a else b)::k,T,L,fr⟩->MC S m (.cond x a b) Tm H (Sem S X m kk (QA S X Q0 ar)):=fun t ht hs=>
          MC.cond t ht hE.good.ok (hs c Tm H (.code (if t then a else b)::kk) ar m hT hH ⟨rfl,hk⟩ hF)
         have h:(match opd T x with
          |.one .tt=>StR.next ⟨.normal,f,rs,.code a::k,T,L,fr⟩ []
          |.one .ff=>.next ⟨.normal,f,rs,.code b::k,T,L,fr⟩ []
          |.one (.dec p dp)=>.two p dp ⟨.normal,f,rs,.code a::k,T,L,fr⟩ ⟨.normal,f,rs,.code b::k,T,L,fr⟩
          |.one (.ndec p dp)=>.two p dp ⟨.normal,f,rs,.code b::k,T,L,fr⟩ ⟨.normal,f,rs,.code a::k,T,L,fr⟩
          |.one (.bool x)=>.two (x=true) inferInstance ⟨.normal,f,rs,.code a::k,T,L,fr⟩ ⟨.normal,f,rs,.code b::k,T,L,fr⟩
          |_=>.fin .ff).good S X Q0:=h
         split at h
         .rename_i hv;rw[hv] at hx;obtain⟨w,e,hr⟩:=hx;cases hr;exact go true e h.2
         .rename_i hv;rw[hv] at hx;obtain⟨w,e,hr⟩:=hx;cases hr;exact go false e h.2
         .rename_i p dp hv;rw[hv] at hx;obtain⟨w,e,hr⟩:=hx;have hr:w=.bool (@decide p dp):=hr;by_cases hp:p
          .exact go true (by rw[e,hr,decide_eq_true hp]) (h.1 hp)
          .exact go false (by rw[e,hr,decide_eq_false hp]) (h.2 hp)
         .rename_i p dp hv;rw[hv] at hx;obtain⟨w,e,hr⟩:=hx;have hr:w=.bool (!@decide p dp):=hr;by_cases hp:p
          .exact go false (by rw[e,hr,decide_eq_true hp];rfl) (h.1 hp)
          .exact go true (by rw[e,hr,decide_eq_false hp];rfl) (h.2 hp)
         .rename_i t hv;rw[hv] at hx;obtain⟨w,e,hr⟩:=hx;have hr:w=.bool t:=hr;cases t with
          |true=>exact go true (by rw[e,hr]) (h.1 rfl)
          |false=>exact go false (by rw[e,hr]) (h.2 (by simp))
         .exact h.elim
       | block id b=>
         refine MC.block (MC.mono (show MC S m b _ _ (Sem S X m (.blk id::kk) _) from h.2 c Tm H (.code b::.blk id::kk) ar m hT hH ⟨rfl,rfl,hk⟩ hF) fun e T' H' hh=>?_);cases e with
         |normal=>exact hh
         |exit id'=>exact hh
         |ret=>exact hh
       |loop b=>exact h.elim
       |dead=>exact h.elim
       | rangeF fo ps as bd=>
         have h:(match opd T fo with
          |.one (.fn i cap)=>match E.CD i with
           |some af=>match Nat.beq (1+cap.length) af.np,af.res with
            |true,[]=>match gq (Nat.lor (jR k rs) (lvC as (lvC bd 0 (match lvK k (ja rs) with | (_,ex)=>ex) (ja rs)) [] 0)) T with
             |T0=>StR.next ⟨.normal,i,[],[.code af.body],qj af [.one (.yld L.length)] cap,L++[SO.loop .ready none],.range f L.length rs ps as bd k T0::fr⟩ []
            |_,_=>.fin .ff
           |none=>.fin .ff
          |_=>.fin .ff).good S X Q0:=h
         have hx:=hT.opd fo;split at h
         .rename_i i cap hv;rw[hv] at hx;obtain⟨w,e,hcap,rfl⟩:=hx;split at h
          .rename_i af haf;split at h
           .rename_i hnp hres;have hnp:=zC hnp
            let c':Cn:=dC c L.length H.n ⟨Tm,ps,as,bd⟩
            have K:au c L c' (L++[SO.loop .ready none]) fun _=>False:=au.push c L H.n ⟨Tm,ps,as,bd⟩ _
            have hp0:c'.π L.length=H.n:=put_eq _ _ _;have hz0:c'.Z L.length=⟨Tm,ps,as,bd⟩:=put_eq _ _ _;have hH':RH c' (L++[SO.loop .ready none]) (H.push (AO.loop .ready none Tm ps as bd)):=hH.push (by show AO.loop _ _ _ _ _ _=AO.loop _ _ (c'.Z L.length).T (c'.Z L.length).ps (c'.Z L.length).as (c'.Z L.length).bd;rw[hz0]);have hT':=K.rt0 hT;refine MC.rangeF hE.good.ok e (MF.of (hE.cd i af haf) (by simp;omega) ?_);have hall:ae (RVS c' (L++[SO.loop .ready none])) ([SV.one (SL.yld L.length)]++cap.map fun q=>SV.one (.ptr q.1 q.2.1 q.2.2)) ([AV.one (Lf.yld H.n)]++(cap.map fun q=>(c.π q.1,q.2)).map fun q=>AV.one (.ptr q.1 q.2.1 q.2.2)):=by
             refine(ae.cons ⟨_,rfl,by simp,by rw[hp0]⟩ ae.nil).append ?_;have:=yB (c:=c') (L:=L++[.loop .ready none]) (cap:=cap) fun q hq=>by have:=hcap q hq;simp;omega
             rw[List.map_congr_left (g:=fun q=>(c'.π q.1,q.2)) fun q hq=>by rw[K.π q.1 (hcap q hq) (fun h=>h)]];exact this
            have hnew:RT c' (L++[SO.loop .ready none]) (qj af [.one (.yld L.length)] cap) (jf ([AV.one (Lf.yld H.n)]++(cap.map fun q=>(c.π q.1,q.2)).map fun q=>AV.one (.ptr q.1 q.2.1 q.2.2))):=by
             unfold qj;rw[<- zO];exact RT.args _ hall
            have:=h.2 c' _ _ [.code af.body] (.range m H.n kk Tm::ar) (H.push (AO.loop .ready none Tm ps as bd)).n hnew hH' ⟨rfl,trivial⟩ ⟨by simp,hp0.symm,hz0,hT'.mask _,hk,K.fr0 hF⟩;refine MC.mono this fun e T' H' hh=>?_
            obtain⟨h1,h2⟩:=hh;refine⟨h1,.tup [],?_,h2⟩;rw[hres];rfl
           .exact h.elim
          .exact h.elim
         .exact h.elim
       |exit id=>exact MC.exit (h.2 c Tm H kk ar m hT hH hk hF)
       |ret=>exact MC.ret (h.2 c Tm H kk ar m hT hH hk hF)
theorem step_loop {s:SS}{b:AC}(h:step E s=.loop b):s.e=.normal/\∃k,s.k=.code (.loop b)::k:=by
 obtain⟨e,f,rs,k,T,L,fr⟩:=s;have endN:∀e,vT E e T L fr≠.loop b:=by
  intro e he;cases fr with
  |nil=>cases e <;> cases he
  | cons x fr=>
    cases x <;> simp only[vT] at he
    all_goals
     repeat' split at he
     all_goals cases he
 have forkN:∀v mk chk c,fork v mk chk c≠.loop b:=by
  intro v mk chk c he;unfold fork at he
  repeat' split at he
  all_goals cases he
 have callN:∀d s i fo xs k,jh E d s i fo xs k≠.loop b:=by
  intro d s i fo xs k he;unfold jh at he;simp only at he
  repeat' split at he
  all_goals first
   |(cases he;done)
   |exact forkN _ _ _ _ he
 have iN:∀d s i k,rz E d s i k≠.loop b:=by
  intro d s i k he;unfold rz at he
  repeat' split at he
  all_goals first
   |(cases he;done)
   |exact callN _ _ _ _ _ _ he
 cases e with
 |ret=>exact absurd (show vT E .ret T L fr=.loop b from h) (endN _)
 | exit id=>
   simp only[step] at h;split at h
   .cases h
   .exact absurd h (endN _)
 | normal=>
   refine⟨rfl,?_⟩;simp only[step] at h;split at h
   .exact absurd h (endN _)
   .cases h
   .exact absurd h (iN _ _ _ _)
   .cases h
   .exact absurd h (iN _ _ _ _)
   .cases h
   .split at h <;> cases h
   .cases h
   .rename_i c k;split at h
    all_goals first
     |(cases h;done)
     |skip
    all_goals first
     |(split at h <;> cases h; done)
     |(split at h <;> first | (cases h; done) | (split at h <;> cases h; done))
     |skip
    all_goals first
     |(cases h;exact⟨_,rfl⟩)
     | (repeat' split at h
        all_goals cases h)
theorem eU {α:Type}{β:Type 1}:∀(l:List α) (k:List α->β),fV l k=k l
 |[],k=>rfl
 |x::r,k=>by rw[fV,eU r]
theorem tL:∀{l:List VC},(Jr l).den->∀v∈l,v.den
 |[],_,v,hv=>by simp at hv
 |[w],h,v,hv=>by obtain rfl:=List.mem_singleton.1 hv;exact h
 | w::w'::r,h,v,hv=>by
   rcases List.mem_cons.1 hv with rfl | hv
   .exact h.1
   .exact tL (l:=w'::r) h.2 v hv
theorem iB:∀{cs:List Prop}{v:VC},(uw cs v).den->aK cs/\v.den
 |[],v,h=>⟨trivial,h⟩
 |p::cs,v,h=>⟨⟨h.1,(iB h.2).1⟩,(iB h.2).2⟩
theorem vv:∀{cs:List Prop}{v:VC},(JS cs v).den->aK cs->v.den
 |[],v,h,_=>h
 |p::cs,v,h,hc=>vv (h hc.1) hc.2
theorem kL:∀{cs:List Prop},(Ch cs).den->aK cs
 |[],_=>trivial
 |[p],h=>⟨h,trivial⟩
 |p::q::cs,h=>⟨h.1,kL h.2⟩
theorem mq {T1:ST}{L1:List SO}{fr:List Fr}(hT:RT c L T Tm) (hH:RH c L H) (h:(mVC T L T1 L1 fr).den) :
 ∃c1 T1m H1,(∀m,Abs S m Tm H T1m H1)/\RT c1 L1 T1 T1m/\RH c1 L1 H1/\au c L c1 L1 fun b=>bV b fr=false:=by
 unfold mVC at h;split at h
 .rename_i p hp;exact⟨_,Cm hT hH hp (kL h)⟩
 .split at h
  .split at h
   .rename_i hmv;split at h
    .rename_i p hp;obtain⟨c',h1,h2,h3,h4⟩:=IQ hT hH hmv;obtain⟨T1m,H1,g1,g2,g3,g4⟩:=Cm (S:=S) h1 h2 hp (kL h);exact⟨_,T1m,H1,g1,g2,g3,h3.trans g4 (by rw[h4];exact zJ _)⟩
    .exact h.elim
   .exact h.elim
  .split at h
   .split at h
    .rename_i hmv;split at h
     .rename_i p hp;obtain⟨c',h1,h2,h3,h4⟩:=Jb hT hH hmv;obtain⟨T1m,H1,g1,g2,g3,g4⟩:=Cm (S:=S) h1 h2 hp (kL h);exact⟨_,T1m,H1,g1,g2,g3,h3.trans g4 (by rw[h4];exact zJ _)⟩
     .exact h.elim
    .exact h.elim
   .exact h.elim
theorem Aw {e:Ex}{f:Nat}{rs:List dV}{k0:List SK}{T:ST}{L:List SO}{fr:List Fr}{id:Nat}{b:AC}{k:List SK}{α:Type}{I:α->List (Nat×SV)×List (Nat×SO)}(h:Dy E ⟨e,f,rs,k0,T,L,fr⟩=some ⟨id,b,k,α,I⟩):e=.normal/\k0=.code (.block id b)::k:=by
 unfold Dy at h;split at h
 .rename_i heq;cases heq;split at h
  .cases h;exact⟨rfl,rfl⟩
  .cases h
 .cases h
theorem wK {e:Ex}{f:Nat}{rs:List dV}{k0:List SK}{T:ST}{L:List SO}{fr:List Fr}{i:AI}{r:List AI}{k:List SK}{α:Type}{I:α->List (Nat×SV)×List (Nat×SO)}(h:xg E ⟨e,f,rs,k0,T,L,fr⟩=some ⟨i,r,k,α,I⟩):e=.normal/\k0=.ops (i::r)::k:=by
 unfold xg at h;split at h
 .rename_i heq;cases heq;split at h
  .split at h
   .cases h;exact⟨rfl,rfl⟩
   .cases h
  .cases h
 .cases h
theorem xO {e:Ex}{f:Nat}{rs:List dV}{k0:List SK}{T:ST}{L:List SO}{fr:List Fr}{a:AC}{id:Nat}{b:AC}{k:List SK}{α:Type}{I:α->List (Nat×SV)×List (Nat×SO)}(h:xR E ⟨e,f,rs,k0,T,L,fr⟩=some (a,⟨id,b,k,α,I⟩)):e=.normal/\k0=.code (.seq a b)::k/\a≠.skip:=by
 unfold xR at h;split at h
 .rename_i heq;cases heq;split at h
  .cases h
  .rename_i hne _;split at h
   .cases h;exact⟨rfl,rfl,fun e=>hne e⟩
   .cases h
  .cases h
 .cases h
theorem RSK.inv_ops {l:List AI}{k:List SK}{kk:List Kt}(h:RSK P (.ops l::k) kk):∃l' q kk',kk=.ops l' q::kk'/\l=l'.drop q/\RSK P k kk':=by
 cases kk with
 |nil=>exact h.elim
 |cons x kk=>cases x <;> first | (obtain⟨h1,h⟩:=h; exact⟨_,_,kk,rfl,h1,h⟩) | exact h.elim
theorem bG (hE:qI S X E Q0):∀(n:Nat) (s:SS),(wp E n s).den->Sy S X Q0 s
 |0,s,h=>h.elim
 | n+1,s,h=>by
   unfold wp at h;split at h
   .rename_i id b k α I hcut;obtain⟨e,f,rs,k0,T,L,fr⟩:=s;obtain⟨rfl,rfl⟩:=Aw hcut;simp only[eU] at h;obtain⟨h1,h2⟩:=h;intro c Tm H kk ar m hT hH hk hF;simp only at hT hH hk hF;obtain⟨kk,rfl,hk2⟩:=hk.inv_code;clear hk;have hk:=hk2;generalize gq (jR k rs) T=T0 at h1 h2;rw[oI]
    let R:EA.Tm->Heap->Prop:=fun T' H'=>∃T1 H1,Abs S m T' H' T1 H1/\Sem S X m kk (QA S X Q0 ar) .normal T1 H1
    have hb:=bG hE n _ h1 c Tm H (.code b::.blk id::.stop R::kk) ar m hT hH ⟨rfl,rfl,fun c2 T2 L2 Tm2 H2 hd hT2 hH2 hF2=>by
     obtain⟨x,hd⟩:=hd;obtain⟨c3,T3m,H3,a1,a2,a3,a4⟩:=mq (S:=S) hT2 hH2 hd;exact⟨T3m,H3,a1 m,bG hE n _ (h2 x) _ T3m H3 kk ar m a2 a3 hk (a4.fr (fun b hb=>hb) hF2)⟩,hk⟩ hF
    refine MC.post (MC.block (MC.mono (show MC S m b _ _ (Sem S X m (.blk id::.stop R::kk) _) from hb) fun e T' H' hh=>?_));cases e with
    |normal=>exact hh
    | exit id'=>
      have hh:(if id'=id then R T' H' else Sem S X m kk (QA S X Q0 ar) (.exit id') T' H'):=hh;show (if id'=id then _ else _);split
      .rename_i e;rw[if_pos e] at hh;exact hh
      .rename_i e;rw[if_neg e] at hh;exact⟨_,_,Abs.refl,hh⟩
    |ret=>exact⟨_,_,Abs.refl,hh⟩
   split at h
   .rename_i i r k α I hcut;obtain⟨e,f,rs,k0,T,L,fr⟩:=s;obtain⟨rfl,rfl⟩:=wK hcut;simp only[eU] at h;obtain⟨h1,h2⟩:=h;intro c Tm H kk ar m hT hH hk hF;simp only at hT hH hk hF;obtain⟨l',q,kk,rfl,hdr,hk2⟩:=hk.inv_ops;clear hk;have hk:=hk2;generalize gq (jR (.ops r::k) rs) T=T0 at h1 h2;have hdr1:l'.drop (q+1)=r:=by
     have:l'.drop (q+1)=(l'.drop q).drop 1:=by rw[List.drop_drop]
     rw[this,<- hdr];rfl
    let R:EA.Tm->Heap->Prop:=fun T' H'=>∃T1 H1,Abs S m T' H' T1 H1/\MO S m r T1 H1 (Sem S X m kk (QA S X Q0 ar) .normal)
    show MO S m (l'.drop q) _ _ _;rw[<- hdr];refine MO.app (r1:=[i]) (r2:=r) ?_;exact bG hE n _ h1 c Tm H (.ops [i] 0::.stop R::.ops l' (q+1)::kk) ar m hT hH ⟨rfl,fun c2 T2 L2 Tm2 H2 hd hT2 hH2 hF2=>by
     obtain⟨x,hd⟩:=hd;obtain⟨c3,T3m,H3,a1,a2,a3,a4⟩:=mq (S:=S) hT2 hH2 hd;have:=bG hE n _ (h2 x) _ T3m H3 (.ops l' (q+1)::kk) ar m a2 a3 ⟨hdr1.symm,hk⟩ (a4.fr (fun b hb=>hb) hF2);have this:MO S m (l'.drop (q+1)) _ _ _:=this;rw[hdr1] at this;exact⟨T3m,H3,a1 m,this⟩,hdr1.symm,hk⟩ hF
   split at h
   .rename_i a id b k α I hcut;obtain⟨e,f,rs,k0,T,L,fr⟩:=s;obtain⟨rfl,rfl,hne⟩:=xO hcut;simp only[eU] at h;obtain⟨h1,h2⟩:=h;intro c Tm H kk ar m hT hH hk hF;simp only at hT hH hk hF;obtain⟨kk,rfl,hk2⟩:=hk.inv_code;clear hk;have hk:=hk2;generalize gq (jR (.code b::k) rs) T=T0 at h1 h2;rw[oI]
    let R:EA.Tm->Heap->Prop:=fun T' H'=>∃T1 H1,Abs S m T' H' T1 H1/\MC S m b T1 H1 (Sem S X m kk (QA S X Q0 ar))
    have hb:=bG hE n _ h1 c Tm H (.code a::.stop R::.code b::kk) ar m hT hH ⟨rfl,fun c2 T2 L2 Tm2 H2 hd hT2 hH2 hF2=>by
     obtain⟨x,hd⟩:=hd;obtain⟨c3,T3m,H3,a1,a2,a3,a4⟩:=mq (S:=S) hT2 hH2 hd;exact⟨T3m,H3,a1 m,bG hE n _ (h2 x) _ T3m H3 (.code b::kk) ar m a2 a3 ⟨rfl,hk⟩ (a4.fr (fun b hb=>hb) hF2)⟩,rfl,hk⟩ hF
    refine MC.seq hne (MC.mono (show MC S m a _ _ (Sem S X m (.stop R::.code b::kk) _) from hb) fun e T' H' hh=>?_);cases e with
    | normal=>
      obtain⟨T1,H1,q1,q2⟩:=(show R T' H' from hh);exact MC.abs q1 q2
    |exit id'=>exact hh
    |ret=>exact hh
   split at h
   .rename_i s' cs hs;obtain⟨e,f,rs,k,T,L,fr⟩:=s';obtain⟨h1,h2⟩:=iB h;simp only[eU] at h2;exact step_ok hE (by rw[hs];exact⟨h1,bG hE n _ h2⟩)
   .rename_i p dp s1 s2 hs;exact step_ok hE (by rw[hs];exact⟨fun hp=>bG hE n _ (h.1 hp),fun hp=>bG hE n _ (h.2 hp)⟩)
   .rename_i v hs;exact step_ok hE (by rw[hs];exact h)
   .rename_i l hs;exact step_ok hE (by rw[hs];exact fun s hs'=>bG hE n _ (tL h _ (List.mem_map_of_mem hs')))
   .rename_i p s1 s2 hs;exact step_ok hE (by rw[hs];exact⟨fun hp=>bG hE n _ (h.1 hp),bG hE n _ h.2⟩)
   .rename_i cs p dp s1 s2 hs;obtain⟨h1,h2⟩:=iB h;exact step_ok hE (by rw[hs];exact⟨h1,fun hp=>bG hE n _ (h2.1 hp),fun hp=>bG hE n _ (h2.2 hp)⟩)
   .rename_i cs α p s' hs;obtain⟨h1,h2⟩:=iB h;exact step_ok hE (by
     rw[hs];refine⟨h1,fun x hx=>bG hE n _ ?_⟩;have h3:=vv (h2 x) hx;simpa only[eU] using h3)
   .rename_i b hs;obtain⟨he,k,hk⟩:=step_loop hs;obtain⟨e,f,rs,k0,T,L,fr⟩:=s;simp only at he hk;subst he hk;simp only at h;split at h
    .exact h.elim
    .exact h.elim
    .rename_i r _;intro c Tm H kk ar m hT hH hk hF;obtain⟨kk,rfl,hk2⟩:=hk.inv_code;clear hk;have hk:=hk2;exact MC.rounds r (bG hE n _ h c Tm H (.rnd b r::kk) ar m hT hH ⟨rfl,rfl,hk⟩ hF)
    .rename_i α I μ _;simp only[eU] at h;obtain⟨⟨x0,h0⟩,hstep⟩:=h;intro c Tm H kk ar m hT hH hk hF;obtain⟨kk,rfl,hk2⟩:=hk.inv_code;clear hk;have hk:=hk2;generalize gq (lvC (AC.loop b) 0 (lvK k (ja rs)).2 (ja rs)) T=T0 at h0 hstep
     let Inv:Nat->EA.Tm->Heap->Prop:=fun n Tm H=>∃x c T1m H1,μ x=n/\Abs S m Tm H T1m H1/\RT c (gY L (I x).2) (oo T0 (I x).1) T1m/\RH c (gY L (I x).2) H1/\RFr fr ar c (gY L (I x).2)
     show MC S m (.loop b) Tm H _;refine MC.loop Inv ?_ (k:=μ x0) ?_
     .rintro n' Tm' H' ⟨x,c1,T1m,H1,rfl,ha,hT1,hH1,hF1⟩;refine MC.abs ha ?_;have:=bG hE n _ (hstep x) c1 T1m H1 (.code b::.stop (fun Tm2 H2=>∃n2,n2<μ x/\Inv n2 Tm2 H2)::kk) ar m hT1 hH1 ⟨rfl,fun c2 T2 L2 Tm2 H2 hd hT2 hH2 hF2=>by
       obtain⟨x',hlt,hd⟩:=hd;obtain⟨c3,T3m,H3,a1,a2,a3,a4⟩:=mq (S:=S) hT2 hH2 hd;exact⟨μ x',hlt,x',_,T3m,H3,rfl,a1 m,a2,a3,a4.fr (fun b hb=>hb) hF2⟩,hk⟩ hF1
      refine MC.mono (show MC S m b _ _ (Sem S X m (.stop _::kk) _) from this) fun e T' H' hh=>?_
      cases e with
      |normal=>exact hh
      |exit id=>exact hh
      |ret=>exact hh
     .obtain⟨c3,T3m,H3,a1,a2,a3,a4⟩:=mq (S:=S) hT hH h0;exact⟨x0,_,T3m,H3,rfl,a1 m,a2,a3,a4.fr (fun b hb=>hb) hF⟩
end
end Go.EA
end
