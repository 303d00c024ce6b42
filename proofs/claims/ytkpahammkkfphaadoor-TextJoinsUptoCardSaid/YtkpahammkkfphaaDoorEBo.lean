/- strings.Builder's WriteString and String, as what turns a builder among the objects. Conditions: none. -/
import Derived.Test.YtkpahammkkfphaaDoorEBw
set_option linter.unusedVariables false
set_option linter.unusedSimpArgs false
namespace Go.EA
open Go.Proofs Go.Shelf Go.RowKit
def Cws:mP:=⟨fun xs L=>match xs with
 |[.one (.ptr b 0 0),.one (.str s)]=>match aa L b with
  |.bld s0=>some ⟨[s0.length+s.length<=140737488355328],Unit,fun _=>[],fun _=>.tup [.o (.int .i64 s.length),.o .nili],fun _=>L.set b (.bld (s0++s)),[]⟩
  |_=>none
 |_=>none⟩
def Cst:mP:=⟨fun xs L=>match xs with
 |[.one (.ptr b 0 0)]=>match aa L b with
  |.bld s0=>some ⟨[s0.length<=140737488355328],Unit,fun _=>[],fun _=>.one (.str s0),fun _=>L.set b .dead,[]⟩
  |_=>none
 |_=>none⟩
def Bn:Option (Nat×Nat)->Lf
 |none=>.nils
 |some (k,m)=>.sl k 0 m
def Jk (H:Heap) (q:Option Nat) (s:List UInt8):Prop:=∀k,q=some k->k<H.n/\∃els,H.o k=.blk 1 els true/\aD els=true/\els.take s.length=(bts s).map (Ty.int .u8).enc
def nG (s:List UInt8):List (List Lf):=s.map fun c=>[Lf.int .u8 c.toNat]
theorem lg (s:List UInt8):nG s=(bts s).map (Ty.int .u8).enc:=by unfold nG bts;rw[List.map_map];rfl
theorem uY (s:List UInt8):aD (nG s)=true:=by rw[lg];exact bA _ _
theorem Cq (a b:List UInt8):nG (a++b)=nG a++nG b:=by unfold nG;rw[List.map_append]
theorem kW (s:List UInt8):(nG s).length=s.length:=by unfold nG;simp
theorem GX {H:Heap}{q:Option Nat}{s0 s:List UInt8}{x:Option (Nat×Nat)}(hx:Gx q s0 x) (hb:Jk H q s0) (hlen:s0.length+s.length<=140737488355328) (hd:H.Hd) :
 ∃q' x' H2,eB H 1 1 (.one (Bn x)) (.one (.str s))=some (.one (Bn x'),H2)/\Gx q' (s0++s) x'/\Jk H2 q' (s0++s)/\H.n<=H2.n/\H2.Hd/\(∀k,k<H.n->q≠some k->H2.o k=H.o k)/\∀k,q'=some k->q=some k\/H.n<=k:=by
 cases s with
 | nil=>
   refine⟨q,x,H,?_,by rw[List.append_nil];exact hx,by rw[List.append_nil];exact hb,zJ _,hd,fun _ _ _=>rfl,fun k h=>.inl h⟩;cases x with
   |none=>rfl
   |some p=>rfl
 | cons c cs=>
   have hsrc:fM H 1 (.one (.str (c::cs)))=some ([Lf.int .u8 c.toNat]::nG cs):=rfl;have hcl:=uY (c::cs);cases q with
   | none=>
     obtain⟨rfl,rfl⟩:=hx;refine⟨some H.n,some (H.n,cs.length+1),H.push (.blk 1 (nG (c::cs)) true),?_,⟨by simp,rfl⟩,fun k hk=>?_,Nat.le_succ _,Hd.push hd _,fun k hk _=>mK hk _,fun k hk=>?_⟩
     .simp only[eB,hsrc,Bn,kW];rw[if_pos (by unfold fZ;simp at hlen;omega)]
      rfl
     .cases hk;refine⟨Nat.lt_succ_self _,_,if_pos rfl,hcl,?_⟩;rw[List.take_of_length_le (by rw[kW];exact zJ _),lg];rfl
     .cases hk;exact .inr (zJ _)
   | some k=>
     obtain⟨h0,rfl⟩:=hx;obtain⟨hk,els,h1,h2,h3⟩:=hb k rfl;have hle:s0.length<=els.length:=by
      have:=congrArg List.length h3;rw[zP,zR,kK] at this;omega
     have hkn:k≠H.n:=by omega
     refine⟨some H.n,some (H.n,s0.length+(cs.length+1)),(H.set k .dead).push (.blk 1 (els.take s0.length++nG (c::cs)) true),?_,⟨by simp,by simp⟩,fun j hj=>?_,Nat.le_succ _,Hd.push (Hd.set hd hk _) _,fun j hj hq=>?_,fun j hj=>?_⟩
     .simp only[eB,hsrc,Bn,kW,h1];rw[if_pos ⟨trivial,by omega,by unfold fZ;simp at hlen;omega⟩]
      rfl
     .cases hj;refine⟨Nat.lt_succ_self _,_,if_pos rfl,?_,?_⟩
      .unfold aD at h2 hcl ⊢;rw[List.all_append,hcl,Bool.and_true,List.all_eq_true];exact fun e he=>List.all_eq_true.1 h2 e (List.mem_of_mem_take he)
      .rw[h3,<- lg,<- Cq,List.take_of_length_le (by rw[kW];exact zJ _),lg]
     .have hjk:j≠k:=fun e=>hq (by rw[e])
      show EA.put (EA.put H.o k .dead) H.n _ j=H.o j;rw[aO _ _ (by omega),aO _ _ hjk]
     .cases hj;exact .inr (zJ _)
section
variable {S:SC}
theorem mh.det {ρ ρ':Rho}{n n':Nat}{t:TypeId}{x:Option (Nat×Nat)}{a b:Value}(h:mh ρ n t x a) (h':mh ρ' n' t x b) (e:∀k m,x=some (k,m)->ρ' k=ρ k):b=a:=by
 cases x with
 | none=>
   have h:a=.slice none 0 0:=h;have h':b=.slice none 0 0:=h';rw[h,h']
 | some p=>
   obtain⟨k,m⟩:=p;obtain⟨_,_,_,_,h⟩:=h;obtain⟨_,_,_,_,h'⟩:=h';rw[h',h,e k m rfl]
theorem mh.sl {ρ:Rho}{n:Nat}{t:TypeId}{x:Option (Nat×Nat)}{a:Value}(h:mh ρ n t x a):∃p q c,a=.slice p q c:=by
 cases x with
 |none=>exact⟨_,_,_,h⟩
 |some p=>obtain⟨_,_,_,_,h⟩:=h;exact⟨_,_,_,h⟩
theorem wW {H:Heap}{ρ:Rho}{w:World}{b:Nat}{u:Bool}{x:Option (Nat×Nat)}{t:TypeId×TypeId}(hbt:S.C.bt=some t) (hH:aJ S H ρ w) (hb:b<H.n) (ho:H.o b=.bld u x) :
 (ρ b).o=0/\∃v,w.heap[(ρ b).g]?=some (.cells #[.pointer (if u then some ⟨(ρ b).g,0,none⟩ else none),v] t.1 (0,0))/\mh ρ H.n t.2 x v:=by
 have h:=hH.obj b hb;rw[ho] at h;obtain⟨h0,t',v,h1,h2,h3⟩:=h;rw[hbt] at h1;cases h1;exact⟨h0,v,h2,h3⟩
theorem Ka {i:Nat}{ρl:Shelf.Ren}(hf:ρl.f 166=S.re i) (L:Lays.n166 S.C.P ρl) (X:Builder.Extra S.C.P ρl) (hbt:S.C.bt=some (ρl.t 72,ρl.t 5)) (hs:bM S.C.P (ρl.t 5)=some 1) (hby:jZ S.C.P (ρl.t 5)=some 1)
 (hz:fE S.C.P (ρl.t 5)=some [.int .u8 0]) (hent:∀args w,(callFunc (S.re i) args).run S.C.P w=.ok (.enter (S.re i) args) w):jN S i Cws:=by
 intro c L0 H xs ys r hr hpre hH hxs;simp only[Cws] at hr;split at hr
 case h_2=>cases hr
 rename_i b s;split at hr
 case h_2=>cases hr
 rename_i s0 hbg;cases hr;have hlen:s0.length+s.length<=140737488355328:=hpre.1;obtain⟨a1,as1,rfl,h1,h2⟩:=hxs.cons_inv;obtain⟨a2,as2,rfl,h3,h4⟩:=h2.cons_inv;obtain rfl:=h4.nil_inv;obtain⟨y1,rfl,hbl,rfl⟩:=h1;have h3:=h3.str;subst h3;intro ρ w vs _ hvs hHR;obtain⟨v1,vs1,rfl,g1,g2⟩:=hvs.cons_inv;obtain⟨v2,vs2,rfl,g3,g4⟩:=g2.cons_inv;obtain rfl:=g4.nil_inv;obtain⟨_,g1⟩:c.π b<H.n/\v1=.pointer (some ((ρ (c.π b)).addr 0 0)):=g1;have g3:v2=.string ⟨s.toArray⟩:=g3;subst g1 g3;obtain⟨⟨u,x,ho,hbs⟩,hbuf⟩:=hH.isB hbg;have hπ:c.π b<H.n:=hH.lt b hbl (by rw[hbg];trivial);obtain⟨hz0,bv,hblk,hBR⟩:=wW hbt hHR hπ ho;have haddr:(ρ (c.π b)).addr 0 0=⟨(ρ (c.π b)).g,0,none⟩:=by unfold Loc.addr;simp[hz0]
 rw[haddr];have conv:([Value.pointer (some ⟨(ρ (c.π b)).g,0,none⟩),Value.string ⟨s.toArray⟩].toArray++(([]:List (Nat×Nat×Nat)).map (bY ρ)).toArray)=#[.pointer (some ⟨(ρ (c.π b)).g,0,none⟩),.string ⟨s.toArray⟩]:=by simp
 rw[conv];refine⟨hent _ w,callsIn_wide.2 ?_⟩;have hown:own (H.o (c.π b))=true:=by rw[ho];rfl
 have hqb:c.ν b 0≠some (c.π b):=fun h=>hH.ns.pi b 0 _ _ hbl (iK hbg h) b hbl (by rw[hbg];trivial) rfl
 have step1:∀w1,oJ (ρ (c.π b)).g (.cells #[slf (ρ (c.π b)).g,bv] (ρl.t 72) (0,0)) w w1->aJ S (H.set (c.π b) (.bld true x)) ρ w1/\Frm H ρ w (H.set (c.π b) (.bld true x)) ρ w1:=fun w1 h1=>
  hHR.turn hπ hown (x:=.bld true x) ⟨hz0,_,bv,hbt,h1.at',hBR⟩ rfl h1.sz h1.os h1.tape h1.output h1.ne (by rw[h1.drawn];exact zJ _)
 have hH1o:∀k,k≠c.π b->(H.set (c.π b) (.bld true x)).o k=H.o k:=fun k hk=>aO _ _ hk
 have hHas:Jk (H.set (c.π b) (.bld true x)) (c.ν b 0) s0:=fun k hk=>by
  obtain⟨k1,els,k2,k3⟩:=hbuf k hk;exact⟨k1,els,by rw[hH1o k (fun e=>hqb (by rw[hk,e]))];exact k2,k3⟩
 obtain⟨q',x',H2,e1,e2,e3,e4,e5,e6,e7⟩:=GX hbs hHas hlen (Hd.set hH.hd hπ _);have e4:H.n<=H2.n:=e4;have hH2b:H2.o (c.π b)=.bld true x:=by
  rw[e6 _ hπ hqb];exact if_pos rfl
 have hax:∀w1,aJ S (H.set (c.π b) (.bld true x)) ρ w1->aN S ρ H.n (.one (Bn x)) bv/\∀k i q,AV.one (Bn x)=.one (.sl k i q)->i=0/\Ag (ρl.t 5) (ρ k) q bv:=by
  intro w1 hw1;cases hx0:x with
  | none=>
    rw[hx0] at hBR;exact⟨hBR,fun k i q h=>by cases h⟩
  | some p=>
    obtain⟨k,m⟩:=p;rw[hx0] at hBR;obtain⟨p1,p2,p3,p4,p5⟩:=hBR;have hq:c.ν b 0=some k/\m=s0.length:=by
     cases hν:c.ν b 0 with
     |none=>rw[hν] at hbs;obtain⟨_,h⟩:=hbs;rw[hx0] at h;cases h
     |some k'=>rw[hν] at hbs;obtain⟨_,h⟩:=hbs;rw[hx0] at h;cases h;exact⟨rfl,rfl⟩
    obtain⟨hν,rfl⟩:=hq;obtain⟨_,els,k2,k3,k4⟩:=hbuf k hν;have hle:s0.length<=els.length:=by
     have:=congrArg List.length k4;rw[zP,zR,kK] at this;omega
    have hob:=hHR.obj k p1;rw[k2] at hob;obtain⟨_,C,ty,fr,_,_,ho2⟩:=hob;obtain⟨o1,o2,_⟩:=ho2 rfl;rw[p2,p3] at o2;have hmz:s0.length<=(ρ k).z:=by omega
    refine⟨⟨p1,⟨(ρ k).g,0,none⟩,(ρ k).z,p5,hmz,.inr ⟨by unfold Loc.addr;simp[p2],by rw[p2,p3];omega⟩⟩,fun k' i q h=>?_⟩;cases h;exact⟨rfl,p2,p4,_,p5,by rw[p3];omega⟩
 let R:World->Value->World->Prop:=fun w1 v' w2=>∃ρ2,aJ S H2 ρ2 w2/\Frm (H.set (c.π b) (.bld true x)) ρ w1 H2 ρ2 w2/\mh ρ2 H2.n (ρl.t 5) x' v'
 have hcall:=EI L X (ρ (c.π b)).g u bv ⟨s.toArray⟩ w hblk R (fun w1 ty ht=>by
  obtain⟨q1,q2⟩:=step1 w1 ht;obtain⟨hv,htg⟩:=hax w1 q1;obtain⟨ρ2,w2,u2,f1,f2,f3,f4,f5⟩:=Aj (ty:=ty) (y:=.one (.str s)) (uy:=.string ⟨s.toArray⟩) q1 L.t37 L.t9 (.inl rfl) hs hby hz (by decide) (by decide) rfl hv rfl e1;have hbuf2:mh ρ2 H2.n (ρl.t 5) x' u2:=by
   cases hx0:x' with
   |none=>rw[hx0] at f4;exact f4
   | some p=>
     obtain⟨k,m⟩:=p;rw[hx0] at f4 f5 e2;obtain⟨t1,t2,cap,t3,t4⟩:=f5 htg k m rfl;have hk:q'=some k:=by
      cases q' with
      |none=>obtain⟨_,h⟩:=e2;cases h
      |some k'=>obtain⟨_,h⟩:=e2;cases h;rfl
     obtain⟨k1,els,k2,_⟩:=e3 k hk;have hob:=f1.obj k k1;rw[k2] at hob;have hs1:1=(ρ2 k).s:=hob.1;refine⟨k1,t1,hs1.symm,t2,?_⟩;rw[t3,<- t4,<- hs1,Nat.mul_one]
  refine⟨u2,w2,f3,?_,hbuf2.sl,ρ2,f1,f2,hbuf2⟩;obtain⟨_,bv',j1,j2⟩:=wW hbt f1 (Nat.lt_of_lt_of_le hπ e4) hH2b;rw[f2.rho _ hπ] at j1;have hd:bv'=bv:=mh.det hBR j2 fun k m hk=>f2.rho k (by rw[hk] at hBR;exact hBR.1)
  rw[hd] at j1;exact j1)
 rw[hf] at hcall;refine Calls.mono hcall fun e w' ⟨he,w1,v',w2,ht1,⟨ρ2,f1,f2,f3⟩,ht2⟩=>?_
 subst he;obtain⟨q1,q2⟩:=step1 w1 ht1;have hρ:ρ2 (c.π b)=ρ (c.π b):=f2.rho _ hπ;have hπ2:c.π b<H2.n:=Nat.lt_of_lt_of_le hπ e4;rw[<- hρ] at ht2;obtain⟨r1,r2⟩:=f1.turn hπ2 (by rw[hH2b];rfl) (x:=.bld true x') ⟨by rw[hρ];exact hz0,_,v',hbt,ht2.at',f3⟩ rfl ht2.sz ht2.os ht2.tape ht2.output ht2.ne (by rw[ht2.drawn];exact zJ _);have hfin:Frm H ρ w (H2.set (c.π b) (.bld true x')) ρ2 w':=(q2.trans f2).trans r2;have hset:∀k,k≠c.π b->(H2.set (c.π b) (.bld true x')).o k=H2.o k:=fun k hk=>aO _ _ hk
 have hνb:(iU c b q').ν b 0=q':=by show EA.put c.ν b (fun _=>q') b 0=q';rw[put_eq]
 have hq'b:∀k,q'=some k->k≠c.π b:=fun k hk e=>by
  rcases e7 k hk with h | h
  .exact hqb (by rw[h,e])
  .have h:H.n<=k:=h;omega
 refine⟨.tup [.one (.int .i64 s.length),.one .nili],H2.set (c.π b) (.bld true x'),⟨(),trivial,iU c b q',⟨_,rfl,ae.cons ⟨_,rfl,rfl⟩ (ae.cons ⟨_,rfl,rfl⟩ ae.nil)⟩,?_,(au.bld hbg rfl).any fun _ h=>h.elim⟩,_,ρ2,rfl,r1,hfin,.inr ⟨_,rfl,ae.cons (by rw[size_mk];rfl) (ae.cons rfl ae.nil)⟩⟩;refine hH.bld hbg e4 (Hd.set e5 hπ2 _) (fun k hk h1 h2=>by rw[hset k h1,e6 k hk h2,hH1o k h1]) ⟨⟨true,x',if_pos rfl,by rw[hνb];exact e2⟩,fun k hk=>?_⟩ e7;rw[hνb] at hk;obtain⟨k1,els,k2,k3⟩:=e3 k hk;exact⟨k1,els,by rw[hset k (hq'b k hk)];exact k2,k3⟩
theorem Ju {i:Nat}{ρl:Shelf.Ren}(hf:ρl.f 169=S.re i) (L:Lays.n169 S.C.P ρl) (X:Builder.Extra S.C.P ρl) (hbt:S.C.bt=some (ρl.t 72,ρl.t 5)) (hent:∀args w,(callFunc (S.re i) args).run S.C.P w=.ok (.enter (S.re i) args) w):jN S i Cst:=by
 intro c L0 H xs ys r hr hpre hH hxs;simp only[Cst] at hr;split at hr
 case h_2=>cases hr
 rename_i b;split at hr
 case h_2=>cases hr
 rename_i s0 hbg;cases hr;have hlen:s0.length<=140737488355328:=hpre.1;obtain⟨a1,as1,rfl,h1,h2⟩:=hxs.cons_inv;obtain rfl:=h2.nil_inv;obtain⟨y1,rfl,hbl,rfl⟩:=h1;intro ρ w vs _ hvs hHR;obtain⟨v1,vs1,rfl,g1,g2⟩:=hvs.cons_inv;obtain rfl:=g2.nil_inv;obtain⟨_,g1⟩:c.π b<H.n/\v1=.pointer (some ((ρ (c.π b)).addr 0 0)):=g1;subst g1;obtain⟨⟨u,x,ho,hbs⟩,hbuf⟩:=hH.isB hbg;have hπ:c.π b<H.n:=hH.lt b hbl (by rw[hbg];trivial);obtain⟨hz0,bv,hblk,hBR⟩:=wW hbt hHR hπ ho;have haddr:(ρ (c.π b)).addr 0 0=⟨(ρ (c.π b)).g,0,none⟩:=by unfold Loc.addr;simp[hz0]
 rw[haddr];have conv:([Value.pointer (some ⟨(ρ (c.π b)).g,0,none⟩)].toArray++(([]:List (Nat×Nat×Nat)).map (bY ρ)).toArray)=#[.pointer (some ⟨(ρ (c.π b)).g,0,none⟩)]:=by simp
 rw[conv];refine⟨hent _ w,callsIn_wide.2 ?_⟩;have K:=au.bld (c:=c) (q:=none) hbg (o:=.dead) rfl;cases hν:c.ν b 0 with
 | none=>
   rw[hν] at hbs;obtain⟨rfl,rfl⟩:=hbs;have hbv:bv=.slice none 0 0:=hBR;subst hbv;have hcall:=Jt L X (ρ (c.π b)).g _ w hblk;rw[hf] at hcall;refine Calls.mono hcall fun e w' ⟨he,hw⟩=>?_
   subst he hw;obtain⟨k1,k2⟩:=hHR.kill (c.π b);exact⟨.one (.str []),H.set (c.π b) .dead,⟨(),trivial,iU c b none,⟨_,rfl,rfl⟩,hH.bldK hbg (zJ _) (Hd.set hH.hd hπ _) (fun k hk h1 _=>aO _ _ h1),K.any fun _ h=>h.elim⟩,_,ρ,rfl,k1.drew,k2.trans Frm.drew,rfl⟩
 | some k=>
   rw[hν] at hbs;obtain⟨hne,rfl⟩:=hbs;obtain⟨p1,p2,p3,p4,rfl⟩:=hBR;obtain⟨_,els,k2,k3,k4⟩:=hbuf k hν;have hob:=hHR.obj k p1;rw[k2] at hob;obtain⟨hs1,C,ty,fr,hC,hcell,hown⟩:=hob;obtain⟨o1,o2,_,o4⟩:=hown rfl;rw[p4] at o4;cases o4;have hle:s0.length<=els.length:=by
    have:=congrArg List.length k4;rw[zP,zR,kK] at this;omega
   rw[p2,p3] at o2;have hget:∀(j:Nat) (y:UInt8),s0[j]?=some y->C[j]?=some (.int .u8 y.toNat):=fun j y hj=>by
    have hjl:=(zI.1 hj).1;have:els[j]?=some [.int .u8 y.toNat]:=by
     have h1:=congrArg (fun z=>z[j]?) k4;rw[List.getElem?_take_of_lt hjl,List.getElem?_map] at h1;rw[h1];unfold bts;rw[List.getElem?_map,hj]
     rfl
    obtain⟨_,hx⟩:=hcell j _ this;obtain⟨v,hv,hr⟩:=hx 0 _ rfl;have hr:v=.int .u8 y.toNat:=hr;subst hr;rw[p2,p3] at hv;have e:0+j*1+0=j:=by omega
    rw[e] at hv;exact hv
   have hcall:=DI L X (ρ (c.π b)).g (ρ k).g (ρ k).z _ C s0 w hblk hne (by omega) hC (by omega) (by omega) hget;rw[hf] at hcall;refine Calls.mono hcall fun e w' ⟨he,hw⟩=>?_
   subst he hw;have hT:oJ (ρ k).g (.cells C (ρl.t 5) (0,0+s0.length)) w.drew (w.drew.freeze ⟨(ρ k).g,0,none⟩ s0.length):=by
    unfold World.freeze;rw[if_neg (by simpa using hne)];refine⟨?_,fun j hj=>?_,?_,rfl,rfl,rfl,rfl⟩
    .show (w.heap.modify (ρ k).g _)[(ρ k).g]?=_;rw[Array.getElem?_modify,if_pos rfl,hC]
     rfl
    .show (w.heap.modify (ρ k).g _)[j]?=_;rw[Array.getElem?_modify,if_neg (Ne.symm hj)]
     rfl
    .show (w.heap.modify _ _).size=w.heap.size;simp
   obtain⟨q1,q2⟩:=hHR.drew.turn (b:=k) p1 (by rw[k2];rfl) (x:=.blk 1 els false) (w':=w.drew.freeze ⟨(ρ k).g,0,none⟩ s0.length) ⟨hs1,C,ρl.t 5,_,hT.at',hcell,fun h=>by cases h⟩ rfl hT.sz hT.os hT.tape hT.output hT.ne (by rw[hT.drawn];exact zJ _);obtain⟨q3,q4⟩:=q1.kill k;obtain⟨q5,q6⟩:=q3.kill (c.π b);refine⟨.one (.str s0),((H.set k (.blk 1 els false)).set k .dead).set (c.π b) .dead,⟨(),trivial,iU c b none,⟨_,rfl,rfl⟩,hH.bldK hbg (zJ _) (Hd.set (Hd.set (Hd.set hH.hd p1 _) p1 _) hπ _) (fun j hj h1 h2=>?_),K.any fun _ h=>h.elim⟩,_,ρ,rfl,q5,((Frm.drew.trans q2).trans q4).trans q6,rfl⟩;have hjk:j≠k:=fun e=>h2 (by rw[hν,e])
   show EA.put (EA.put (EA.put H.o k _) k _) (c.π b) _ j=_;rw[aO _ _ h1,aO _ _ hjk,aO _ _ hjk]
end
end Go.EA
