/- Texts. Conditions: none. -/
import Derived.Test.YtkpahammkkfphaaDoorEK4
import Derived.Test.YtkpahammkkfphaaDoorEK1
import Derived.Test.YtkpahammkkfphaaDoorEK5
set_option linter.unusedVariables false
set_option linter.unusedSimpArgs false
section
namespace Go.EA
mutual
def Im (H:Heap):Lf->Lf->Prop
 |.vrow s els,x=>x=.vrow s els\/(els=[]/\(x=.nils\/x=.slz))\/∃b i es,x=.sl b i els.length/\H.o b=.blk s es true/\ImR H s els (es.drop i)
 |.vptr cs,x=>x=.vptr cs\/∃b i j s es e,x=.ptr b i j/\H.o b=.blk s es true/\es[i]?=some e/\ImC H cs (e.drop j)
 |.int k z,x=>x=.int k z
 |.bool b,x=>x=.bool b
 |.str s,x=>x=.str s
 |.fn f c,x=>c=[]/\x=.fn f []
 |.nilp,x=>x=.nilp
 |.nils,x=>x=.nils
 |.slz,x=>x=.slz
 |.nilf,x=>x=.nilf
 |.nilm,x=>x=.nilm
 |.nili,x=>x=.nili
 |.ptr _ _ _,_=>False
 |.sl _ _ _,_=>False
 |.yld _,_=>False
 |.mp _,_=>False
def ImC (H:Heap):List Lf->List Lf->Prop
 |[],_=>True
 |y::r,xs=>match xs with | []=>False | x::q=>Im H y x/\ImC H r q
def ImR (H:Heap) (s:Nat):List (List Lf)->List (List Lf)->Prop
 |[],_=>True
 |y::r,xs=>match xs with | []=>False | x::q=>y.length=s/\ImC H y x/\ImR H s r q
end
def ImV (H:Heap):AV->AV->Prop
 |.one y,x=>∃z,x=.one z/\Im H y z
 |.agg ys,x=>∃zs,x=.agg zs/\zs.length=ys.length/\ImC H ys zs
 |.tup _,_=>False
section
variable {S:SC} {H:Heap} {ρ:Rho} {w:World} {fz':Nat->Option Obj}
mutual
theorem DZ (hH:aJ S H ρ w) (h1:∀k ob,ρ.fz k=some ob->fz' k=some ob)
 (h2:∀b s es C ty fr,b<H.n->H.o b=.blk s es true->w.heap[(ρ b).g]?=some (.cells C ty fr)->fz' (ρ b).g=some (.cells C ty fr)):∀(y:Lf) {x:Lf} {v:Value},aA S ρ H.n x v->Im H y x->aV S fz' y v
 |.int k z,x,v,hr,hi=>by simp only[Im] at hi;subst hi;simp only[aA] at hr;simp only[aV];exact hr
 |.bool k,x,v,hr,hi=>by simp only[Im] at hi;subst hi;simp only[aA] at hr;simp only[aV];exact hr
 |.str k,x,v,hr,hi=>by simp only[Im] at hi;subst hi;simp only[aA] at hr;simp only[aV];exact hr
 | .fn f c,x,v,hr,hi=>by
   simp only[Im] at hi;obtain⟨rfl,rfl⟩:=hi;simp only[aA] at hr;simp only[aV];exact⟨trivial,by simpa using hr.2⟩
 |.nilp,x,v,hr,hi=>by simp only[Im] at hi;subst hi;simp only[aA] at hr;simp only[aV];exact hr
 |.nils,x,v,hr,hi=>by simp only[Im] at hi;subst hi;simp only[aA] at hr;simp only[aV];exact hr
 |.slz,x,v,hr,hi=>by simp only[Im] at hi;subst hi;simp only[aA] at hr;simp only[aV];exact hr
 |.nilf,x,v,hr,hi=>by simp only[Im] at hi;subst hi;simp only[aA] at hr;simp only[aV];exact hr
 |.nilm,x,v,hr,hi=>by simp only[Im] at hi;subst hi;simp only[aA] at hr;simp only[aV];exact hr
 |.nili,x,v,hr,hi=>by simp only[Im] at hi;subst hi;simp only[aA] at hr;simp only[aV];exact hr
 |.ptr _ _ _,x,v,hr,hi=>by simp only[Im] at hi
 |.sl _ _ _,x,v,hr,hi=>by simp only[Im] at hi
 |.yld _,x,v,hr,hi=>by simp only[Im] at hi
 |.mp _,x,v,hr,hi=>by simp only[Im] at hi
 | .vrow s els,x,v,hr,hi=>by
   simp only[Im] at hi;rcases hi with rfl | ⟨rfl,rfl | rfl⟩ | ⟨b,i,es,rfl,ho,hrow⟩
   .simp only[aA] at hr;exact aV.mono h1 hr
   .simp only[aA] at hr;simp only[aV];exact⟨none,0,hr,zJ _,.inl trivial⟩
   .simp only[aA] at hr;obtain⟨a,hr⟩:=hr;simp only[aV];exact⟨a,0,hr,zJ _,.inl trivial⟩
   .simp only[aA] at hr;obtain⟨hb,a,cap,rfl,hc,hcap⟩:=hr;simp only[aV];refine⟨some a,cap,rfl,hc,?_⟩;rcases hcap with rfl | ⟨ha,_⟩
    .exact .inl (zT (by omega))
    .have hob:=hH.obj b hb;rw[ho] at hob;obtain⟨hs,C,ty,fr,hw,hcells,_⟩:=hob;refine .inr ⟨(ρ b).g,(ρ b).o+i*(ρ b).s,C,ty,fr,?_,h2 b s es C ty fr hb ho hw,?_⟩
     .rw[ha];rfl
     .refine yP hH h1 h2 els (fun k e hk=>?_) hrow;rw[List.getElem?_drop] at hk;obtain⟨q1,q2⟩:=hcells (i+k) e hk;refine⟨by rw[hs];exact q1,fun j x hj=>?_⟩;obtain⟨u,u1,u2⟩:=q2 j x hj;exact⟨u,by rw[<- u1,hs];congr 1;rw[Nat.add_mul];omega,u2⟩
 | .vptr cs,x,v,hr,hi=>by
   simp only[Im] at hi;rcases hi with rfl | ⟨b,i,j,s,es,e,rfl,ho,he,hrow⟩
   .simp only[aA] at hr;exact aV.mono h1 hr
   .simp only[aA] at hr;obtain⟨hb,rfl⟩:=hr;have hob:=hH.obj b hb;rw[ho] at hob;obtain⟨hs,C,ty,fr,hw,hcells,_⟩:=hob;simp only[aV];refine⟨(ρ b).g,(ρ b).o+i*(ρ b).s+j,C,ty,fr,rfl,h2 b s es C ty fr hb ho hw,?_⟩;refine nL hH h1 h2 cs (fun k x hk=>?_) hrow;rw[List.getElem?_drop] at hk;obtain⟨u,u1,u2⟩:=(hcells i e he).2 (j+k) x hk;exact⟨u,by rw[<- u1];congr 1;omega,u2⟩
theorem nL (hH:aJ S H ρ w) (h1:∀k ob,ρ.fz k=some ob->fz' k=some ob)
 (h2:∀b s es C ty fr,b<H.n->H.o b=.blk s es true->w.heap[(ρ b).g]?=some (.cells C ty fr)->fz' (ρ b).g=some (.cells C ty fr)):∀(ys:List Lf) {xs:List Lf} {C:Array Value} {o:Nat},
 (∀k x,xs[k]?=some x->∃u,C[o+k]?=some u/\aA S ρ H.n x u)->ImC H ys xs->bz S fz' C o ys
 |[],xs,C,o,hr,hi=>by simp only[bz]
 |y::r,[],C,o,hr,hi=>by simp only[ImC] at hi
 | y::r,x::q,C,o,hr,hi=>by
   simp only[ImC] at hi;simp only[bz];obtain⟨u,u1,u2⟩:=hr 0 x rfl;exact⟨⟨u,by simpa using u1,DZ hH h1 h2 y u2 hi.1⟩,nL hH h1 h2 r (fun k x hk=>by
    obtain⟨u,u1,u2⟩:=hr (k+1) x (by simpa using hk);exact⟨u,by rw[<- u1];congr 1;omega,u2⟩) hi.2⟩
theorem yP (hH:aJ S H ρ w) (h1:∀k ob,ρ.fz k=some ob->fz' k=some ob)
 (h2:∀b s es C ty fr,b<H.n->H.o b=.blk s es true->w.heap[(ρ b).g]?=some (.cells C ty fr)->fz' (ρ b).g=some (.cells C ty fr)) {s:Nat}:∀(ys:List (List Lf)) {xs:List (List Lf)} {C:Array Value} {o:Nat},
 (∀k e,xs[k]?=some e->e.length=s/\∀j x,e[j]?=some x->∃u,C[o+k*s+j]?=some u/\aA S ρ H.n x u)->ImR H s ys xs->eG S fz' C o s ys
 |[],xs,C,o,hr,hi=>by simp only[eG]
 |y::r,[],C,o,hr,hi=>by simp only[ImR] at hi
 | y::r,x::q,C,o,hr,hi=>by
   simp only[ImR] at hi;simp only[eG];obtain⟨u1,u2⟩:=hr 0 x rfl;refine⟨hi.1,nL hH h1 h2 y (fun k x hk=>?_) hi.2.1,yP hH h1 h2 r (fun k e hk=>?_) hi.2.2⟩
   .obtain⟨u,v1,v2⟩:=u2 k x hk;exact⟨u,by rw[<- v1];congr 1;omega,v2⟩
   .obtain⟨v1,v2⟩:=hr (k+1) e (by simpa using hk);refine⟨v1,fun j x hj=>?_⟩;obtain⟨u,k1,k2⟩:=v2 j x hj;exact⟨u,by rw[<- k1];congr 1;rw[Nat.succ_mul];omega,k2⟩
end
theorem Ho (hH:aJ S H ρ w) {ρ':Rho}{n':Nat}(h1:∀k ob,ρ.fz k=some ob->ρ'.fz k=some ob)
 (h2:∀b s es C ty fr,b<H.n->H.o b=.blk s es true->w.heap[(ρ b).g]?=some (.cells C ty fr)->ρ'.fz (ρ b).g=some (.cells C ty fr)) {y x:AV} {v:Value} (hr:aN S ρ H.n x v) (hi:ImV H y x):aN S ρ' n' y v:=by
 cases y with
 | one y=>
   obtain⟨z,rfl,hi⟩:=hi;exact aV.lrel (DZ hH h1 h2 y hr hi)
 | agg ys=>
   obtain⟨zs,rfl,hl,hi⟩:=hi;obtain⟨arr,rfl,hr⟩:=hr;have hc:bz S ρ'.fz arr 0 ys:=nL hH h1 h2 ys (fun k x hk=>by
    obtain⟨u,hu,hx⟩:=hr.get hk;exact⟨u,by rw[Nat.zero_add,<- hu];simp,hx⟩) hi
   refine⟨arr,rfl,by rw[<- hl];exact hr.1,fun k x u hk hu=>?_⟩;obtain⟨u',hu',hx⟩:=hc.get hk;rw[Nat.zero_add] at hu';have:arr.toList[k]?=some u':=by simpa using hu'
   rw[this] at hu;cases hu;exact hx.lrel
 |tup ys=>exact hi.elim
def scL:Lf->Bool
 |.int _ _ | .bool _ | .str _ | .nilp | .nils | .nilf | .nilm | .nili=>true
 |_=>false
def IX:AV->Bool
 |.one x=>scL x
 |.agg cs=>cs.all scL
 |.tup _=>false
def scA:AV->Bool
 |.tup vs=>vs.all IX
 |x=>IX x
theorem yD {ρ':Rho}{n n':Nat}{x:Lf}{u:Value}(hs:scL x=true) (h:aA S ρ n x u):aA S ρ' n' x u:=by
 cases x <;> first | (cases hs; done) | (simp only[aA] at h ⊢; exact h)
theorem CU {ρ':Rho}{n n':Nat}{x:List Lf}{u:List Value}(hs:x.all scL=true) (h:ae (aA S ρ n) x u):ae (aA S ρ' n') x u:=
 ⟨h.1,fun i a b ha hb=>yD (List.all_eq_true.1 hs a (zU ha)) (h.2 i a b ha hb)⟩
theorem qb {ρ':Rho}{n n':Nat}{x:AV}{u:Value}(hs:IX x=true) (h:ik S ρ n x u):ik S ρ' n' x u:=by
 cases x with
 |one x=>exact yD hs h
 |agg x=>obtain⟨arr,e,h⟩:=h;exact⟨arr,e,CU hs h⟩
 |tup x=>cases hs
theorem Gp {ρ':Rho}{n n':Nat}{x:AV}{u:Value}(hs:scA x=true) (h:aN S ρ n x u):aN S ρ' n' x u:=by
 cases x with
 |one x=>exact qb (x:=.one x) hs h
 |agg x=>exact qb (x:=.agg x) hs h
 | tup x=>
   rcases h with h | ⟨arr,e,h⟩
   .exact .inl h
   .exact .inr ⟨arr,e,h.1,fun i a b ha hb=>qb (List.all_eq_true.1 hs a (zU ha)) (h.2 i a b ha hb)⟩
open Classical in
noncomputable def lw (H:Heap) (ρ:Rho) (w:World):Rho:=⟨ρ.l,fun k=>match ρ.fz k with
 |some ob=>some ob
 |none=>if ∃b s es,b<H.n/\H.o b=.blk s es true/\(ρ b).g=k then (match w.heap[k]? with | some (.cells C ty fr)=>some (.cells C ty fr) | _=>none) else none⟩
theorem BZ {k:Nat}{ob:Obj}(h:ρ.fz k=some ob):(lw H ρ w).fz k=some ob:=by
 show (match ρ.fz k with | some ob=>some ob | none=>_)=_;rw[h]
theorem CY (hH:aJ S H ρ w) {b s:Nat}{es:List (List Lf)}{C:Array Value}{ty:TypeId}{fr:Nat×Nat}(hb:b<H.n) (ho:H.o b=.blk s es true) (hw:w.heap[(ρ b).g]?=some (.cells C ty fr)):(lw H ρ w).fz (ρ b).g=some (.cells C ty fr):=by
 show (match ρ.fz (ρ b).g with | some ob=>some ob | none=>_)=_;cases hk:ρ.fz (ρ b).g with
 |some ob=>exact absurd rfl ((hH.fz _ _ hk).2.2 b hb (by rw[ho];rfl))
 | none=>
   dsimp only;rw[if_pos ⟨b,s,es,hb,ho,rfl⟩,hw]
open Classical in
theorem Bj (hH:aJ S H ρ w):aJ S ⟨H.n,fun _=>.dead⟩ (lw H ρ w) w:=by
 refine⟨fun i hi=>trivial,fun i j _ _ _ h=>(by cases h),fun k ob hk=>⟨(hH.fx k ob hk).1,fun i _ h=>(by cases h)⟩,fun k ob hk=>?_,hH.dr⟩;have hk:(match ρ.fz k with | some ob=>some ob | none=>if ∃b s es,b<H.n/\H.o b=.blk s es true/\(ρ b).g=k then (match w.heap[k]? with | some (.cells C ty fr)=>some (.cells C ty fr) | _=>none) else none)=some ob:=hk;split at hk
 .rename_i ob' h;cases hk;exact⟨(hH.fz k _ h).1,(hH.fz k _ h).2.1,fun i _ h=>by cases h⟩
 .split at hk
  .split at hk
   .rename_i C ty fr h;cases hk;exact⟨⟨_,_,_,rfl⟩,h,fun i _ h=>by cases h⟩
   .cases hk
  .cases hk
theorem oN (hH:aJ S H ρ w) {v:AV}(hs:scA v=true) {e:Ending}{w':World}(h:nk S ⟨H.n,fun _=>.dead⟩ (lw H ρ w) w v ⟨H.n,fun _=>.dead⟩ e w'):nk S H ρ w v H e w':=by
 obtain⟨u,ρ',rfl,hH',hF,hv⟩:=h;have key:∀k,k<w.heap.size->w'.heap[k]?=w.heap[k]?:=fun k hk=>(hF.keep k hk fun i _ h=>by cases h).1
 have some_lt:∀{k:Nat} {ob:Obj},w.heap[k]?=some ob->w'.heap[k]?=some ob:=fun {k ob} h=>by
  rw[key k (zQ.1 h).1];exact h
 refine⟨u,ρ,rfl,⟨fun i hi=>?_,hH.ap,fun k ob hk=>⟨some_lt (hH.fx k ob hk).1,(hH.fx k ob hk).2⟩,fun k ob hk=>⟨(hH.fz k ob hk).1,some_lt (hH.fz k ob hk).2.1,(hH.fz k ob hk).2.2⟩,hH'.dr⟩,
  ⟨hF.sz,hF.os,hF.tape,hF.output,zJ _,fun _ _=>rfl,fun k hk hn=>⟨key k hk,hn⟩,fun _ _ h=>h,fun _ _ _=>rfl⟩,Gp hs hv⟩
 have ho:=hH.obj i hi;by_cases hk:(ρ i).g<w.heap.size
 .rw[key _ hk];exact ho
 .have hnone:w.heap[(ρ i).g]?=none:=Array.getElem?_eq_none (by omega);rw[hnone] at ho;cases hx:H.o i with
  |dead=>trivial
  |blk s els own=>rw[hx] at ho;obtain⟨_,C,ty,fr,h,_⟩:=ho;cases h
  |map es=>rw[hx] at ho;obtain⟨E,clk,h,_⟩:=ho;cases h
  |siter s p=>rw[hx] at ho;exact absurd ho.1 (by simp)
  |bld u x=>rw[hx] at ho;obtain⟨_,t,b,_,h,_⟩:=ho;cases h
  |loop st pend T ps as bd=>rw[hx] at ho;obtain⟨r,h,_⟩:=ho;cases h
theorem look_ok {i:Nat}{g:GP}(hp:aP S i (aC g)) {ys xs:List AV}{v:AV}{c:List Prop}(hg:g ys=some (v,c)) (hc:aK c) (hs:scA v=true) (hi:ae (ImV H) ys xs) {vs:List Value}(hv:ae (aN S ρ H.n) xs vs) (hH:aJ S H ρ w) :
 BR S H ρ w v H ((callFunc (S.re i) vs.toArray).run S.C.P w):=by
 have h:=hp ys ⟨H.n,fun _=>.dead⟩ v ⟨H.n,fun _=>.dead⟩ (pF hg hc _) (lw H ρ w) w vs ⟨hi.1.trans hv.1,fun k y u hy hu=>by
  obtain⟨x,hx,hyx⟩:=hi.get hy;exact Ho hH (fun k ob=>BZ) (fun b s es C ty fr hb ho hw=>CY hH hb ho hw) (hv.2 k x u hx hu) hyx⟩ (Bj hH)
 rcases h with ⟨u,w',h1,h2⟩ | ⟨f,args,w1,ρ1,h1,rfl,rfl,h2⟩ | ⟨l,f,tmps,as,bd,h1,h2⟩
 .exact .inl ⟨u,w',h1,oN hH hs h2⟩
 .exact .inr (.inl ⟨f,args,_,_,h1,rfl,rfl,h2.mono fun e w' h=>oN hH hs h⟩)
 .exact .inr (.inr ⟨l,f,tmps,as,bd,h1,h2.mono fun e w' h=>oN hH hs h⟩)
end
end Go.EA
end
section
namespace Go.EA
mutual
def ShF:Lf->Lf->Prop
 |.vrow s els,y=>∃els',y=.vrow s els'/\∀e'∈els',ShR els e'
 |.vptr cs,y=>∃cs',y=.vptr cs'/\ShC cs cs'
 |.int k _,y=>∃z,y=.int k z
 |.bool _,y=>∃b,y=.bool b
 |.str _,y=>∃s,y=.str s
 |.fn f c,y=>y=.fn f c
 |.nilp,y=>y=.nilp
 |.nils,y=>y=.nils
 |.slz,y=>y=.slz
 |.nilf,y=>y=.nilf
 |.nilm,y=>y=.nilm
 |.nili,y=>y=.nili
 |.ptr _ _ _,_=>False
 |.sl _ _ _,_=>False
 |.yld _,_=>False
 |.mp _,_=>False
def ShC:List Lf->List Lf->Prop
 |[],ys=>ys=[]
 |x::r,ys=>match ys with | []=>False | y::q=>ShF x y/\ShC r q
def ShR:List (List Lf)->List Lf->Prop
 |[],_=>True
 |e::r,e'=>ShC e e'/\ShR r e'
end
section
variable {H:Heap}
mutual
theorem Iw:∀(x:Lf) {y z:Lf},ShF x y->Im H x z->Im H y z->x=y
 | .int k a,y,z,hs,h1,h2=>by
   simp only[ShF] at hs;obtain⟨b,rfl⟩:=hs;simp only[Im] at h1 h2;rw[h1] at h2;exact h2
 | .bool a,y,z,hs,h1,h2=>by
   simp only[ShF] at hs;obtain⟨b,rfl⟩:=hs;simp only[Im] at h1 h2;rw[h1] at h2;exact h2
 | .str a,y,z,hs,h1,h2=>by
   simp only[ShF] at hs;obtain⟨b,rfl⟩:=hs;simp only[Im] at h1 h2;rw[h1] at h2;exact h2
 |.fn f c,y,z,hs,h1,h2=>by simp only[ShF] at hs;exact hs.symm
 |.nilp,y,z,hs,h1,h2=>by simp only[ShF] at hs;exact hs.symm
 |.nils,y,z,hs,h1,h2=>by simp only[ShF] at hs;exact hs.symm
 |.slz,y,z,hs,h1,h2=>by simp only[ShF] at hs;exact hs.symm
 |.nilf,y,z,hs,h1,h2=>by simp only[ShF] at hs;exact hs.symm
 |.nilm,y,z,hs,h1,h2=>by simp only[ShF] at hs;exact hs.symm
 |.nili,y,z,hs,h1,h2=>by simp only[ShF] at hs;exact hs.symm
 |.ptr _ _ _,y,z,hs,h1,h2=>by simp only[ShF] at hs
 |.sl _ _ _,y,z,hs,h1,h2=>by simp only[ShF] at hs
 |.yld _,y,z,hs,h1,h2=>by simp only[ShF] at hs
 |.mp _,y,z,hs,h1,h2=>by simp only[ShF] at hs
 | .vrow s els,y,z,hs,h1,h2=>by
   simp only[ShF] at hs;obtain⟨els',rfl,hs⟩:=hs;simp only[Im] at h1 h2;rcases h1 with rfl | ⟨rfl,h1⟩ | ⟨b,i,es,rfl,ho,hr⟩
   .rcases h2 with h2 | ⟨_,h2 | h2⟩ | ⟨b,i,es,h2,_⟩
    .exact h2
    .cases h2
    .cases h2
    .cases h2
   .rcases h2 with rfl | ⟨rfl,h2⟩ | ⟨b,i,es,rfl,_⟩
    .rcases h1 with h1 | h1 <;> cases h1
    .rfl
    .rcases h1 with h1 | h1 <;> cases h1
   .rcases h2 with h2 | ⟨_,h2 | h2⟩ | ⟨b',i',es',h2,ho',hr'⟩
    .cases h2
    .cases h2
    .cases h2
    .simp only[Lf.sl.injEq] at h2;obtain⟨rfl,rfl,hl⟩:=h2;rw[ho] at ho';cases ho';rw[CP els hl hs hr hr']
 | .vptr cs,y,z,hs,h1,h2=>by
   simp only[ShF] at hs;obtain⟨cs',rfl,hs⟩:=hs;simp only[Im] at h1 h2;rcases h1 with rfl | ⟨b,i,j,s,es,e,rfl,ho,he,hr⟩
   .rcases h2 with h2 | ⟨b,i,j,s,es,e,h2,_⟩
    .exact h2
    .cases h2
   .rcases h2 with h2 | ⟨b',i',j',s',es',e',h2,ho',he',hr'⟩
    .cases h2
    .simp only[Lf.ptr.injEq] at h2;obtain⟨rfl,rfl,rfl⟩:=h2;rw[ho] at ho';cases ho';rw[he] at he';cases he';rw[sG cs hs hr hr']
theorem sG:∀(cs:List Lf) {cs' zs:List Lf},ShC cs cs'->ImC H cs zs->ImC H cs' zs->cs=cs'
 |[],cs',zs,hs,h1,h2=>by simp only[ShC] at hs;exact hs.symm
 |x::r,[],zs,hs,h1,h2=>by simp only[ShC] at hs
 |x::r,y::q,[],hs,h1,h2=>by simp only[ImC] at h1
 | x::r,y::q,z::zs,hs,h1,h2=>by
   simp only[ShC] at hs;simp only[ImC] at h1 h2;rw[Iw x hs.1 h1.1 h2.1,sG r hs.2 h1.2 h2.2]
theorem CP {s:Nat}:∀(els:List (List Lf)) {els' zs:List (List Lf)},els.length=els'.length->(∀e'∈els',ShR els e')->ImR H s els zs->ImR H s els' zs->els=els'
 | [],els',zs,hl,hs,h1,h2=>by
   cases els' with
   |nil=>rfl
   |cons _ _=>cases hl
 |x::r,[],zs,hl,hs,h1,h2=>by cases hl
 |x::r,y::q,[],hl,hs,h1,h2=>by simp only[ImR] at h1
 | x::r,y::q,z::zs,hl,hs,h1,h2=>by
   simp only[ImR] at h1 h2;have hx:=hs y (by simp);simp only[ShR] at hx;rw[sG x hx.1 h1.2.1 h2.2.1,CP r (by simpa using hl) (fun e' he'=>by
    have:=hs e' (by simp[he']);simp only[ShR] at this;exact this.2) h1.2.2 h2.2.2]
end
def ShV:AV->AV->Prop
 |.one x,y=>∃y',y=.one y'/\ShF x y'
 |.agg xs,y=>∃ys,y=.agg ys/\ShC xs ys
 |.tup _,_=>False
theorem Jf {x y z:AV}(hs:ShV x y) (h1:ImV H x z) (h2:ImV H y z):x=y:=by
 cases x with
 | one x=>
   obtain⟨y',rfl,hs⟩:=hs;obtain⟨z',rfl,h1⟩:=h1;obtain⟨z2,e,h2⟩:=h2;cases e;rw[Iw x hs h1 h2]
 | agg x=>
   obtain⟨y',rfl,hs⟩:=hs;obtain⟨z',rfl,_,h1⟩:=h1;obtain⟨z2,e,_,h2⟩:=h2;cases e;rw[sG x hs h1 h2]
 |tup x=>exact hs.elim
mutual
theorem yR (hd:H.Hd) (o:AO):∀(x:Lf) {z:Lf},Im H x z->Im (H.push o) x z
 |.int k a,z,h=>by simp only[Im] at h ⊢;exact h
 |.bool a,z,h=>by simp only[Im] at h ⊢;exact h
 |.str a,z,h=>by simp only[Im] at h ⊢;exact h
 |.fn f c,z,h=>by simp only[Im] at h ⊢;exact h
 |.nilp,z,h=>by simp only[Im] at h ⊢;exact h
 |.nils,z,h=>by simp only[Im] at h ⊢;exact h
 |.slz,z,h=>by simp only[Im] at h ⊢;exact h
 |.nilf,z,h=>by simp only[Im] at h ⊢;exact h
 |.nilm,z,h=>by simp only[Im] at h ⊢;exact h
 |.nili,z,h=>by simp only[Im] at h ⊢;exact h
 |.ptr _ _ _,z,h=>by simp only[Im] at h
 |.sl _ _ _,z,h=>by simp only[Im] at h
 |.yld _,z,h=>by simp only[Im] at h
 |.mp _,z,h=>by simp only[Im] at h
 | .vrow s els,z,h=>by
   simp only[Im] at h ⊢;rcases h with h | h | ⟨b,i,es,e,ho,hr⟩
   .exact .inl h
   .exact .inr (.inl h)
   .exact .inr (.inr ⟨b,i,es,e,by rw[mK (Hd.lt hd (by rw[ho];simp))];exact ho,uT hd o els hr⟩)
 | .vptr cs,z,h=>by
   simp only[Im] at h ⊢;rcases h with h | ⟨b,i,j,s,es,e,hz,ho,he,hr⟩
   .exact .inl h
   .exact .inr ⟨b,i,j,s,es,e,hz,by rw[mK (Hd.lt hd (by rw[ho];simp))];exact ho,he,lm hd o cs hr⟩
theorem lm (hd:H.Hd) (o:AO):∀(cs:List Lf) {zs:List Lf},ImC H cs zs->ImC (H.push o) cs zs
 |[],zs,h=>by simp only[ImC]
 |x::r,[],h=>by simp only[ImC] at h
 | x::r,z::zs,h=>by
   simp only[ImC] at h ⊢;exact⟨yR hd o x h.1,lm hd o r h.2⟩
theorem uT (hd:H.Hd) (o:AO) {s:Nat}:∀(els:List (List Lf)) {zs:List (List Lf)},ImR H s els zs->ImR (H.push o) s els zs
 |[],zs,h=>by simp only[ImR]
 |x::r,[],h=>by simp only[ImR] at h
 | x::r,z::zs,h=>by
   simp only[ImR] at h ⊢;exact⟨h.1,lm hd o x h.2.1,uT hd o r h.2.2⟩
end
theorem EH (hd:H.Hd) (o:AO) {x z:AV}(h:ImV H x z):ImV (H.push o) x z:=by
 cases x with
 |one x=>obtain⟨y,rfl,h⟩:=h;exact⟨y,rfl,yR hd o x h⟩
 |agg x=>obtain⟨y,rfl,hl,h⟩:=h;exact⟨y,rfl,hl,lm hd o x h⟩
 |tup x=>exact h.elim
def jJ (g:GP) (H:Heap) (xs:List AV) (v:AV):Prop:=(∃c,g xs=some (v,c)/\aK c)\/(scA v=true/\∃ys c,ae (ImV H) ys xs/\g ys=some (v,c)/\aK c)
open Classical in
noncomputable def iX (g:GP) (xs:List AV) (H:Heap):Option (AV×Heap):=if h:∃v,jJ g H xs v then some (h.choose,H) else none
def UnG (g:GP):Prop:=∀H xs v v',jJ g H xs v->jJ g H xs v'->v=v'
theorem lK {g:GP}{xs:List AV}{v:AV}{H':Heap}(h:iX g xs H=some (v,H')):H'=H/\jJ g H xs v:=by
 unfold iX at h;split at h
 .rename_i hh;simp only[zE,zF] at h;obtain⟨rfl,rfl⟩:=h;exact⟨rfl,hh.choose_spec⟩
 .cases h
theorem oW {g:GP}(hu:UnG g) {xs:List AV}{v:AV}(h:jJ g H xs v):iX g xs H=some (v,H):=by
 have hh:∃v,jJ g H xs v:=⟨v,h⟩;unfold iX;rw[dif_pos hh,hu H xs _ _ hh.choose_spec h]
theorem jJ.push {g:GP}(hd:H.Hd) (o:AO) {xs:List AV}{v:AV}(h:jJ g H xs v):jJ g (H.push o) xs v:=by
 rcases h with h | ⟨hs,ys,c,hi,hg,hc⟩
 .exact .inl h
 .exact .inr ⟨hs,ys,c,⟨hi.1,fun k y x hy hx=>EH hd o (hi.2 k y x hy hx)⟩,hg,hc⟩
theorem xJ {g:GP}(hu:UnG g) (hd:H.Hd) (o:AO) {xs:List AV}{v:AV}{H':Heap}(h:iX g xs H=some (v,H')):iX g xs (H.push o)=some (v,H.push o):=
 oW hu ((lK h).2.push hd o)
theorem BA {S:SC}{i:Nat}{g:GP}(hp:aP S i (aC g)):aP S i (iX g):=by
 intro xs H v H' h ρ w vs hv hH;obtain⟨rfl,h⟩:=lK h;rcases h with ⟨c,hg,hc⟩ | ⟨hs,ys,c,hi,hg,hc⟩
 .exact hp xs _ v _ (pF hg hc _) ρ w vs hv hH
 .exact look_ok hp hg hc hs hi hv hH
end
end Go.EA
end
