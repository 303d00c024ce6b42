/- Texts. Conditions: none. -/
import Derived.Test.YtgkhohpekfjlmaaDoorEK23
import Derived.Test.YtgkhohpekfjlmaaDoorEDf
import Derived.KernelRfl
import Derived.Test.YtgkhohpekfjlmaaDoorEK25
import Derived.Test.YtgkhohpekfjlmaaDoorEK12
set_option linter.unusedVariables false
set_option linter.unusedSimpArgs false
section
namespace Go.EA
def e01 (b:Bool):Int:=if b then 1 else 0
def mY (S:List StD) (es:List Ed):Int:=(es.map fun e=>(stA S e.2.toNat).2.2).sum
theorem Jv (S:List StD) {es:List Ed}{j:Nat}(h:j<es.length):mY S (es.take (j+1))=mY S (es.take j)+(stA S (es.getD j (0,0)).2.toNat).2.2:=by
 unfold mY;rw[bF (0,0) h,List.map_append,List.sum_append];simp
structure rA (S:List StD):Prop where
 eds:EdS S
 pos:0<S.length
 to:∀i,i<S.length->∀e∈(stA S i).1,0<=e.2/\e.2<(S.length:Int)
 cnt:∀i,i<S.length->(stA S i).2.2=e01 (stA S i).2.1+mY S (stA S i).1
 nn:∀i,i<S.length->0<=(stA S i).2.2
 le:∀i,i<S.length->(stA S i).2.2<=4194305
def plc (S:List StD):List Int->Nat->Int->Int×Int
 |[],i,at'=>if (stA S i).2.1 then (at',0) else (0,10)
 |r::rs,i,at'=>if dz (stA S i).1 r then plc S rs (gM (stA S i).1 r).toNat (at'+e01 (stA S i).2.1+mY S ((stA S i).1.take (nC (stA S i).1 r).toNat)) else (0,10)
theorem xG {S:List StD}(h:rA S):∀(es:List Ed),(∀e∈es,0<=e.2/\e.2<(S.length:Int))->0<=mY S es
 |[],_=>Int.le_refl _
 | e::es,he=>by
   have h1:=xG h es fun x hx=>he x (by simp[hx])
   have h2:=he e (by simp);have h3:=h.nn e.2.toNat (by omega);unfold mY at h1 ⊢;simp only[zK,List.sum_cons];omega
theorem rA.part {S:List StD}(h:rA S) {i:Nat}(hi:i<S.length) {n:Nat}(hn:n<(stA S i).1.length) :
 0<=mY S ((stA S i).1.take n)/\e01 (stA S i).2.1+mY S ((stA S i).1.take n)+(stA S ((stA S i).1.getD n (0,0)).2.toNat).2.2<=(stA S i).2.2/\((stA S i).1.getD n (0,0)).2.toNat<S.length:=by
 have h0:=h.to i hi;have hm:=h0 _ (sD hn);refine⟨xG h _ fun e he=>h0 e (List.mem_of_mem_take he),?_,by omega⟩;have e1:mY S (stA S i).1=mY S ((stA S i).1.take (n+1))+mY S ((stA S i).1.drop (n+1)):=by
  unfold mY;rw[<- List.sum_append,<- List.map_append,List.take_append_drop]
 have h2:=xG h ((stA S i).1.drop (n+1)) fun e he=>h0 e (List.mem_of_mem_drop he)
 have h3:=h.cnt i hi;rw[Jv S hn] at e1;omega
theorem ul {all:List RSt}{s:RSt}(g:Gs all s):∀{es:List Ed},(∀e∈es,e∈s.2.2)->mY (all.map stD) es=((es.map fun e=>(aZ s.1 e.1).length).sum:Nat)
 |[],_=>rfl
 | e::es,he=>by
   have ih:=ul g (es:=es) fun x hx=>he x (by simp[hx])
   obtain⟨n,h1,h2,h3⟩:=g.to e (he e (by simp));unfold mY at ih ⊢;simp only[zK,List.sum_cons];rw[ih,h1,Int.toNat_natCast,eP h2];show ((rAt all n).1.length:Int)+_=_;rw[h3];push_cast;rfl
theorem Sts.ok {W:Rst}{all:List RSt}(hS:Sts W all) (hT:tot W<=4194304):rA (all.map stD):=by
 have hm:∀i,i<all.length->rAt all i∈all:=fun i hi=>by unfold rAt;rw[zA,zB hi];exact List.getElem_mem _
 have hl:(all.map stD).length=all.length:=zR ..;refine⟨hS.eds hT,by rw[hl]; exact hS.pos,fun i hi e he=>?_,fun i hi=>?_,fun i hi=>?_,fun i hi=>?_⟩ <;> rw[hl] at hi
 .rw[eP hi] at he;obtain⟨n,h1,h2,h3⟩:=(hS.g _ (hm i hi)).to e he;rw[hl];omega
 .have g:=hS.g _ (hm i hi);rw[eP hi];show ((rAt all i).1.length:Int)=e01 (rAt all i).2.1+mY (all.map stD) (rAt all i).2.2;rw[ul g fun e he=>he];have h1:=tQ g.srt;unfold yS at h1;rw[List.take_length,<- g.hd,List.map_map,<- g.ends] at h1;have h2:((fun r=>(aZ (rAt all i).1 r).length) ∘ fun e:Ed=>e.1)=fun e:Ed=>(aZ (rAt all i).1 e.1).length:=rfl
  rw[h2] at h1;rw[<- h1];unfold e01;cases (rAt all i).2.1 <;> simp
 .rw[eP hi];show 0<=((rAt all i).1.length:Int);omega
 .rw[eP hi];show ((rAt all i).1.length:Int)<=_;have h1:=si (hS.g _ (hm i hi)).srt;have h2:=hS.tt _ (hm i hi);omega
end Go.EA
end
section
set_option maxRecDepth 100000
set_option maxHeartbeats 0
namespace Go.EA
open F
structure PlI (S:List StD) (rs:List Int) (x:Nat×Nat×Int):Prop where
 le:x.1<=rs.length
 lt:x.2.1<S.length
 pl:plc S rs 0 0=plc S (rs.drop x.1) x.2.1 x.2.2
 nn:0<=x.2.2
 bd:x.2.2+(stA S x.2.1).2.2<=4194305
def plE (s:List UInt8) (d:List StD):Int×Int:=if bH s=0 then plc d (aK s) 0 0 else (0,10)
end Go.EA
end
section
namespace Go.EA
abbrev Ld:=List (Int×Bool)
def yt (all:List RSt) (i:Nat):List Ed:=(rAt all i).2.2
def ny (all:List RSt) (i k:Nat) (led:Ld):Prop:=(led.map (·.1)).Nodup/\∀j,j∈led.map (·.1)↔j=0\/(∃i',i'<i/\∃e∈yt all i',e.2=j)\/∃k',k'<k/\k'<(yt all i).length/\((yt all i).getD k' (0,0)).2=j
theorem Es (q:Int) (v:Bool):∀(es:Ld),(Ty.mput (.int .i64) es q v).map (·.1)=if q∈es.map (·.1) then es.map (·.1) else es.map (·.1)++[q]
 |[]=>by simp[Ty.mput]
 | (a,b)::es=>by
   have ih:=Es q v es;show List.map (·.1) (match decide (a=q) with | true=>(q,v)::es | false=>(a,b)::Ty.mput (.int .i64) es q v)=_;by_cases h:a=q
   .subst h;simp
   ·have h2:decide (a=q)=false:=decide_eq_false h;rw[h2];show a::List.map (·.1) (Ty.mput (.int .i64) es q v)=_;rw[ih];have h3:(q∈List.map (·.1) ((a,b)::es))↔q∈List.map (·.1) es:=by
     rw[zK,List.mem_cons];exact⟨fun h'=>h'.resolve_left fun e=>h e.symm,.inr⟩
    by_cases h4:q∈List.map (·.1) es
    .rw[if_pos h4,if_pos (h3.2 h4)];rfl
    .rw[if_neg h4,if_neg (fun h'=>h4 (h3.1 h'))];rfl
theorem ny.zero (all:List RSt):ny all 0 0 [(0,true)]:=by
 refine⟨by simp,fun j=>⟨fun h=>.inl (by simpa using h),fun h=>?_⟩⟩;rcases h with rfl | ⟨i',h,_⟩ | ⟨k',h,_⟩
 .simp
 .exact absurd h (zS _)
 .exact absurd h (zS _)
theorem ny.step {all:List RSt}{i k:Nat}{led:Ld}(h:ny all i k led) (hk:k<(yt all i).length):ny all i (k+1) (Ty.mput (.int .i64) led ((yt all i).getD k (0,0)).2 true):=by
 obtain⟨h1,h2⟩:=h;refine⟨?_,fun j=>?_⟩
 .rw[Es];split
  .exact h1
  .rename_i hq;refine List.nodup_append.2 ⟨h1,by simp,fun a ha b hb=>?_⟩;rw[List.mem_singleton.1 hb];exact fun e=>hq (e ▸ ha)
 ·have hm:j∈(Ty.mput (.int .i64) led ((yt all i).getD k (0,0)).2 true).map (·.1)↔j∈led.map (·.1)\/j=((yt all i).getD k (0,0)).2:=by
   rw[Es];split
   .rename_i hq;exact⟨.inl,fun h=>h.elim id fun e=>e ▸ hq⟩
   .rw[zX,List.mem_singleton]
  rw[hm,h2 j];constructor
  .rintro((h | h | ⟨k',h3,h4,h5⟩) | h)
   .exact .inl h
   .exact .inr (.inl h)
   .exact .inr (.inr ⟨k',by omega,h4,h5⟩)
   .exact .inr (.inr ⟨k,by omega,hk,h.symm⟩)
  .rintro(h | h | ⟨k',h3,h4,h5⟩)
   .exact .inl (.inl h)
   .exact .inl (.inr (.inl h))
   .by_cases e:k'=k
    .subst e;exact .inr h5.symm
    .exact .inl (.inr (.inr ⟨k',by omega,h4,h5⟩))
theorem ny.next {all:List RSt}{i:Nat}{led:Ld}(h:ny all i (yt all i).length led):ny all (i+1) 0 led:=by
 obtain⟨h1,h2⟩:=h;refine⟨h1,fun j=>?_⟩;rw[h2 j];constructor
 .rintro(h | ⟨i',h3,h4⟩ | ⟨k',h3,h4,h5⟩)
  .exact .inl h
  .exact .inr (.inl ⟨i',by omega,h4⟩)
  .exact .inr (.inl ⟨i,by omega,_,sD h4,h5⟩)
 .rintro(h | ⟨i',h3,e,h4,h5⟩ | ⟨k',h3,_⟩)
  .exact .inl h
  .by_cases ei:i'=i
   .subst ei;obtain⟨k',hk,rfl⟩:=List.getElem_of_mem h4;exact .inr (.inr ⟨k',hk,hk,by rw[zA,zB hk];exact h5⟩)
   .exact .inr (.inl ⟨i',by omega,e,h4,h5⟩)
  .exact absurd h3 (zS _)
theorem Md:∀(n:Nat) {l:List Int},l.Nodup->(∀j,j∈l↔0<=j/\j<(n:Int))->l.length=n
 | 0,l,_,h=>by
   cases l with
   |nil=>rfl
   |cons a t=>have:=(h a).1 (by simp);omega
 | n+1,l,hn,h=>by
   have hm:(n:Int)∈l:=(h n).2 ⟨by omega,by push_cast;omega⟩;have:=Md n (hn.erase (n:Int)) fun j=>by
    rw[hn.mem_erase_iff,h j];constructor
    .rintro⟨h1,h2,h3⟩;push_cast at h3;exact⟨h2,by omega⟩
    .rintro⟨h1,h2⟩;exact⟨by omega,h1,by push_cast;omega⟩
   rw[List.length_erase_of_mem hm] at this;have:0<l.length:=List.length_pos_of_mem hm;omega
theorem ny.all {W:Rst}{all:List RSt}(hS:Sts W all) (hW:∀e s,s∈all->e∈s.2.2->0<e.2/\e.2<(all.length:Int)) {led:Ld}(h:ny all all.length 0 led):led.length=all.length:=by
 have hl:(led.map (·.1)).length=led.length:=zR ..;rw[<- hl];refine Md _ h.1 fun j=>?_
 rw[h.2 j];have hr:∀i,i<all.length->rAt all i∈all:=fun i hi=>by unfold rAt;rw[zA,zB hi];exact List.getElem_mem _
 constructor
 .rintro(rfl | ⟨i',h3,e,h4,rfl⟩ | ⟨k',h3,_⟩)
  .have:=hS.pos;omega
  .have:=hW e _ (hr i' h3) h4;omega
  .exact absurd h3 (zS _)
 .rintro⟨h1,h2⟩;by_cases h0:j=0
  .exact .inl h0
  .obtain⟨s,hs,e,he,h5⟩:=hS.led j.toNat (by omega) (by omega);obtain⟨i,hi,rfl⟩:=List.getElem_of_mem hs;refine .inr (.inl ⟨i,hi,e,?_,by omega⟩);unfold yt rAt;rw[zA,zB hi];exact he
theorem Sts.edge {W:Rst}{all:List RSt}(hS:Sts W all):∀e s,s∈all->e∈s.2.2->0<e.2/\e.2<(all.length:Int):=fun e s hs he=>by
 have g:=hS.g s hs;obtain⟨n,h1,h2,h3⟩:=g.to e he;rw[h1];refine⟨?_,by omega⟩;have hr:e.1∈aD s.1:=by rw[<- g.hd];exact List.mem_map_of_mem he
 have hlt:=iA hr;have ht:=hS.tt s hs;cases n with
 |zero=>rw[hS.root] at h3;rw[<- h3] at hlt;omega
 |succ n=>omega
theorem Sts.some {W:Rst}{all:List RSt}(hS:Sts W all) {i:Nat}(hi:i<all.length) (h0:0<i):¬ ((rAt all i).2.2=[]/\(rAt all i).2.1=false):=fun⟨h1,h2⟩=>by
 have hr:rAt all i∈all:=by unfold rAt;rw[zA,zB hi];exact List.getElem_mem _
 have g:=hS.g _ hr;have e1:=g.hd;rw[h1] at e1;have e2:=g.ends;rw[h2] at e2;have hnil:(rAt all i).1=[]:=by
  refine List.eq_nil_iff_forall_not_mem.2 fun x hx=>?_
  cases x with
  | nil=>
    have:aH (rAt all i).1=true:=List.any_eq_true.2 ⟨[],hx,rfl⟩;rw[<- e2] at this;cases this
  | cons a t=>
    have:=fD hx;rw[<- e1] at this;cases this
 by_cases hw:W=[]
 .have:=hS.nd i 0 hi hS.pos (by rw[hnil,hS.root,hw]);omega
 .exact hS.ne hw _ hr hnil
theorem Sts.two {W:Rst}{all:List RSt}(hS:Sts W all) {i j:Nat}(hi:i<all.length) (hj:j<i):¬ ((rAt all j).2.1=(rAt all i).2.1/\(rAt all i).2.2=(rAt all j).2.2):=fun⟨h1,h2⟩=>by
 have hr:∀i,i<all.length->rAt all i∈all:=fun i hi=>by unfold rAt;rw[zA,zB hi];exact List.getElem_mem _
 have gi:=hS.g _ (hr i hi);have gj:=hS.g _ (hr j (by omega));have:(rAt all i).1=(rAt all j).1:=by
  refine Bv gi.srt gj.srt (by rw[<- gi.ends,<- gj.ends,h1]) (by rw[<- gi.hd,<- gj.hd,h2]) fun r hr=>?_
  rw[<- gi.hd] at hr;obtain⟨e,he,rfl⟩:=List.mem_map.1 hr;obtain⟨n,q1,_,q3⟩:=gi.to e he;obtain⟨n',p1,_,p3⟩:=gj.to e (h2 ▸ he);have:n=n':=by omega
  subst this;rw[<- q3,p3]
 have:=hS.nd i j hi (by omega) this;omega
theorem FD (l:List Wd):aA l=[]\/aA l=aa l:=by
 by_cases he:dY l=0
 .by_cases hb:65536<((aa l).length:Int)
  .exact .inl (GA he hb).1
  .exact .inr (AB he hb).1.symm
 .exact .inl (FK he).1
theorem uF (l:List Wd):(aA l).length<=l.length:=by
 rcases FD l with h | h <;> rw[h]
 .exact Nat.zero_le _
 .exact wT l
theorem FU {l:List Wd}{n:Nat}(h:∀x∈l,x.1.length<=n):∀x∈aA l,x.1.length<=n:=by
 rcases FD l with e | e <;> rw[e]
 .intro x hx;cases hx
 .exact SmW.norm h
end Go.EA
end
section
namespace Go.EA
theorem eH {l:Rst}:aH l=true↔[]∈l:=by
 unfold aH;rw[List.any_eq_true];exact⟨fun⟨x,h1,h2⟩=>by rw[List.isEmpty_iff] at h2;subst h2;exact h1,fun h=>⟨[],h,rfl⟩⟩
theorem Sts.mem {W:Rst}{all:List RSt}(hS:Sts W all) {i:Nat}(hi:i<all.length):rAt all i∈all:=by
 unfold rAt;rw[zA,zB hi];exact List.getElem_mem _
theorem Bh {out:List Ed}{r:Int}:dz out r=true↔r∈out.map (·.1):=by
 unfold dz vK;rw[List.find?_isSome];constructor
 .rintro⟨e,h1,h2⟩;have h2:=of_decide_eq_true h2;rw[<- h2];exact List.mem_map_of_mem h1
 .intro h;obtain⟨e,h1,rfl⟩:=List.mem_map.1 h;exact⟨e,h1,decide_eq_true rfl⟩
theorem pu {out:List Ed}{r:Int}(h:dz out r=true):(r,gM out r)∈out:=by
 unfold dz at h;obtain⟨e,he⟩:=Option.isSome_iff_exists.1 h;have h1:out.find? (fun e=>decide (e.1=r))=some e:=he;have h2:=List.find?_some h1;have h3:=List.mem_of_find?_eq_some h1;have h2:=of_decide_eq_true h2;unfold gM;rw[he,<- h2];exact h3
theorem Sts.has {W:Rst}{all:List RSt}(hS:Sts W all):∀(p:List Int) (i:Nat),i<all.length->bhs (rAt all i).1 p≠[]->∃j,j<all.length/\(rAt all j).1=bhs (rAt all i).1 p
 |[],i,hi,_=>⟨i,hi,rfl⟩
 | r::p,i,hi,hne=>by
   have hne:bhs (aZ (rAt all i).1 r) p≠[]:=hne;have hb:aZ (rAt all i).1 r≠[]:=fun e=>by
    rw[e] at hne;have:∀p:List Int,bhs [] p=[]:=fun p=>by
     unfold bhs
     induction p with
     |nil=>rfl
     |cons r p ih=>exact ih
    exact hne (this p)
   have g:=hS.g _ (hS.mem hi);have hr:r∈(rAt all i).2.2.map (·.1):=by
    rw[g.hd];cases hx:aZ (rAt all i).1 r with
    |nil=>exact absurd hx hb
    |cons z t=>exact fD (dK.1 (hx ▸ List.mem_cons_self ..))
   obtain⟨e,he,rfl⟩:=List.mem_map.1 hr;obtain⟨m,h2,h3,h4⟩:=g.to e he;obtain⟨j,hj,hj2⟩:=hS.has p m h3 (by rw[h4];exact hne);exact⟨j,hj,by rw[hj2,h4];rfl⟩
theorem xY {l:List Wd}{z:List Int}:z∈wdR l↔∃w∈l,aK w.1=z:=by unfold wdR;exact List.mem_map
structure Mor (l:List Wd) (w:Wd):Prop where
 he:isE (aA l)=0
 hm:isE (aA (aA l++[w]))=0
 pl:∀x∈aA l++[w],(plE x.1 (List.map stD (aM (aA (aA l++[w]))))).2=0
 st:(aM (aA (aA l++[w]))).length<=2*(aM (aA l)).length+(aK w.1).length
end Go.EA
end
