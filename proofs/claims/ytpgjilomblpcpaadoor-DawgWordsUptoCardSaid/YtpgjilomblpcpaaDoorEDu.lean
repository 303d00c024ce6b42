/- Plain: no state is led to in vain. Conditions: none. -/
import Derived.Test.YtpgjilomblpcpaaDoorEK23
import Derived.Test.YtpgjilomblpcpaaDoorEDj
import Derived.Test.YtpgjilomblpcpaaDoorEK25
import Derived.Test.YtpgjilomblpcpaaDoorEK12
set_option linter.unusedVariables false
set_option linter.unusedSimpArgs false
namespace Go.EA
abbrev Ld:=List (Int×Bool)
def xg (all:List RSt) (i:Nat):List Ed:=(rAt all i).2.2
def mW (all:List RSt) (i k:Nat) (led:Ld):Prop:=(led.map (·.1)).Nodup/\∀j,j∈led.map (·.1)↔j=0\/(∃i',i'<i/\∃e∈xg all i',e.2=j)\/∃k',k'<k/\k'<(xg all i).length/\((xg all i).getD k' (0,0)).2=j
theorem Dn (q:Int) (v:Bool):∀(es:Ld),(Ty.mput (.int .i64) es q v).map (·.1)=if q∈es.map (·.1) then es.map (·.1) else es.map (·.1)++[q]
 |[]=>by simp[Ty.mput]
 | (a,b)::es=>by
   have ih:=Dn q v es;show List.map (·.1) (match decide (a=q) with | true=>(q,v)::es | false=>(a,b)::Ty.mput (.int .i64) es q v)=_;by_cases h:a=q
   .subst h;simp
   ·have h2:decide (a=q)=false:=decide_eq_false h;rw[h2];show a::List.map (·.1) (Ty.mput (.int .i64) es q v)=_;rw[ih];have h3:(q∈List.map (·.1) ((a,b)::es))↔q∈List.map (·.1) es:=by
     rw[zK,List.mem_cons];exact⟨fun h'=>h'.resolve_left fun e=>h e.symm,.inr⟩
    by_cases h4:q∈List.map (·.1) es
    .rw[if_pos h4,if_pos (h3.2 h4)];rfl
    .rw[if_neg h4,if_neg (fun h'=>h4 (h3.1 h'))];rfl
theorem mW.zero (all:List RSt):mW all 0 0 [(0,true)]:=by
 refine⟨by simp,fun j=>⟨fun h=>.inl (by simpa using h),fun h=>?_⟩⟩;rcases h with rfl | ⟨i',h,_⟩ | ⟨k',h,_⟩
 .simp
 .exact absurd h (zS _)
 .exact absurd h (zS _)
theorem mW.step {all:List RSt}{i k:Nat}{led:Ld}(h:mW all i k led) (hk:k<(xg all i).length):mW all i (k+1) (Ty.mput (.int .i64) led ((xg all i).getD k (0,0)).2 true):=by
 obtain⟨h1,h2⟩:=h;refine⟨?_,fun j=>?_⟩
 .rw[Dn];split
  .exact h1
  .rename_i hq;refine List.nodup_append.2 ⟨h1,by simp,fun a ha b hb=>?_⟩;rw[List.mem_singleton.1 hb];exact fun e=>hq (e ▸ ha)
 ·have hm:j∈(Ty.mput (.int .i64) led ((xg all i).getD k (0,0)).2 true).map (·.1)↔j∈led.map (·.1)\/j=((xg all i).getD k (0,0)).2:=by
   rw[Dn];split
   .rename_i hq;exact⟨.inl,fun h=>h.elim id fun e=>e ▸ hq⟩
   .rw[zX,List.mem_singleton]
  rw[hm,h2 j];constructor
  .rintro((h | h | ⟨k',h3,h4,h5⟩) | h)
   .exact .inl h
   .exact .inr (.inl h)
   .exact .inr (.inr ⟨k',by omega,h4,h5⟩)
   .exact .inr (.inr ⟨k,by omega,hk,h.symm⟩)
  .rintro(h | h | ⟨k',h3,h4,h5⟩)
   .exact .inl (.inl h)
   .exact .inl (.inr (.inl h))
   .by_cases e:k'=k
    .subst e;exact .inr h5.symm
    .exact .inl (.inr (.inr ⟨k',by omega,h4,h5⟩))
theorem mW.next {all:List RSt}{i:Nat}{led:Ld}(h:mW all i (xg all i).length led):mW all (i+1) 0 led:=by
 obtain⟨h1,h2⟩:=h;refine⟨h1,fun j=>?_⟩;rw[h2 j];constructor
 .rintro(h | ⟨i',h3,h4⟩ | ⟨k',h3,h4,h5⟩)
  .exact .inl h
  .exact .inr (.inl ⟨i',by omega,h4⟩)
  .exact .inr (.inl ⟨i,by omega,_,iJ h4,h5⟩)
 .rintro(h | ⟨i',h3,e,h4,h5⟩ | ⟨k',h3,_⟩)
  .exact .inl h
  .by_cases ei:i'=i
   .subst ei;obtain⟨k',hk,rfl⟩:=List.getElem_of_mem h4;exact .inr (.inr ⟨k',hk,hk,by rw[zA,zB hk];exact h5⟩)
   .exact .inr (.inl ⟨i',by omega,e,h4,h5⟩)
  .exact absurd h3 (zS _)
theorem Nh:∀(n:Nat) {l:List Int},l.Nodup->(∀j,j∈l↔0<=j/\j<(n:Int))->l.length=n
 | 0,l,_,h=>by
   cases l with
   |nil=>rfl
   |cons a t=>have:=(h a).1 (by simp);omega
 | n+1,l,hn,h=>by
   have hm:(n:Int)∈l:=(h n).2 ⟨by omega,by push_cast;omega⟩;have:=Nh n (hn.erase (n:Int)) fun j=>by
    rw[hn.mem_erase_iff,h j];constructor
    .rintro⟨h1,h2,h3⟩;push_cast at h3;exact⟨h2,by omega⟩
    .rintro⟨h1,h2⟩;exact⟨by omega,h1,by push_cast;omega⟩
   rw[List.length_erase_of_mem hm] at this;have:0<l.length:=List.length_pos_of_mem hm;omega
theorem mW.all {W:Rst}{all:List RSt}(hS:Sts W all) (hW:∀e s,s∈all->e∈s.2.2->0<e.2/\e.2<(all.length:Int)) {led:Ld}(h:mW all all.length 0 led):led.length=all.length:=by
 have hl:(led.map (·.1)).length=led.length:=zR ..;rw[<- hl];refine Nh _ h.1 fun j=>?_
 rw[h.2 j];have hr:∀i,i<all.length->rAt all i∈all:=fun i hi=>by unfold rAt;rw[zA,zB hi];exact List.getElem_mem _
 constructor
 .rintro(rfl | ⟨i',h3,e,h4,rfl⟩ | ⟨k',h3,_⟩)
  .have:=hS.pos;omega
  .have:=hW e _ (hr i' h3) h4;omega
  .exact absurd h3 (zS _)
 .rintro⟨h1,h2⟩;by_cases h0:j=0
  .exact .inl h0
  .obtain⟨s,hs,e,he,h5⟩:=hS.led j.toNat (by omega) (by omega);obtain⟨i,hi,rfl⟩:=List.getElem_of_mem hs;refine .inr (.inl ⟨i,hi,e,?_,by omega⟩);unfold xg rAt;rw[zA,zB hi];exact he
theorem Sts.edge {W:Rst}{all:List RSt}(hS:Sts W all):∀e s,s∈all->e∈s.2.2->0<e.2/\e.2<(all.length:Int):=fun e s hs he=>by
 have g:=hS.g s hs;obtain⟨n,h1,h2,h3⟩:=g.to e he;rw[h1];refine⟨?_,by omega⟩;have hr:e.1∈az s.1:=by rw[<- g.hd];exact List.mem_map_of_mem he
 have hlt:=gX hr;have ht:=hS.tt s hs;cases n with
 |zero=>rw[hS.root] at h3;rw[<- h3] at hlt;omega
 |succ n=>omega
theorem Sts.some {W:Rst}{all:List RSt}(hS:Sts W all) {i:Nat}(hi:i<all.length) (h0:0<i):¬ ((rAt all i).2.2=[]/\(rAt all i).2.1=false):=fun⟨h1,h2⟩=>by
 have hr:rAt all i∈all:=by unfold rAt;rw[zA,zB hi];exact List.getElem_mem _
 have g:=hS.g _ hr;have e1:=g.hd;rw[h1] at e1;have e2:=g.ends;rw[h2] at e2;have hnil:(rAt all i).1=[]:=by
  refine List.eq_nil_iff_forall_not_mem.2 fun x hx=>?_
  cases x with
  | nil=>
    have:aA (rAt all i).1=true:=List.any_eq_true.2 ⟨[],hx,rfl⟩;rw[<- e2] at this;cases this
  | cons a t=>
    have:=fE hx;rw[<- e1] at this;cases this
 by_cases hw:W=[]
 .have:=hS.nd i 0 hi hS.pos (by rw[hnil,hS.root,hw]);omega
 .exact hS.ne hw _ hr hnil
theorem Sts.two {W:Rst}{all:List RSt}(hS:Sts W all) {i j:Nat}(hi:i<all.length) (hj:j<i):¬ ((rAt all j).2.1=(rAt all i).2.1/\(rAt all i).2.2=(rAt all j).2.2):=fun⟨h1,h2⟩=>by
 have hr:∀i,i<all.length->rAt all i∈all:=fun i hi=>by unfold rAt;rw[zA,zB hi];exact List.getElem_mem _
 have gi:=hS.g _ (hr i hi);have gj:=hS.g _ (hr j (by omega));have:(rAt all i).1=(rAt all j).1:=by
  refine Cs gi.srt gj.srt (by rw[<- gi.ends,<- gj.ends,h1]) (by rw[<- gi.hd,<- gj.hd,h2]) fun r hr=>?_
  rw[<- gi.hd] at hr;obtain⟨e,he,rfl⟩:=List.mem_map.1 hr;obtain⟨n,q1,_,q3⟩:=gi.to e he;obtain⟨n',p1,_,p3⟩:=gj.to e (h2 ▸ he);have:n=n':=by omega
  subst this;rw[<- q3,p3]
 have:=hS.nd i j hi (by omega) this;omega
theorem Ev (l:List Wd):bf l=[]\/bf l=aJ l:=by
 by_cases he:eO l=0
 .by_cases hb:65536<((aJ l).length:Int)
  .exact .inl (Fw he hb).1
  .exact .inr (Cv he hb).1.symm
 .exact .inl (Fj he).1
theorem Kc (l:List Wd):(bf l).length<=l.length:=by
 rcases Ev l with h | h <;> rw[h]
 .exact Nat.zero_le _
 .exact vC l
theorem Pt {l:List Wd}{n:Nat}(h:∀x∈l,x.1.length<=n):∀x∈bf l,x.1.length<=n:=by
 rcases Ev l with e | e <;> rw[e]
 .intro x hx;cases hx
 .exact SmW.norm h
end Go.EA
