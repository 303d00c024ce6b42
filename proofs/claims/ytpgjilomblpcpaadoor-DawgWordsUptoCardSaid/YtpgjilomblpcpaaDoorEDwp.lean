/- Plain: which word stands at a place. Conditions: none. -/
import Derived.Test.YtpgjilomblpcpaaDoorEDpm
set_option linter.unusedVariables false
set_option linter.unusedSimpArgs false
namespace Go.EA
def gY (S:List StD):List Ed->Int->Option (Ed×Int)
 |[],_=>none
 |e::es,a=>if a<(stA S e.2.toNat).2.2 then some (e,a) else gY S es (a-(stA S e.2.toNat).2.2)
def oD (S:List StD):Nat->Nat->Int->List Int
 |0,_,_=>[]
 | k+1,st,a=>if (stA S st).2.1&&decide (a=0) then [] else match gY    S (stA S st).1 (a - e01 (stA S st).2.1) with
   |some (e,a')=>e.1::oD S k e.2.toNat a'
   |none=>[]
def iH (l:Rst) (hs:List Int):Rst:=hs.flatMap fun r=>(aS l r).map fun z=>r::z
theorem Er {l:Rst}(h:dF l):∀{hs:List Int},hs.Pairwise (·<·)->dF (iH l hs)
 |[],_=>.nil
 | r::hs,hp=>by
   have hp':=List.pairwise_cons.1 hp;have ih:=Er h hp'.2;unfold iH at ih ⊢;rw[List.flatMap_cons];refine List.pairwise_append.2 ⟨List.pairwise_map.2 ((pz h r).imp fun hab=>.inr ⟨rfl,hab⟩),ih,fun x hx y hy=>?_⟩;obtain⟨a,_,rfl⟩:=List.mem_map.1 hx;obtain⟨q,hq,hy⟩:=List.mem_flatMap.1 hy;obtain⟨b,_,rfl⟩:=List.mem_map.1 hy;exact .inl (hp'.1 q hq)
theorem qj {l:Rst}(h:dF l):l=(if aA l then [[]] else [])++iH l (az l):=by
 have hg:=Er h (jW h);have hg0:∀x∈iH l (az l),∃r z,x=r::z/\z∈aS l r:=fun x hx=>by
  obtain⟨r,_,hx⟩:=List.mem_flatMap.1 hx;obtain⟨z,hz,rfl⟩:=List.mem_map.1 hx;exact⟨r,z,rfl,hz⟩
 refine xM h ?_ fun x=>?_
 .split
  .refine List.pairwise_cons.2 ⟨fun x hx=>?_,hg⟩;obtain⟨r,z,rfl,_⟩:=hg0 x hx
   trivial
  .exact hg
 .rw[zX];cases x with
  | nil=>
    constructor
    .intro hx;rw[if_pos (iZ.2 hx)];exact .inl (by simp)
    .rintro(hx | hx)
     .by_cases he:aA l=true
      .exact iZ.1 he
      .rw[if_neg he] at hx;cases hx
     .obtain⟨r,z,e,_⟩:=hg0 _ hx;cases e
  | cons r z=>
    constructor
    .intro hx;exact .inr (List.mem_flatMap.2 ⟨r,fE hx,List.mem_map.2 ⟨z,dQ.2 hx,rfl⟩⟩)
    .rintro(hx | hx)
     .split at hx
      .have:=List.mem_singleton.1 hx;cases this
      .cases hx
     .obtain⟨r',z',e,hz⟩:=hg0 _ hx;cases e;exact dQ.1 hz
theorem uE {α:Type}{a b:List α}{i:Nat}{d:α}(h:i<a.length):(a++b).getD i d=a.getD i d:=by
 rw[zA,zA,zV h]
theorem kE {α:Type}{a b:List α}{i:Nat}{d:α}(h:a.length<=i):(a++b).getD i d=b.getD (i-a.length) d:=by
 rw[zA,zA,List.getElem?_append_right h]
theorem EK (l:Rst):∀hs:List Int,(iH l hs).length=(hs.map fun r=>(aS l r).length).sum
 |[]=>rfl
 | r::hs=>by
   have:=EK l hs;unfold iH at this ⊢;rw[List.flatMap_cons,zL,zR,this];simp
theorem yQ {all:List RSt}{s:RSt}(g:Gs all s):∀{es:List Ed}{a:Int},(∀e∈es,e∈s.2.2)->0<=a->a<(iH s.1 (es.map (·.1))).length->
 ∃e a',gY (all.map stD) es a=some (e,a')/\e∈es/\0<=a'/\a'<(aS s.1 e.1).length/\(iH s.1 (es.map (·.1))).getD a.toNat []=e.1::(aS s.1 e.1).getD a'.toNat []
 |[],a,_,h0,h1=>by simp[iH] at h1;omega
 | e::es,a,he,h0,h1=>by
   obtain⟨n,q1,q2,q3⟩:=g.to e (he e (by simp));have hc:(stA (all.map stD) e.2.toNat).2.2=((aS s.1 e.1).length:Int):=by
    rw[q1,Int.toNat_natCast,dh q2];show ((rAt all n).1.length:Int)=_;rw[q3]
   have hsp:iH s.1 ((e::es).map (·.1))=(aS s.1 e.1).map (fun z=>e.1::z)++iH s.1 (es.map (·.1)):=by unfold iH;rw[zK,List.flatMap_cons]
   rw[hsp] at h1 ⊢;rw[zL,zR] at h1;unfold gY;rw[hc];by_cases h:a<((aS s.1 e.1).length:Int)
   .rw[if_pos h];refine⟨e,a,rfl,by simp,h0,h,?_⟩;rw[uE (by rw[zR];omega),zA,List.getElem?_map,zB (by omega),zA,zB (by omega)];rfl
   .rw[if_neg h];obtain⟨e',a',p1,p2,p3,p4,p5⟩:=yQ g (es:=es) (a:=a-((aS s.1 e.1).length:Int)) (fun x hx=>he x (by simp[hx])) (by omega) (by push_cast at h1;omega);refine⟨e',a',p1,by simp[p2],p3,p4,?_⟩;rw[kE (by rw[zR];omega),zR,<- p5]
    congr 1;omega
theorem LK {W:Rst}{all:List RSt}(hS:Sts W all):∀(k st:Nat) (a:Int),st<all.length->tot (rAt all st).1<k->0<=a->a<(rAt all st).1.length->oD (all.map stD) k st a=(rAt all st).1.getD a.toNat []
 |0,_,_,_,h,_,_=>by omega
 | k+1,st,a,hi,ht,h0,h1=>by
   have g:=hS.g _ (hS.mem hi);have hsp:=qj g.srt;have hl:=congrArg List.length hsp;rw[zL] at hl;unfold oD;rw[dh hi];show (if ((rAt all st).2.1&&decide (a=0))=true then [] else match gY (all.map stD) (rAt all st).2.2 (a-e01 (rAt all st).2.1) with
    |some (e,a')=>e.1::oD (all.map stD) k e.2.toNat a'
    |none=>[])=_
   rw[g.ends];have key:∀b:Int,0<=b->b<(iH (rAt all st).1 (az (rAt all st).1)).length->(match gY (all.map stD) (rAt all st).2.2 b with
    |some (e,a')=>e.1::oD (all.map stD) k e.2.toNat a'
    |none=>[])=(iH (rAt all st).1 (az (rAt all st).1)).getD b.toNat []:=fun b hb0 hb1=>by
    rw[<- g.hd] at hb1 ⊢;obtain⟨e,a',p1,p2,p3,p4,p5⟩:=yQ g (fun e he=>he) hb0 hb1;rw[p1,p5];obtain⟨n,q1,q2,q3⟩:=g.to e p2;have hlt:=gX (show e.1∈az (rAt all st).1 by rw[<- g.hd];exact List.mem_map_of_mem p2);show e.1::oD (all.map stD) k e.2.toNat a'=_;rw[q1,Int.toNat_natCast,LK hS k n a' q2 (by rw[q3];omega) p3 (by rw[q3];exact p4),q3]
   by_cases he:aA (rAt all st).1=true
   .rw[if_pos he] at hsp hl;have h01:([[]]:Rst).length=1:=rfl;rw[h01] at hl;rw[he];by_cases ha:a=0
    .subst ha;rw[if_pos (by simp)];rw[hsp];rfl
    .rw[if_neg (by simp[ha])];have e1:e01 true=1:=rfl;rw[e1,key (a-1) (by omega) (by omega)]
     conv=>rhs;rw[hsp]
     rw[kE (by rw[h01];omega),h01]
     congr 1;omega
   .rw[if_neg he] at hsp hl;have h01:([]:Rst).length=0:=rfl;rw[h01] at hl;have he':aA (rAt all st).1=false:=by simpa using he
    rw[he'];rw[if_neg (by simp)];have e1:e01 false=0:=rfl;rw[e1,Int.sub_zero,key a h0 (by omega)]
    conv=>rhs;rw[hsp]
    rfl
end Go.EA
