/- Texts. Conditions: none. -/
import Derived.Test.YtgkhohpekfjlmaaDoorEK32
import Derived.Test.YtgkhohpekfjlmaaDoorEDf
import Derived.Test.YtgkhohpekfjlmaaDoorEK25
import Derived.KernelRfl
import Derived.Test.YtgkhohpekfjlmaaDoorEK12
set_option linter.unusedVariables false
set_option linter.unusedSimpArgs false
section
namespace Go.EA
def wS (S:List StD):List Ed->Int->Option (Ed×Int)
 |[],_=>none
 |e::es,a=>if a<(stA S e.2.toNat).2.2 then some (e,a) else wS S es (a-(stA S e.2.toNat).2.2)
def EB (S:List StD):Nat->Nat->Int->List Int
 |0,_,_=>[]
 |k+1,st,a=>if (stA S st).2.1&&decide (a=0) then [] else match wS S (stA S st).1 (a-e01 (stA S st).2.1) with
  |some (e,a')=>e.1::EB S k e.2.toNat a'
  |none=>[]
def qZ (l:Rst) (hs:List Int):Rst:=hs.flatMap fun r=>(aZ l r).map fun z=>r::z
theorem Gj {l:Rst}(h:dK l):∀{hs:List Int},hs.Pairwise (·<·)->dK (qZ l hs)
 |[],_=>.nil
 | r::hs,hp=>by
   have hp':=List.pairwise_cons.1 hp;have ih:=Gj h hp'.2;unfold qZ at ih ⊢;rw[List.flatMap_cons];refine List.pairwise_append.2 ⟨List.pairwise_map.2 ((nY h r).imp fun hab=>.inr ⟨rfl,hab⟩),ih,fun x hx y hy=>?_⟩;obtain⟨a,_,rfl⟩:=List.mem_map.1 hx;obtain⟨q,hq,hy⟩:=List.mem_flatMap.1 hy;obtain⟨b,_,rfl⟩:=List.mem_map.1 hy;exact .inl (hp'.1 q hq)
theorem HZ {l:Rst}(h:dK l):l=(if aH l then [[]] else [])++qZ l (aD l):=by
 have hg:=Gj h (jM h);have hg0:∀x∈qZ l (aD l),∃r z,x=r::z/\z∈aZ l r:=fun x hx=>by
  obtain⟨r,_,hx⟩:=List.mem_flatMap.1 hx;obtain⟨z,hz,rfl⟩:=List.mem_map.1 hx;exact⟨r,z,rfl,hz⟩
 refine xP h ?_ fun x=>?_
 .split
  .refine List.pairwise_cons.2 ⟨fun x hx=>?_,hg⟩;obtain⟨r,z,rfl,_⟩:=hg0 x hx
   trivial
  .exact hg
 .rw[zX];cases x with
  | nil=>
    constructor
    .intro hx;rw[if_pos (eO.2 hx)];exact .inl (by simp)
    .rintro(hx | hx)
     .by_cases he:aH l=true
      .exact eO.1 he
      .rw[if_neg he] at hx;cases hx
     .obtain⟨r,z,e,_⟩:=hg0 _ hx;cases e
  | cons r z=>
    constructor
    .intro hx;exact .inr (List.mem_flatMap.2 ⟨r,fB hx,List.mem_map.2 ⟨z,dJ.2 hx,rfl⟩⟩)
    .rintro(hx | hx)
     .split at hx
      .have:=List.mem_singleton.1 hx;cases this
      .cases hx
     .obtain⟨r',z',e,hz⟩:=hg0 _ hx;cases e;exact dJ.1 hz
theorem DL {α:Type}{a b:List α}{i:Nat}{d:α}(h:i<a.length):(a++b).getD i d=a.getD i d:=by
 rw[zA,zA,zV h]
theorem sW {α:Type}{a b:List α}{i:Nat}{d:α}(h:a.length<=i):(a++b).getD i d=b.getD (i-a.length) d:=by
 rw[zA,zA,List.getElem?_append_right h]
theorem Ay {all:List RSt}{s:RSt}(g:Gs all s):∀{es:List Ed}{a:Int},(∀e∈es,e∈s.2.2)->0<=a->a<(qZ s.1 (es.map (·.1))).length->
 ∃e a',wS (all.map stD) es a=some (e,a')/\e∈es/\0<=a'/\a'<(aZ s.1 e.1).length/\(qZ s.1 (es.map (·.1))).getD a.toNat []=e.1::(aZ s.1 e.1).getD a'.toNat []
 |[],a,_,h0,h1=>by simp[qZ] at h1;omega
 | e::es,a,he,h0,h1=>by
   obtain⟨n,q1,q2,q3⟩:=g.to e (he e (by simp));have hc:(stA (all.map stD) e.2.toNat).2.2=((aZ s.1 e.1).length:Int):=by
    rw[q1,Int.toNat_natCast,eP q2];show ((rAt all n).1.length:Int)=_;rw[q3]
   have hsp:qZ s.1 ((e::es).map (·.1))=(aZ s.1 e.1).map (fun z=>e.1::z)++qZ s.1 (es.map (·.1)):=by unfold qZ;rw[zK,List.flatMap_cons]
   rw[hsp] at h1 ⊢;rw[zL,zR] at h1;unfold wS;rw[hc];by_cases h:a<((aZ s.1 e.1).length:Int)
   .rw[if_pos h];refine⟨e,a,rfl,by simp,h0,h,?_⟩;rw[DL (by rw[zR];omega),zA,List.getElem?_map,zB (by omega),zA,zB (by omega)];rfl
   .rw[if_neg h];obtain⟨e',a',p1,p2,p3,p4,p5⟩:=Ay g (es:=es) (a:=a-((aZ s.1 e.1).length:Int)) (fun x hx=>he x (by simp[hx])) (by omega) (by push_cast at h1;omega);refine⟨e',a',p1,by simp[p2],p3,p4,?_⟩;rw[sW (by rw[zR];omega),zR,<- p5]
    congr 1;omega
theorem KM {W:Rst}{all:List RSt}(hS:Sts W all):∀(k st:Nat) (a:Int),st<all.length->tot (rAt all st).1<k->0<=a->a<(rAt all st).1.length->EB (all.map stD) k st a=(rAt all st).1.getD a.toNat []
 |0,_,_,_,h,_,_=>by omega
 | k+1,st,a,hi,ht,h0,h1=>by
   have g:=hS.g _ (hS.mem hi);have hsp:=HZ g.srt;have hl:=congrArg List.length hsp;rw[zL] at hl;unfold EB;rw[eP hi];show (if ((rAt all st).2.1&&decide (a=0))=true then [] else match wS (all.map stD) (rAt all st).2.2 (a-e01 (rAt all st).2.1) with
    |some (e,a')=>e.1::EB (all.map stD) k e.2.toNat a'
    |none=>[])=_
   rw[g.ends];have key:∀b:Int,0<=b->b<(qZ (rAt all st).1 (aD (rAt all st).1)).length->(match wS (all.map stD) (rAt all st).2.2 b with
    |some (e,a')=>e.1::EB (all.map stD) k e.2.toNat a'
    |none=>[])=(qZ (rAt all st).1 (aD (rAt all st).1)).getD b.toNat []:=fun b hb0 hb1=>by
    rw[<- g.hd] at hb1 ⊢;obtain⟨e,a',p1,p2,p3,p4,p5⟩:=Ay g (fun e he=>he) hb0 hb1;rw[p1,p5];obtain⟨n,q1,q2,q3⟩:=g.to e p2;have hlt:=iA (show e.1∈aD (rAt all st).1 by rw[<- g.hd];exact List.mem_map_of_mem p2);show e.1::EB (all.map stD) k e.2.toNat a'=_;rw[q1,Int.toNat_natCast,KM hS k n a' q2 (by rw[q3];omega) p3 (by rw[q3];exact p4),q3]
   by_cases he:aH (rAt all st).1=true
   .rw[if_pos he] at hsp hl;have h01:([[]]:Rst).length=1:=rfl;rw[h01] at hl;rw[he];by_cases ha:a=0
    .subst ha;rw[if_pos (by simp)];rw[hsp];rfl
    .rw[if_neg (by simp[ha])];have e1:e01 true=1:=rfl;rw[e1,key (a-1) (by omega) (by omega)]
     conv=>rhs;rw[hsp]
     rw[sW (by rw[h01];omega),h01]
     congr 1;omega
   .rw[if_neg he] at hsp hl;have h01:([]:Rst).length=0:=rfl;rw[h01] at hl;have he':aH (rAt all st).1=false:=by simpa using he
    rw[he'];rw[if_neg (by simp)];have e1:e01 false=0:=rfl;rw[e1,Int.sub_zero,key a h0 (by omega)]
    conv=>rhs;rw[hsp]
    rfl
end Go.EA
end
section
set_option maxRecDepth 100000
set_option maxHeartbeats 0
namespace Go.EA
open F
def DwS (d:List StD):Prop:=∃W all,Sts W all/\tot W<=4194304/\d=all.map stD
def VS (d:List StD) (i:Int):List UInt8:=(fQ (EB d 4194306 0 i)).map fun z=>UInt8.ofNat (Int.toNat z)
end Go.EA
end
section
namespace Go.EA
def frq (l:List Wd) (f:Int) (i:Nat):List Wd:=(l.take i).map (fun w=>(w.1,f+1))++l.drop i
theorem Ja (l:List Int):(fQ l).map (fun z=>UInt8.ofNat (Int.toNat z))=iD l:=by
 unfold fQ iD;rw[List.map_flatten,List.map_map]
 congr 1
 exact List.map_congr_left fun r _=>unB r
theorem iV {s:List UInt8}(h:bG s=0):iD (aJ s)=s:=by
 have h1:dL s=true:=(Ab s).symm.trans (decide_eq_true h);unfold aJ;rw[if_pos h1];exact(qh _ s (zJ _) h1).1
theorem SA {l:List Wd}(h:isE l=0) {i:Nat}(hi:i<l.length):VS (List.map stD (aY l)) (i:Int)=(l.getD i ([],0)).1:=by
 have hS:=sts h;have hT:=(nml h).tot;have hm:l.getD i ([],0)∈l:=by rw[zA,zB hi];exact List.getElem_mem _
 unfold VS;rw[KM hS 4194306 0 i hS.pos (by rw[hS.root];omega) (by omega) (by rw[hS.root,wY];omega),hS.root,Int.toNat_natCast,Ja];have:(wdR l).getD i []=aJ (l.getD i ([],0)).1:=by
  unfold wdR;rw[zA,List.getElem?_map,zB hi,zA,zB hi];rfl
 rw[this];exact iV ((nml h).dec _ hm)
end Go.EA
end
section
namespace Go.EA
theorem mem_nil_iff {α:Type}{l:List α}:l≠[]↔∃x,x∈l:=by
 cases l with
 |nil=>exact⟨fun h=>absurd rfl h,fun⟨x,h⟩=>by cases h⟩
 |cons a l=>exact⟨fun _=>⟨a,by simp⟩,fun _=>by simp⟩
theorem Gs.nxt {all:List RSt}{s:RSt}(g:Gs all s) {r:Int}:dz s.2.2 r=true↔aZ s.1 r≠[]:=by
 rw[yJ,g.hd];constructor
 .exact Mi
 .intro h;obtain⟨z,hz⟩:=mem_nil_iff.1 h;exact fB (dJ.1 hz)
theorem qV (a b:List Int):iD (a++b)=iD a++iD b:=by unfold iD;simp
theorem rE {w s:List UInt8}(hw:bG w=0) (hs:bG s=0):preB w s=true↔∃z,aJ w=aJ s++z:=by
 constructor
 .intro h;have h:=of_decide_eq_true h;have e:w=s++w.drop s.length:=by conv=>lhs;rw[<- List.take_append_drop s.length w,h.2]
  have h2:bG (s++w.drop s.length)=0:=e ▸ hw;have h3:=(Jh _ _ h2).1 hs;exact⟨aJ (w.drop s.length),by rw[<- (Mo _ _ hs h3).2,<- e]⟩
 .rintro⟨z,hz⟩;have e:w=s++iD z:=by rw[<- iV hw,hz,qV,iV hs]
  refine decide_eq_true ?_;rw[e];simp
theorem Ni {l:List Wd}(h:isE l=0) {s:List UInt8}:nO l s=0↔∃w∈l,w.1=s:=by
 unfold nO;rw[if_pos h];constructor
 .intro h0;split at h0
  .rename_i hf;rw[List.find?_isSome] at hf;obtain⟨w,hw,e⟩:=hf;exact⟨w,hw,of_decide_eq_true e⟩
  .cases h0
 .rintro⟨w,hw,e⟩;rw[if_pos (List.find?_isSome.2 ⟨w,hw,decide_eq_true e⟩)]
end Go.EA
end
