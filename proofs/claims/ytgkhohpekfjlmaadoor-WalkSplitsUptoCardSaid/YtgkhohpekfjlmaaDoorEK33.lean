/- Texts. Conditions: none. -/
import Derived.Test.YtgkhohpekfjlmaaDoorEK32
import Derived.Test.YtgkhohpekfjlmaaDoorEDf
import Derived.Test.YtgkhohpekfjlmaaDoorEK25
import Derived.KernelRfl
import Derived.Test.YtgkhohpekfjlmaaDoorEK12
set_option linter.unusedVariables false
set_option linter.unusedSimpArgs false
section
namespace Go.EA
def wC (S:List StD):List Ed->Int->Option (Ed×Int)
 |[],_=>none
 |e::es,a=>if a<(stA S e.2.toNat).2.2 then some (e,a) else wC S es (a-(stA S e.2.toNat).2.2)
def DJ (S:List StD):Nat->Nat->Int->List Int
 |0,_,_=>[]
 |k+1,st,a=>if (stA S st).2.1&&decide (a=0) then [] else match wC S (stA S st).1 (a-e01 (stA S st).2.1) with
  |some (e,a')=>e.1::DJ S k e.2.toNat a'
  |none=>[]
def rz (l:Rst) (hs:List Int):Rst:=hs.flatMap fun r=>(aZ l r).map fun z=>r::z
theorem Hf {l:Rst}(h:dL l):∀{hs:List Int},hs.Pairwise (·<·)->dL (rz l hs)
 |[],_=>.nil
 | r::hs,hp=>by
   have hp':=List.pairwise_cons.1 hp;have ih:=Hf h hp'.2;unfold rz at ih ⊢;rw[List.flatMap_cons];refine List.pairwise_append.2 ⟨List.pairwise_map.2 ((pJ h r).imp fun hab=>.inr ⟨rfl,hab⟩),ih,fun x hx y hy=>?_⟩;obtain⟨a,_,rfl⟩:=List.mem_map.1 hx;obtain⟨q,hq,hy⟩:=List.mem_flatMap.1 hy;obtain⟨b,_,rfl⟩:=List.mem_map.1 hy;exact .inl (hp'.1 q hq)
theorem Hy {l:Rst}(h:dL l):l=(if aH l then [[]] else [])++rz l (aD l):=by
 have hg:=Hf h (jC h);have hg0:∀x∈rz l (aD l),∃r z,x=r::z/\z∈aZ l r:=fun x hx=>by
  obtain⟨r,_,hx⟩:=List.mem_flatMap.1 hx;obtain⟨z,hz,rfl⟩:=List.mem_map.1 hx;exact⟨r,z,rfl,hz⟩
 refine xC h ?_ fun x=>?_
 .split
  .refine List.pairwise_cons.2 ⟨fun x hx=>?_,hg⟩;obtain⟨r,z,rfl,_⟩:=hg0 x hx
   trivial
  .exact hg
 .rw[zX];cases x with
  | nil=>
    constructor
    .intro hx;rw[if_pos (eH.2 hx)];exact .inl (by simp)
    .rintro(hx | hx)
     .by_cases he:aH l=true
      .exact eH.1 he
      .rw[if_neg he] at hx;cases hx
     .obtain⟨r,z,e,_⟩:=hg0 _ hx;cases e
  | cons r z=>
    constructor
    .intro hx;exact .inr (List.mem_flatMap.2 ⟨r,fD hx,List.mem_map.2 ⟨z,dK.2 hx,rfl⟩⟩)
    .rintro(hx | hx)
     .split at hx
      .have:=List.mem_singleton.1 hx;cases this
      .cases hx
     .obtain⟨r',z',e,hz⟩:=hg0 _ hx;cases e;exact dK.1 hz
theorem Ez {α:Type}{a b:List α}{i:Nat}{d:α}(h:i<a.length):(a++b).getD i d=a.getD i d:=by
 rw[zA,zA,zV h]
theorem sV {α:Type}{a b:List α}{i:Nat}{d:α}(h:a.length<=i):(a++b).getD i d=b.getD (i-a.length) d:=by
 rw[zA,zA,List.getElem?_append_right h]
theorem Ce {all:List RSt}{s:RSt}(g:Gs all s):∀{es:List Ed}{a:Int},(∀e∈es,e∈s.2.2)->0<=a->a<(rz s.1 (es.map (·.1))).length->
 ∃e a',wC (all.map stD) es a=some (e,a')/\e∈es/\0<=a'/\a'<(aZ s.1 e.1).length/\(rz s.1 (es.map (·.1))).getD a.toNat []=e.1::(aZ s.1 e.1).getD a'.toNat []
 |[],a,_,h0,h1=>by simp[rz] at h1;omega
 | e::es,a,he,h0,h1=>by
   obtain⟨n,q1,q2,q3⟩:=g.to e (he e (by simp));have hc:(stA (all.map stD) e.2.toNat).2.2=((aZ s.1 e.1).length:Int):=by
    rw[q1,Int.toNat_natCast,eP q2];show ((rAt all n).1.length:Int)=_;rw[q3]
   have hsp:rz s.1 ((e::es).map (·.1))=(aZ s.1 e.1).map (fun z=>e.1::z)++rz s.1 (es.map (·.1)):=by unfold rz;rw[zK,List.flatMap_cons]
   rw[hsp] at h1 ⊢;rw[zL,zR] at h1;unfold wC;rw[hc];by_cases h:a<((aZ s.1 e.1).length:Int)
   .rw[if_pos h];refine⟨e,a,rfl,by simp,h0,h,?_⟩;rw[Ez (by rw[zR];omega),zA,List.getElem?_map,zB (by omega),zA,zB (by omega)];rfl
   .rw[if_neg h];obtain⟨e',a',p1,p2,p3,p4,p5⟩:=Ce g (es:=es) (a:=a-((aZ s.1 e.1).length:Int)) (fun x hx=>he x (by simp[hx])) (by omega) (by push_cast at h1;omega);refine⟨e',a',p1,by simp[p2],p3,p4,?_⟩;rw[sV (by rw[zR];omega),zR,<- p5]
    congr 1;omega
theorem JG {W:Rst}{all:List RSt}(hS:Sts W all):∀(k st:Nat) (a:Int),st<all.length->tot (rAt all st).1<k->0<=a->a<(rAt all st).1.length->DJ (all.map stD) k st a=(rAt all st).1.getD a.toNat []
 |0,_,_,_,h,_,_=>by omega
 | k+1,st,a,hi,ht,h0,h1=>by
   have g:=hS.g _ (hS.mem hi);have hsp:=Hy g.srt;have hl:=congrArg List.length hsp;rw[zL] at hl;unfold DJ;rw[eP hi];show (if ((rAt all st).2.1&&decide (a=0))=true then [] else match wC (all.map stD) (rAt all st).2.2 (a-e01 (rAt all st).2.1) with
    |some (e,a')=>e.1::DJ (all.map stD) k e.2.toNat a'
    |none=>[])=_
   rw[g.ends];have key:∀b:Int,0<=b->b<(rz (rAt all st).1 (aD (rAt all st).1)).length->(match wC (all.map stD) (rAt all st).2.2 b with
    |some (e,a')=>e.1::DJ (all.map stD) k e.2.toNat a'
    |none=>[])=(rz (rAt all st).1 (aD (rAt all st).1)).getD b.toNat []:=fun b hb0 hb1=>by
    rw[<- g.hd] at hb1 ⊢;obtain⟨e,a',p1,p2,p3,p4,p5⟩:=Ce g (fun e he=>he) hb0 hb1;rw[p1,p5];obtain⟨n,q1,q2,q3⟩:=g.to e p2;have hlt:=iA (show e.1∈aD (rAt all st).1 by rw[<- g.hd];exact List.mem_map_of_mem p2);show e.1::DJ (all.map stD) k e.2.toNat a'=_;rw[q1,Int.toNat_natCast,JG hS k n a' q2 (by rw[q3];omega) p3 (by rw[q3];exact p4),q3]
   by_cases he:aH (rAt all st).1=true
   .rw[if_pos he] at hsp hl;have h01:([[]]:Rst).length=1:=rfl;rw[h01] at hl;rw[he];by_cases ha:a=0
    .subst ha;rw[if_pos (by simp)];rw[hsp];rfl
    .rw[if_neg (by simp[ha])];have e1:e01 true=1:=rfl;rw[e1,key (a-1) (by omega) (by omega)]
     conv=>rhs;rw[hsp]
     rw[sV (by rw[h01];omega),h01]
     congr 1;omega
   .rw[if_neg he] at hsp hl;have h01:([]:Rst).length=0:=rfl;rw[h01] at hl;have he':aH (rAt all st).1=false:=by simpa using he
    rw[he'];rw[if_neg (by simp)];have e1:e01 false=0:=rfl;rw[e1,Int.sub_zero,key a h0 (by omega)]
    conv=>rhs;rw[hsp]
    rfl
end Go.EA
end
section
set_option maxRecDepth 100000
set_option maxHeartbeats 0
namespace Go.EA
open F
def DwS (d:List StD):Prop:=∃W all,Sts W all/\tot W<=4194304/\d=all.map stD
def WE (d:List StD) (i:Int):List UInt8:=(fV (DJ d 4194306 0 i)).map fun z=>UInt8.ofNat (Int.toNat z)
end Go.EA
end
section
namespace Go.EA
def frq (l:List Wd) (f:Int) (i:Nat):List Wd:=(l.take i).map (fun w=>(w.1,f+1))++l.drop i
theorem Jj (l:List Int):(fV l).map (fun z=>UInt8.ofNat (Int.toNat z))=bv l:=by
 unfold fV bv;rw[List.map_flatten,List.map_map]
 congr 1
 exact List.map_congr_left fun r _=>unB r
theorem ku {s:List UInt8}(h:bH s=0):bv (aK s)=s:=by
 have h1:dD s=true:=(Dj s).symm.trans (decide_eq_true h);unfold aK;rw[if_pos h1];exact(qy _ s (zJ _) h1).1
theorem TW {l:List Wd}(h:isE l=0) {i:Nat}(hi:i<l.length):WE (List.map stD (aM l)) (i:Int)=(l.getD i ([],0)).1:=by
 have hS:=sts h;have hT:=(nml h).tot;have hm:l.getD i ([],0)∈l:=by rw[zA,zB hi];exact List.getElem_mem _
 unfold WE;rw[JG hS 4194306 0 i hS.pos (by rw[hS.root];omega) (by omega) (by rw[hS.root,yV];omega),hS.root,Int.toNat_natCast,Jj];have:(wdR l).getD i []=aK (l.getD i ([],0)).1:=by
  unfold wdR;rw[zA,List.getElem?_map,zB hi,zA,zB hi];rfl
 rw[this];exact ku ((nml h).dec _ hm)
end Go.EA
end
section
namespace Go.EA
theorem mem_nil_iff {α:Type}{l:List α}:l≠[]↔∃x,x∈l:=by
 cases l with
 |nil=>exact⟨fun h=>absurd rfl h,fun⟨x,h⟩=>by cases h⟩
 |cons a l=>exact⟨fun _=>⟨a,by simp⟩,fun _=>by simp⟩
theorem Gs.nxt {all:List RSt}{s:RSt}(g:Gs all s) {r:Int}:dz s.2.2 r=true↔aZ s.1 r≠[]:=by
 rw[Bh,g.hd];constructor
 .exact Oe
 .intro h;obtain⟨z,hz⟩:=mem_nil_iff.1 h;exact fD (dK.1 hz)
theorem qM (a b:List Int):bv (a++b)=bv a++bv b:=by unfold bv;simp
theorem yI {w s:List UInt8}(hw:bH w=0) (hs:bH s=0):preB w s=true↔∃z,aK w=aK s++z:=by
 constructor
 .intro h;have h:=of_decide_eq_true h;have e:w=s++w.drop s.length:=by conv=>lhs;rw[<- List.take_append_drop s.length w,h.2]
  have h2:bH (s++w.drop s.length)=0:=e ▸ hw;have h3:=(IV _ _ h2).1 hs;exact⟨aK (w.drop s.length),by rw[<- (BQ _ _ hs h3).2,<- e]⟩
 .rintro⟨z,hz⟩;have e:w=s++bv z:=by rw[<- ku hw,hz,qM,ku hs]
  refine decide_eq_true ?_;rw[e];simp
theorem Nu {l:List Wd}(h:isE l=0) {s:List UInt8}:mf l s=0↔∃w∈l,w.1=s:=by
 unfold mf;rw[if_pos h];constructor
 .intro h0;split at h0
  .rename_i hf;rw[List.find?_isSome] at hf;obtain⟨w,hw,e⟩:=hf;exact⟨w,hw,of_decide_eq_true e⟩
  .cases h0
 .rintro⟨w,hw,e⟩;rw[if_pos (List.find?_isSome.2 ⟨w,hw,decide_eq_true e⟩)]
end Go.EA
end
