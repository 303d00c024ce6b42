/- Plain: which word stands at a place. Conditions: none. -/
import Derived.Test.YtpgjilomblpcpaaDoorEDpm
set_option linter.unusedVariables false
set_option linter.unusedSimpArgs false
namespace Go.EA
def pickE (S:List StD):List Ed->Int->Option (Ed×Int)
 | [],_=>none
 | e::es,a=>if a<(stA S e.2.toNat).2.2 then some (e,a) else pickE S es (a-(stA S e.2.toNat).2.2)
def wrdN (S:List StD):Nat->Nat->Int->List Int
 | 0,_,_=>[]
 | k+1,st,a=>if (stA S st).2.1&&decide (a=0) then [] else match pickE S (stA S st).1 (a - e01 (stA S st).2.1) with
   | some (e,a')=>e.1::wrdN S k e.2.toNat a'
   | none=>[]
def grpL (l:Rst) (hs:List Int):Rst:=hs.flatMap fun r=>(behL l r).map fun z=>r::z
theorem grp_srt {l:Rst} (h:SrtQ l):∀ {hs:List Int},hs.Pairwise (·<·)->SrtQ (grpL l hs)
 | [],_=>.nil
 | r::hs,hp=>by
   have hp':=List.pairwise_cons.1 hp
   have ih:=grp_srt h hp'.2
   unfold grpL at ih ⊢
   rw [List.flatMap_cons]
   refine List.pairwise_append.2 ⟨List.pairwise_map.2 ((beh_srt h r).imp fun hab=>.inr ⟨rfl,hab⟩),ih,fun x hx y hy=>?_⟩
   obtain ⟨a,_,rfl⟩:=List.mem_map.1 hx
   obtain ⟨q,hq,hy⟩:=List.mem_flatMap.1 hy
   obtain ⟨b,_,rfl⟩:=List.mem_map.1 hy
   exact .inl (hp'.1 q hq)
theorem lab_split {l:Rst} (h:SrtQ l):l=(if emptyIn l then [[]] else [])++grpL l (headsL l):=by
 have hg:=grp_srt h (heads_srt h)
 have hg0:∀ x∈grpL l (headsL l),∃ r z,x=r::z/\z∈behL l r:=fun x hx=>by
  obtain ⟨r,_,hx⟩:=List.mem_flatMap.1 hx
  obtain ⟨z,hz,rfl⟩:=List.mem_map.1 hx
  exact ⟨r,z,rfl,hz⟩
 refine srt_ext h ?_ fun x=>?_
 ·split
  ·refine List.pairwise_cons.2 ⟨fun x hx=>?_,hg⟩
   obtain ⟨r,z,rfl,_⟩:=hg0 x hx
   trivial
  ·exact hg
 ·rw [zX]
  cases x with
  | nil=>
    constructor
    ·intro hx
     rw [if_pos (emptyIn_mem.2 hx)];exact .inl (by simp)
    ·rintro (hx | hx)
     ·by_cases he:emptyIn l=true
      ·exact emptyIn_mem.1 he
      ·rw [if_neg he] at hx;cases hx
     ·obtain ⟨r,z,e,_⟩:=hg0 _ hx;cases e
  | cons r z=>
    constructor
    ·intro hx
     exact .inr (List.mem_flatMap.2 ⟨r,mem_heads hx,List.mem_map.2 ⟨z,mem_behL.2 hx,rfl⟩⟩)
    ·rintro (hx | hx)
     ·split at hx
      ·have:=List.mem_singleton.1 hx;cases this
      ·cases hx
     ·obtain ⟨r',z',e,hz⟩:=hg0 _ hx
      cases e
      exact mem_behL.1 hz
theorem getD_app_l {α:Type} {a b:List α} {i:Nat} {d:α} (h:i<a.length):(a++b).getD i d=a.getD i d:=by
 rw [zA,zA,zV h]
theorem getD_app_r {α:Type} {a b:List α} {i:Nat} {d:α} (h:a.length<=i):(a++b).getD i d=b.getD (i-a.length) d:=by
 rw [zA,zA,List.getElem?_append_right h]
theorem pickE_ok {all:List RSt} {s:RSt} (g:Gs all s):∀ {es:List Ed} {a:Int},(∀ e∈es,e∈s.2.2)->0<=a->a<(grpL s.1 (es.map (·.1))).length->
 ∃ e a',pickE (all.map stD) es a=some (e,a')/\e∈es/\0<=a'/\a'<(behL s.1 e.1).length/\(grpL s.1 (es.map (·.1))).getD a.toNat []=e.1::(behL s.1 e.1).getD a'.toNat []
 | [],a,_,h0,h1=>by simp [grpL] at h1;omega
 | e::es,a,he,h0,h1=>by
   obtain ⟨n,q1,q2,q3⟩:=g.to e (he e (by simp))
   have hc:(stA (all.map stD) e.2.toNat).2.2=((behL s.1 e.1).length:Int):=by
    rw [q1,Int.toNat_natCast,sAt_map q2]
    show ((rAt all n).1.length:Int)=_
    rw [q3]
   have hsp:grpL s.1 ((e::es).map (·.1))=(behL s.1 e.1).map (fun z=>e.1::z)++grpL s.1 (es.map (·.1)):=by unfold grpL;rw [zK,List.flatMap_cons]
   rw [hsp] at h1 ⊢
   rw [zL,zR] at h1
   unfold pickE
   rw [hc]
   by_cases h:a<((behL s.1 e.1).length:Int)
   ·rw [if_pos h]
    refine ⟨e,a,rfl,by simp,h0,h,?_⟩
    rw [getD_app_l (by rw [zR];omega),zA,List.getElem?_map,zB (by omega),zA,zB (by omega)];rfl
   ·rw [if_neg h]
    obtain ⟨e',a',p1,p2,p3,p4,p5⟩:=pickE_ok g (es:=es) (a:=a-((behL s.1 e.1).length:Int)) (fun x hx=>he x (by simp [hx])) (by omega) (by push_cast at h1;omega)
    refine ⟨e',a',p1,by simp [p2],p3,p4,?_⟩
    rw [getD_app_r (by rw [zR];omega),zR,<- p5]
    congr 1;omega
theorem wrd_ok {W:Rst} {all:List RSt} (hS:Sts W all):∀ (k st:Nat) (a:Int),st<all.length->tot (rAt all st).1<k->0<=a->a<(rAt all st).1.length->wrdN (all.map stD) k st a=(rAt all st).1.getD a.toNat []
 | 0,_,_,_,h,_,_=>by omega
 | k+1,st,a,hi,ht,h0,h1=>by
   have g:=hS.g _ (hS.mem hi)
   have hsp:=lab_split g.srt
   have hl:=congrArg List.length hsp
   rw [zL] at hl
   unfold wrdN
   rw [sAt_map hi]
   show (if ((rAt all st).2.1&&decide (a=0))=true then [] else match pickE (all.map stD) (rAt all st).2.2 (a-e01 (rAt all st).2.1) with
    | some (e,a')=>e.1::wrdN (all.map stD) k e.2.toNat a'
    | none=>[])=_
   rw [g.ends]
   have key:∀ b:Int,0<=b->b<(grpL (rAt all st).1 (headsL (rAt all st).1)).length->(match pickE (all.map stD) (rAt all st).2.2 b with
    | some (e,a')=>e.1::wrdN (all.map stD) k e.2.toNat a'
    | none=>[])=(grpL (rAt all st).1 (headsL (rAt all st).1)).getD b.toNat []:=fun b hb0 hb1=>by
    rw [<- g.hd] at hb1 ⊢
    obtain ⟨e,a',p1,p2,p3,p4,p5⟩:=pickE_ok g (fun e he=>he) hb0 hb1
    rw [p1,p5]
    obtain ⟨n,q1,q2,q3⟩:=g.to e p2
    have hlt:=beh_lt (show e.1∈headsL (rAt all st).1 by rw [<- g.hd];exact List.mem_map_of_mem p2)
    show e.1::wrdN (all.map stD) k e.2.toNat a'=_
    rw [q1,Int.toNat_natCast,wrd_ok hS k n a' q2 (by rw [q3];omega) p3 (by rw [q3];exact p4),q3]
   by_cases he:emptyIn (rAt all st).1=true
   ·rw [if_pos he] at hsp hl
    have h01:([[]]:Rst).length=1:=rfl
    rw [h01] at hl
    rw [he]
    by_cases ha:a=0
    ·subst ha
     rw [if_pos (by simp)]
     rw [hsp];rfl
    ·rw [if_neg (by simp [ha])]
     have e1:e01 true=1:=rfl
     rw [e1,key (a-1) (by omega) (by omega)]
     conv=>rhs;rw [hsp]
     rw [getD_app_r (by rw [h01];omega),h01]
     congr 1;omega
   ·rw [if_neg he] at hsp hl
    have h01:([]:Rst).length=0:=rfl
    rw [h01] at hl
    have he':emptyIn (rAt all st).1=false:=by simpa using he
    rw [he']
    rw [if_neg (by simp)]
    have e1:e01 false=0:=rfl
    rw [e1,Int.sub_zero,key a h0 (by omega)]
    conv=>rhs;rw [hsp]
    rfl
end Go.EA
