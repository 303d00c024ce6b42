/- Plain: a word has a place just if it is there; a word more makes few states more. Conditions: none. -/
import Derived.Test.YtpgjilomblpcpaaDoorEDpk
import Derived.Test.YtpgjilomblpcpaaDoorEDu
set_option linter.unusedVariables false
set_option linter.unusedSimpArgs false
namespace Go.EA
theorem emptyIn_mem {l:Rst}:emptyIn l=true↔[]∈l:=by
 unfold emptyIn
 rw [List.any_eq_true]
 exact ⟨fun ⟨x,h1,h2⟩=>by rw [List.isEmpty_iff] at h2;subst h2;exact h1,fun h=>⟨[],h,rfl⟩⟩
theorem Sts.mem {W:Rst} {all:List RSt} (hS:Sts W all) {i:Nat} (hi:i<all.length):rAt all i∈all:=by
 unfold rAt;rw [zA,zB hi];exact List.getElem_mem _
theorem nxtE_mem {out:List Ed} {r:Int}:nxtB out r=true↔r∈out.map (·.1):=by
 unfold nxtB nxtE
 rw [List.find?_isSome]
 constructor
 ·rintro ⟨e,h1,h2⟩
  have h2:=of_decide_eq_true h2
  rw [<- h2];exact List.mem_map_of_mem h1
 ·intro h
  obtain ⟨e,h1,rfl⟩:=List.mem_map.1 h
  exact ⟨e,h1,decide_eq_true rfl⟩
theorem nxtV_mem {out:List Ed} {r:Int} (h:nxtB out r=true):(r,nxtV out r)∈out:=by
 unfold nxtB at h
 obtain ⟨e,he⟩:=Option.isSome_iff_exists.1 h
 have h1:out.find? (fun e=>decide (e.1=r))=some e:=he
 have h2:=List.find?_some h1
 have h3:=List.mem_of_find?_eq_some h1
 have h2:=of_decide_eq_true h2
 unfold nxtV
 rw [he,<- h2]
 exact h3
theorem plc_mem {W:Rst} {all:List RSt} (hS:Sts W all):∀ (rs:List Int) (i:Nat) (a:Int),i<all.length->((plc (all.map stD) rs i a).2=0↔rs∈(rAt all i).1)
 | [],i,a,hi=>by
   unfold plc
   rw [sAt_map hi]
   show ((if (rAt all i).2.1=true then (a,(0:Int)) else (0,10)).2=0↔_)
   rw [(hS.g _ (hS.mem hi)).ends,<- emptyIn_mem]
   by_cases h:emptyIn (rAt all i).1=true
   ·rw [if_pos h];exact ⟨fun _=>h,fun _=>rfl⟩
   ·rw [if_neg h];exact ⟨fun h'=>absurd h' (by decide),fun h'=>absurd h' h⟩
 | r::rs,i,a,hi=>by
   unfold plc
   rw [sAt_map hi]
   have g:=hS.g _ (hS.mem hi)
   show ((if nxtB (rAt all i).2.2 r=true then plc (all.map stD) rs (nxtV (rAt all i).2.2 r).toNat (a+e01 (rAt all i).2.1+sumC (all.map stD) ((rAt all i).2.2.take (fndI (rAt all i).2.2 r).toNat)) else (0,10)).2=0↔_)
   by_cases h:nxtB (rAt all i).2.2 r=true
   ·rw [if_pos h]
    obtain ⟨n,h1,h2,h3⟩:=g.to _ (nxtV_mem h)
    dsimp only at h1 h3
    rw [h1,Int.toNat_natCast,plc_mem hS rs n _ h2,h3,mem_behL]
   ·rw [if_neg h]
    refine ⟨fun h'=>absurd h' (by decide),fun h'=>absurd (nxtE_mem.2 ?_) h⟩
    rw [g.hd];exact mem_heads h'
theorem sub_len {α:Type} [DecidableEq α]:∀ {l m:List α},l.Nodup->(∀ x∈l,x∈m)->l.length<=m.length
 | [],m,_,_=>Nat.zero_le _
 | x::l,m,hn,h=>by
   have hn':=List.nodup_cons.1 hn
   have hm:=h x (by simp)
   have:=sub_len (m:=m.erase x) hn'.2 fun y hy=>(List.mem_erase_of_ne (fun e:y=x=>hn'.1 (e ▸ hy))).2 (h y (by simp [hy]))
   rw [List.length_erase_of_mem hm] at this
   have:0<m.length:=List.length_pos_of_mem hm
   rw [zM];omega
theorem Nd.nodup {all:List RSt} (h:Nd all):(all.map (·.1)).Nodup:=by
 rw [List.nodup_iff_pairwise_ne,List.pairwise_iff_getElem]
 intro i j hi hj hij e
 rw [zR] at hi hj
 rw [List.getElem_map,List.getElem_map] at e
 have:=h i j hi hj (by unfold rAt;rw [zA,zA,zB hi,zB hj];exact e)
 omega
theorem Sts.beg {W:Rst} {all:List RSt} (hS:Sts W all):∀ (n i:Nat),i<all.length->tot W-tot (rAt all i).1<n->∃ p,(rAt all i).1=bhs W p
 | 0,_,_,h=>by omega
 | n+1,i,hi,h=>by
   by_cases h0:i=0
   ·subst h0;exact ⟨[],hS.root⟩
   ·obtain ⟨s,hs,e,he,h1⟩:=hS.led i (by omega) hi
    obtain ⟨j,hj,rfl⟩:=List.getElem_of_mem hs
    have hr:rAt all j=all[j]:=by unfold rAt;rw [zA,zB hj];rfl
    have g:=hS.g _ hs
    obtain ⟨m,h2,h3,h4⟩:=g.to e he
    have:m=i:=by omega
    subst this
    have hlt:=beh_lt (show e.1∈headsL all[j].1 by rw [<- g.hd];exact List.mem_map_of_mem he)
    rw [<- h4] at hlt
    have ht:=hS.tt _ hs
    obtain ⟨p,hp⟩:=hS.beg n j hj (by rw [hr];omega)
    rw [hr] at hp
    exact ⟨p++[e.1],by rw [bhs_app,<- hp];exact h4⟩
theorem Sts.has {W:Rst} {all:List RSt} (hS:Sts W all):∀ (p:List Int) (i:Nat),i<all.length->bhs (rAt all i).1 p≠[]->∃ j,j<all.length/\(rAt all j).1=bhs (rAt all i).1 p
 | [],i,hi,_=>⟨i,hi,rfl⟩
 | r::p,i,hi,hne=>by
   have hne:bhs (behL (rAt all i).1 r) p≠[]:=hne
   have hb:behL (rAt all i).1 r≠[]:=fun e=>by
    rw [e] at hne
    have:∀ p:List Int,bhs [] p=[]:=fun p=>by
     unfold bhs
     induction p with
     | nil=>rfl
     | cons r p ih=>exact ih
    exact hne (this p)
   have g:=hS.g _ (hS.mem hi)
   have hr:r∈(rAt all i).2.2.map (·.1):=by
    rw [g.hd]
    cases hx:behL (rAt all i).1 r with
    | nil=>exact absurd hx hb
    | cons z t=>exact mem_heads (mem_behL.1 (hx ▸ List.mem_cons_self ..))
   obtain ⟨e,he,rfl⟩:=List.mem_map.1 hr
   obtain ⟨m,h2,h3,h4⟩:=g.to e he
   obtain ⟨j,hj,hj2⟩:=hS.has p m h3 (by rw [h4];exact hne)
   exact ⟨j,hj,by rw [hj2,h4];rfl⟩
theorem bhs_other {Wa Wb:Rst} {x:List Int} (ha:SrtQ Wa) (hb:SrtQ Wb) (h:∀ z,z∈Wb↔z∈Wa\/z=x) {p:List Int} (hp:∀ z,x≠p++z):bhs Wb p=bhs Wa p:=by
 refine srt_ext (bhs_srt hb p) (bhs_srt ha p) fun z=>?_
 rw [mem_bhs,mem_bhs,h]
 exact ⟨fun h'=>h'.resolve_right fun e=>hp z e.symm,.inl⟩
theorem more_states {Wa Wb:Rst} {A B:List RSt} {x:List Int} (hA:Sts Wa A) (hB:Sts Wb B) (ha:SrtQ Wa) (hb:SrtQ Wb) (hne:Wb≠[]) (h:∀ z,z∈Wb↔z∈Wa\/z=x):B.length<=A.length+x.length+1:=by
 have hl:(B.map (·.1)).length=B.length:=zR ..
 have hm:(A.map (·.1)++(List.range (x.length+1)).map fun i=>bhs Wb (x.take i)).length=A.length+(x.length+1):=by simp
 have:=sub_len (l:=B.map (·.1)) (m:=A.map (·.1)++(List.range (x.length+1)).map fun i=>bhs Wb (x.take i)) hB.nd.nodup fun lab hlab=>by
  obtain ⟨s,hs,rfl⟩:=List.mem_map.1 hlab
  obtain ⟨i,hi,rfl⟩:=List.getElem_of_mem hs
  have hr:rAt B i=B[i]:=by unfold rAt;rw [zA,zB hi];rfl
  obtain ⟨p,hp⟩:=hB.beg _ i hi (Nat.lt_succ_self _)
  have hn:=hB.ne hne _ hs
  rw [hr] at hp
  rw [hp] at hn ⊢
  by_cases hx:∃ z,x=p++z
  ·obtain ⟨z,hz⟩:=hx
   refine List.mem_append_right _ (List.mem_map.2 ⟨p.length,List.mem_range.2 ?_,?_⟩)
   ·rw [hz,zL];omega
   ·rw [hz,List.take_left]
  ·rw [bhs_other ha hb h fun z e=>hx ⟨z,e⟩] at hn ⊢
   obtain ⟨j,hj,hj2⟩:=hA.has p 0 hA.pos (by rw [hA.root];exact hn)
   rw [hA.root] at hj2
   exact List.mem_append_left _ (List.mem_map.2 ⟨_,hA.mem hj,hj2⟩)
 omega
theorem key_insW (w:Wd):∀ (o:List Wd),(∃ z∈insW w o,z.1=w.1)/\∀ x∈o,∃ z∈insW w o,z.1=x.1
 | []=>⟨⟨w,by simp [insW],rfl⟩,fun x hx=>(by cases hx)⟩
 | y::o=>by
   obtain ⟨⟨z,h1,h2⟩,h3⟩:=key_insW w o
   simp only [insW]
   split
   ·refine ⟨⟨z,List.mem_cons_of_mem _ h1,h2⟩,fun x hx=>?_⟩
    rcases List.mem_cons.1 hx with rfl | hx
    ·exact ⟨_,List.mem_cons_self ..,rfl⟩
    ·obtain ⟨v,h4,h5⟩:=h3 x hx
     exact ⟨v,List.mem_cons_of_mem _ h4,h5⟩
   ·split
    ·rename_i e
     refine ⟨⟨_,List.mem_cons_self ..,e⟩,fun x hx=>?_⟩
     rcases List.mem_cons.1 hx with rfl | hx
     ·exact ⟨_,List.mem_cons_self ..,rfl⟩
     ·exact ⟨x,List.mem_cons_of_mem _ hx,rfl⟩
    ·refine ⟨⟨_,List.mem_cons_self ..,rfl⟩,fun x hx=>⟨x,List.mem_cons_of_mem _ hx,rfl⟩⟩
theorem key_norm (l:List Wd):∀ x∈l,∃ z∈normV l,z.1=x.1:=by
 suffices h:∀ (l:List Wd) (o:List Wd),(∀ x∈o,∃ z∈l.foldl (fun o w=>insW w o) o,z.1=x.1)/\∀ x∈l,∃ z∈l.foldl (fun o w=>insW w o) o,z.1=x.1 from (h l []).2
 intro l
 induction l with
 | nil=>intro o;exact ⟨fun x hx=>⟨x,hx,rfl⟩,fun x hx=>(by cases hx)⟩
 | cons w l ih=>
   intro o
   obtain ⟨h1,h2⟩:=ih (insW w o)
   obtain ⟨⟨z,h3,h4⟩,h5⟩:=key_insW w o
   refine ⟨fun x hx=>?_,fun x hx=>?_⟩
   ·obtain ⟨v,q1,q2⟩:=h5 x hx
    obtain ⟨u,q3,q4⟩:=h1 v q1
    exact ⟨u,q3,q4.trans q2⟩
   ·rcases List.mem_cons.1 hx with rfl | hx
    ·obtain ⟨u,q3,q4⟩:=h1 z h3
     exact ⟨u,q3,q4.trans h4⟩
    ·exact h2 x hx
theorem mem_wdR {l:List Wd} {z:List Int}:z∈wdR l↔∃ w∈l,decR w.1=z:=by unfold wdR;exact List.mem_map
structure Mor (l:List Wd) (w:Wd):Prop where
 he:isE (norO l)=0
 hm:isE (norO (norO l++[w]))=0
 pl:∀ x∈norO l++[w],(plE x.1 (List.map stD (stsR (norO (norO l++[w]))))).2=0
 st:(stsR (norO (norO l++[w]))).length<=2*(stsR (norO l)).length+(decR w.1).length
theorem mor {l:List Wd} {w:Wd} (h1:norE l=0) (h2:norE (norO l++[w])=0):Mor l w:=by
 obtain ⟨a1,a2,a3⟩:=nor_zero h1
 obtain ⟨b1,b2,b3⟩:=nor_zero h2
 have he:isE (norO l)=0:=by rw [a1];exact a3
 have hm:isE (norO (norO l++[w]))=0:=by rw [b1];exact b3
 have hA:=sts he
 have hB:=sts hm
 have hkey:∀ z,z∈wdR (norO (norO l++[w]))↔z∈wdR (norO l)\/z=decR w.1:=fun z=>by
  rw [mem_wdR,mem_wdR]
  constructor
  ·rintro ⟨v,hv,rfl⟩
   rw [b1] at hv
   obtain ⟨u,hu,e⟩:=normV_key v hv
   rw [<- e]
   rcases zX.1 hu with hu | hu
   ·exact .inl ⟨u,hu,rfl⟩
   ·rw [List.mem_singleton.1 hu];exact .inr rfl
  ·intro h
   have:∃ u∈norO l++[w],decR u.1=z:=by
    rcases h with ⟨u,hu,e⟩ | e
    ·exact ⟨u,List.mem_append_left _ hu,e⟩
    ·exact ⟨w,by simp,e.symm⟩
   obtain ⟨u,hu,e⟩:=this
   obtain ⟨v,hv,e2⟩:=key_norm _ u hu
   exact ⟨v,by rw [b1];exact hv,by rw [e2];exact e⟩
 refine ⟨he,hm,fun x hx=>?_,?_⟩
 ·have hd:decE x.1=0:=(tokE_zero (wE_tok (errL_zero b2 x hx)).1).1
  unfold plE
  rw [if_pos hd,plc_mem hB _ 0 0 hB.pos,hB.root,hkey]
  rcases zX.1 hx with hx | hx
  ·exact .inl (mem_wdR.2 ⟨x,hx,rfl⟩)
  ·rw [List.mem_singleton.1 hx];exact .inr rfl
 ·have hne:wdR (norO (norO l++[w]))≠[]:=fun e=>by
   have:=(hkey (decR w.1)).2 (.inr rfl)
   rw [e] at this;cases this
  have:=more_states hA hB (nml he).srt (nml hm).srt hne hkey
  have:=hA.pos
  omega
end Go.EA
