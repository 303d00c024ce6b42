/- Plain: a word has a place just if it is there; a word more makes few states more. Conditions: none. -/
import Derived.Test.YtpgjilomblpcpaaDoorEDpk
import Derived.Test.YtpgjilomblpcpaaDoorEDu
set_option linter.unusedVariables false
set_option linter.unusedSimpArgs false
namespace Go.EA
theorem iZ {l:Rst}:aA l=true↔[]∈l:=by
 unfold aA;rw[List.any_eq_true];exact⟨fun⟨x,h1,h2⟩=>by rw[List.isEmpty_iff] at h2;subst h2;exact h1,fun h=>⟨[],h,rfl⟩⟩
theorem Sts.mem {W:Rst}{all:List RSt}(hS:Sts W all) {i:Nat}(hi:i<all.length):rAt all i∈all:=by
 unfold rAt;rw[zA,zB hi];exact List.getElem_mem _
theorem Cr {out:List Ed}{r:Int}:iT out r=true↔r∈out.map (·.1):=by
 unfold iT xx;rw[List.find?_isSome];constructor
 .rintro⟨e,h1,h2⟩;have h2:=of_decide_eq_true h2;rw[<- h2];exact List.mem_map_of_mem h1
 .intro h;obtain⟨e,h1,rfl⟩:=List.mem_map.1 h;exact⟨e,h1,decide_eq_true rfl⟩
theorem Cc {out:List Ed}{r:Int}(h:iT out r=true):(r,uk out r)∈out:=by
 unfold iT at h;obtain⟨e,he⟩:=Option.isSome_iff_exists.1 h;have h1:out.find? (fun e=>decide (e.1=r))=some e:=he;have h2:=List.find?_some h1;have h3:=List.mem_of_find?_eq_some h1;have h2:=of_decide_eq_true h2;unfold uk;rw[he,<- h2];exact h3
theorem FM {W:Rst}{all:List RSt}(hS:Sts W all):∀(rs:List Int) (i:Nat) (a:Int),i<all.length->((plc (all.map stD) rs i a).2=0↔rs∈(rAt all i).1)
 | [],i,a,hi=>by
   unfold plc;rw[dh hi];show ((if (rAt all i).2.1=true then (a,(0:Int)) else (0,10)).2=0↔_);rw[(hS.g _ (hS.mem hi)).ends,<- iZ];by_cases h:aA (rAt all i).1=true
   .rw[if_pos h];exact⟨fun _=>h,fun _=>rfl⟩
   .rw[if_neg h];exact⟨fun h'=>absurd h' (by decide),fun h'=>absurd h' h⟩
 | r::rs,i,a,hi=>by
   unfold plc;rw[dh hi];have g:=hS.g _ (hS.mem hi);show ((if iT (rAt all i).2.2 r=true then plc (all.map stD) rs (uk (rAt all i).2.2 r).toNat (a+e01 (rAt all i).2.1+cB (all.map stD) ((rAt all i).2.2.take (gZ (rAt all i).2.2 r).toNat)) else (0,10)).2=0↔_);by_cases h:iT (rAt all i).2.2 r=true
   .rw[if_pos h];obtain⟨n,h1,h2,h3⟩:=g.to _ (Cc h);dsimp only at h1 h3;rw[h1,Int.toNat_natCast,FM hS rs n _ h2,h3,dQ]
   .rw[if_neg h];refine⟨fun h'=>absurd h' (by decide),fun h'=>absurd (Cr.2 ?_) h⟩;rw[g.hd];exact fE h'
theorem Sts.has {W:Rst}{all:List RSt}(hS:Sts W all):∀(p:List Int) (i:Nat),i<all.length->bhs (rAt all i).1 p≠[]->∃j,j<all.length/\(rAt all j).1=bhs (rAt all i).1 p
 |[],i,hi,_=>⟨i,hi,rfl⟩
 | r::p,i,hi,hne=>by
   have hne:bhs (aS (rAt all i).1 r) p≠[]:=hne;have hb:aS (rAt all i).1 r≠[]:=fun e=>by
    rw[e] at hne;have:∀p:List Int,bhs [] p=[]:=fun p=>by
     unfold bhs
     induction p with
     |nil=>rfl
     |cons r p ih=>exact ih
    exact hne (this p)
   have g:=hS.g _ (hS.mem hi);have hr:r∈(rAt all i).2.2.map (·.1):=by
    rw[g.hd];cases hx:aS (rAt all i).1 r with
    |nil=>exact absurd hx hb
    |cons z t=>exact fE (dQ.1 (hx ▸ List.mem_cons_self ..))
   obtain⟨e,he,rfl⟩:=List.mem_map.1 hr;obtain⟨m,h2,h3,h4⟩:=g.to e he;obtain⟨j,hj,hj2⟩:=hS.has p m h3 (by rw[h4];exact hne);exact⟨j,hj,by rw[hj2,h4];rfl⟩
theorem Oa {l:List Wd}{z:List Int}:z∈wdR l↔∃w∈l,aG w.1=z:=by unfold wdR;exact List.mem_map
structure Mor (l:List Wd) (w:Wd):Prop where
 he:isE (bf l)=0
 hm:isE (bf (bf l++[w]))=0
 pl:∀x∈bf l++[w],(plE x.1 (List.map stD (fZ (bf (bf l++[w]))))).2=0
 st:(fZ (bf (bf l++[w]))).length<=2*(fZ (bf l)).length+(aG w.1).length
end Go.EA
