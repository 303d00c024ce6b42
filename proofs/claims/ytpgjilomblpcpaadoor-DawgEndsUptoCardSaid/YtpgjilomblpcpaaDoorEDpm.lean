/- Plain: a word has a place just if it is there; a word more makes few states more. Conditions: none. -/
import Derived.Test.YtpgjilomblpcpaaDoorEDpk
import Derived.Test.YtpgjilomblpcpaaDoorEDu
set_option linter.unusedVariables false
set_option linter.unusedSimpArgs false
namespace Go.EA
theorem Aa {l:Rst}:aI l=true↔[]∈l:=by
 unfold aI;rw[List.any_eq_true];exact⟨fun⟨x,h1,h2⟩=>by rw[List.isEmpty_iff] at h2;subst h2;exact h1,fun h=>⟨[],h,rfl⟩⟩
theorem Sts.mem {W:Rst}{all:List RSt}(hS:Sts W all) {i:Nat}(hi:i<all.length):rAt all i∈all:=by
 unfold rAt;rw[zA,zB hi];exact List.getElem_mem _
theorem Na {out:List Ed}{r:Int}:dU out r=true↔r∈out.map (·.1):=by
 unfold dU uU;rw[List.find?_isSome];constructor
 .rintro⟨e,h1,h2⟩;have h2:=of_decide_eq_true h2;rw[<- h2];exact List.mem_map_of_mem h1
 .intro h;obtain⟨e,h1,rfl⟩:=List.mem_map.1 h;exact⟨e,h1,decide_eq_true rfl⟩
theorem rU {out:List Ed}{r:Int}(h:dU out r=true):(r,iG out r)∈out:=by
 unfold dU at h;obtain⟨e,he⟩:=Option.isSome_iff_exists.1 h;have h1:out.find? (fun e=>decide (e.1=r))=some e:=he;have h2:=List.find?_some h1;have h3:=List.mem_of_find?_eq_some h1;have h2:=of_decide_eq_true h2;unfold iG;rw[he,<- h2];exact h3
theorem Sts.has {W:Rst}{all:List RSt}(hS:Sts W all):∀(p:List Int) (i:Nat),i<all.length->bhs (rAt all i).1 p≠[]->∃j,j<all.length/\(rAt all j).1=bhs (rAt all i).1 p
 |[],i,hi,_=>⟨i,hi,rfl⟩
 | r::p,i,hi,hne=>by
   have hne:bhs (aZ (rAt all i).1 r) p≠[]:=hne;have hb:aZ (rAt all i).1 r≠[]:=fun e=>by
    rw[e] at hne;have:∀p:List Int,bhs [] p=[]:=fun p=>by
     unfold bhs
     induction p with
     |nil=>rfl
     |cons r p ih=>exact ih
    exact hne (this p)
   have g:=hS.g _ (hS.mem hi);have hr:r∈(rAt all i).2.2.map (·.1):=by
    rw[g.hd];cases hx:aZ (rAt all i).1 r with
    |nil=>exact absurd hx hb
    |cons z t=>exact gW (fJ.1 (hx ▸ List.mem_cons_self ..))
   obtain⟨e,he,rfl⟩:=List.mem_map.1 hr;obtain⟨m,h2,h3,h4⟩:=g.to e he;obtain⟨j,hj,hj2⟩:=hS.has p m h3 (by rw[h4];exact hne);exact⟨j,hj,by rw[hj2,h4];rfl⟩
theorem qY {l:List Wd}{z:List Int}:z∈wdR l↔∃w∈l,aC w.1=z:=by unfold wdR;exact List.mem_map
structure Mor (l:List Wd) (w:Wd):Prop where
 he:isE (az l)=0
 hm:isE (az (az l++[w]))=0
 pl:∀x∈az l++[w],(plE x.1 (List.map stD (bu (az (az l++[w]))))).2=0
 st:(bu (az (az l++[w]))).length<=2*(bu (az l)).length+(aC w.1).length
end Go.EA
