/- Plain: a word has a place just if it is there; a word more makes few states more. Conditions: none. -/
import Derived.Test.YtpgjilomblpcpaaDoorEDpk
import Derived.Test.YtpgjilomblpcpaaDoorEDu
set_option linter.unusedVariables false
set_option linter.unusedSimpArgs false
namespace Go.EA
theorem emptyIn_mem {l:Rst}:emptyIn l=true↔[]∈l:=by
 unfold emptyIn
 rw [List.any_eq_true]
 exact ⟨fun ⟨x,h1,h2⟩=>by rw [List.isEmpty_iff] at h2;subst h2;exact h1,fun h=>⟨[],h,rfl⟩⟩
theorem Sts.mem {W:Rst} {all:List RSt} (hS:Sts W all) {i:Nat} (hi:i<all.length):rAt all i∈all:=by
 unfold rAt;rw [zA,zB hi];exact List.getElem_mem _
theorem Sts.has {W:Rst} {all:List RSt} (hS:Sts W all):∀ (p:List Int) (i:Nat),i<all.length->bhs (rAt all i).1 p≠[]->∃ j,j<all.length/\(rAt all j).1=bhs (rAt all i).1 p
 | [],i,hi,_=>⟨i,hi,rfl⟩
 | r::p,i,hi,hne=>by
   have hne:bhs (behL (rAt all i).1 r) p≠[]:=hne
   have hb:behL (rAt all i).1 r≠[]:=fun e=>by
    rw [e] at hne
    have:∀ p:List Int,bhs [] p=[]:=fun p=>by
     unfold bhs
     induction p with
     | nil=>rfl
     | cons r p ih=>exact ih
    exact hne (this p)
   have g:=hS.g _ (hS.mem hi)
   have hr:r∈(rAt all i).2.2.map (·.1):=by
    rw [g.hd]
    cases hx:behL (rAt all i).1 r with
    | nil=>exact absurd hx hb
    | cons z t=>exact mem_heads (mem_behL.1 (hx ▸ List.mem_cons_self ..))
   obtain ⟨e,he,rfl⟩:=List.mem_map.1 hr
   obtain ⟨m,h2,h3,h4⟩:=g.to e he
   obtain ⟨j,hj,hj2⟩:=hS.has p m h3 (by rw [h4];exact hne)
   exact ⟨j,hj,by rw [hj2,h4];rfl⟩
structure Mor (l:List Wd) (w:Wd):Prop where
 he:isE (norO l)=0
 hm:isE (norO (norO l++[w]))=0
 pl:∀ x∈norO l++[w],(plE x.1 (List.map stD (stsR (norO (norO l++[w]))))).2=0
 st:(stsR (norO (norO l++[w]))).length<=2*(stsR (norO l)).length+(decR w.1).length
end Go.EA
