/- Layer 15, plain: which candidates are the first ones; the first ones of the first ones. Conditions: none. -/
import Derived.Test.YtfkejbbajggmnaaDoorERk1
set_option linter.unusedVariables false
set_option linter.unusedSimpArgs false
namespace Go.EA
open F Go.Sort
theorem allC_keys (l:List Cd):(allC l).Pairwise fun x y=>x.1≠y.1:=onceC_keys _
def ahead (l:List Cd) (c:Cd):List Cd:=l.filter fun e=>ltC e c
theorem posK_at {l:List Cd} (h:l.Pairwise fun x y=>x.1≠y.1) {i:Nat} (hi:i < l.length):posK l (l.getD i ([],0,0)).1=some i:=by
  refine posK_hit hi rfl fun j hj=>?_
  rw [getC_lt hi,getC_lt (by omega)]
  exact List.pairwise_iff_getElem.1 h j i (by omega) hi hj
theorem posK_has {l:List Cd} {s:List UInt8}:hasK l s=true↔∃ i,posK l s=some i:=by
  unfold posK hasK
  rw [List.any_eq_true]
  constructor
  · rintro ⟨x,hx,hp⟩
    cases h:l.findIdx? fun d=>decide (d.1=s) with
    | none=>rw [List.findIdx?_eq_none_iff] at h;rw [h x hx] at hp;cases hp
    | some i=>exact ⟨i,rfl⟩
  · rintro ⟨i,h⟩
    obtain ⟨hi,hp,_⟩:=List.findIdx?_eq_some_iff_getElem.1 h
    exact ⟨_,List.getElem_mem hi,hp⟩
end Go.EA
