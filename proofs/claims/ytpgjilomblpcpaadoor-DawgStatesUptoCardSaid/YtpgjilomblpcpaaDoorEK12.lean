/- Texts. Conditions: none. -/
import Derived.Test.YtpgjilomblpcpaaDoorEK24
import Derived.Test.YtpgjilomblpcpaaDoorEMean3
import Derived.Test.YtpgjilomblpcpaaDoorEK9
set_option linter.unusedVariables false
set_option linter.unusedSimpArgs false
section
namespace Go.EA
open F
def wE (w:Wd):Int:=if tokE w.1=0 then (if w.2<1\/1073741824<w.2 then 2 else 0) else tokE w.1
def badW (w:Wd):Bool:=!decide (wE w=0)
def badK (l:List Wd):Int:=match l.findIdx? badW with | some i=>i | none => -1
def errL (l:List Wd):Int:=orV (l.map wE)
def SmW (l:List Wd):Prop:=∀ x∈l,x.1.length<=1099511627776
theorem SmW.at {l:List Wd} (h:SmW l) (i:Nat):(l.getD i ([],0)).1.length<=1099511627776:=by
 rw [zA]
 cases hi:l[i]? with
 | none=>exact Nat.zero_le _
 | some x=>exact h x (List.mem_of_getElem? hi)
theorem badW_t {w:Wd}:badW w=true↔¬ wE w=0:=by unfold badW;simp
theorem badW_f {w:Wd}:badW w=false↔wE w=0:=by unfold badW;simp
theorem findIdx_hit {α:Type} {p:α->Bool}:∀ {l:List α} {d:α} {i:Nat},i<l.length->(∀ j,j<i->p (l.getD j d)=false)->p (l.getD i d)=true->l.findIdx? p=some i
 | [],_,_,h,_,_=>by cases h
 | x::l,d,0,_,_,h=>by rw [List.findIdx?_cons];rw [show p x=true from h];rfl
 | x::l,d,i+1,hi,hn,h=>by
   rw [List.findIdx?_cons,show p x=false from hn 0 (Nat.succ_pos i),findIdx_hit (l:=l) (d:=d) (i:=i) (Nat.lt_of_succ_lt_succ hi) (fun j hj=>hn (j+1) (Nat.succ_lt_succ hj)) h]
   rfl
theorem findIdx_none {α:Type} {p:α->Bool}:∀ {l:List α} {d:α},(∀ j,j<l.length->p (l.getD j d)=false)->l.findIdx? p=none
 | [],_,_=>rfl
 | x::l,d,hn=>by
   rw [List.findIdx?_cons,show p x=false from hn 0 (Nat.succ_pos _),findIdx_none (l:=l) (d:=d) fun j hj=>hn (j+1) (Nat.succ_lt_succ hj)]
   rfl
theorem orV_hit:∀ {l:List Wd} {i:Nat},i<l.length->(∀ j,j<i->badW (l.getD j ([],0))=false)->badW (l.getD i ([],0))=true->errL l=wE (l.getD i ([],0))
 | [],_,h,_,_=>by cases h
 | x::l,0,_,_,h=>by
   have h1:¬ wE x=0:=badW_t.1 h
   simp [errL,orV,h1]
 | x::l,i+1,hi,hn,h=>by
   have h0:wE x=0:=badW_f.1 (hn 0 (Nat.succ_pos i))
   have:=orV_hit (l:=l) (i:=i) (Nat.lt_of_succ_lt_succ hi) (fun j hj=>hn (j+1) (Nat.succ_lt_succ hj)) h
   simpa [errL,orV,h0] using this
theorem errL_none {l:List Wd} (hn:∀ j,j<l.length->badW (l.getD j ([],0))=false):errL l=0:=by
 refine (orV_none ?_).symm
 rw [List.all_eq_true]
 intro x hx
 obtain ⟨w,hw,rfl⟩:=List.mem_map.1 hx
 obtain ⟨j,hj,rfl⟩:=List.mem_iff_getElem.1 hw
 have:=hn j hj
 rw [zA,zB hj] at this
 simpa using badW_f.1 this
theorem errL_zero {l:List Wd} (h:errL l=0):∀ x∈l,wE x=0:=by
 intro x hx
 unfold errL orV at h
 cases hf:(l.map wE).find? (fun x=>!decide (x=0)) with
 | none=>
   have:=List.find?_eq_none.1 hf (wE x) (List.mem_map_of_mem hx)
   simpa using this
 | some e=>
   rw [hf] at h
   have:=List.find?_some hf
   simp only [Option.getD_some] at h
   rw [h] at this
   simp at this
def Ris (l:List Wd):Prop:=∀ i,i+1<l.length->ltW (l.getD i ([],0)) (l.getD (i+1) ([],0))=true
def risB (l:List Wd):Bool:=(List.range l.length).all fun i=>decide (i+1<l.length->ltW (l.getD i ([],0)) (l.getD (i+1) ([],0))=true)
theorem risB_iff (l:List Wd):risB l=true↔Ris l:=by
 simp only [risB,List.all_eq_true,List.mem_range,decide_eq_true_eq]
 exact ⟨fun h i hi=>h i (by omega) hi,fun h i _ hi=>h i hi⟩
def isE (l:List Wd):Int:=if errL l=0 then (if risB l=true then (if 65536<l.length then 6 else 0) else 7) else errL l
def RisP (o:List Wd):Prop:=o.Pairwise fun a b=>sless a.1 b.1=true
theorem getD_lt {l:List Wd} {i:Nat} (h:i<l.length):l.getD i ([],0)=l[i]:=by
 rw [zA,zB h,Option.getD_some]
theorem RisP.at {l:List Wd} (h:RisP l) {i j:Nat} (hij:i<j) (hj:j<l.length):sless (l.getD i ([],0)).1 (l.getD j ([],0)).1=true:=by
 rw [getD_lt (by omega),getD_lt hj]
 exact List.pairwise_iff_getElem.1 h i j (by omega) hj hij
theorem Ris_iff (l:List Wd):Ris l↔RisP l:=by
 constructor
 ·intro h
  refine List.pairwise_iff_getElem.2 fun i j hi hj hij=>?_
  rw [<- getD_lt hi,<- getD_lt hj]
  obtain ⟨k,rfl⟩:∃ k,j=i+1+k:=⟨j-(i+1),by omega⟩
  clear hij
  induction k with
  | zero=>exact h i (by omega)
  | succ k ih=>exact sl_trans (ih (by omega)) (h (i+1+k) (by omega))
 ·intro h i hi
  exact h.at (Nat.lt_succ_self i) hi
theorem isE_zero {l:List Wd}:isE l=0↔errL l=0/\RisP l/\l.length<=65536:=by
 unfold isE
 split
 ·rename_i h
  split
  ·rename_i h1
   rw [risB_iff,Ris_iff] at h1
   split
   ·simp;omega
   ·simp [h,h1];omega
  ·rename_i h1
   rw [risB_iff,Ris_iff] at h1
   simp [h1]
 ·rename_i h;simp [h]
theorem badK_hit {l:List Wd} {i:Nat} (hi:i<l.length) (hn:∀ j,j<i->badW (l.getD j ([],0))=false) (h:badW (l.getD i ([],0))=true):badK l=i:=by
 unfold badK;rw [findIdx_hit hi hn h]
theorem badK_none {l:List Wd} (hn:∀ j,j<l.length->badW (l.getD j ([],0))=false):badK l = -1:=by
 unfold badK;rw [findIdx_none hn]
theorem badK_spec (l:List Wd):(badK l = -1/\errL l=0)\/∃ i:Nat,i<l.length/\badK l=i/\wE (l.getD i ([],0))=errL l:=by
 unfold badK
 cases h:l.findIdx? badW with
 | none=>
   refine .inl ⟨rfl,errL_none fun j hj=>?_⟩
   rw [getD_lt hj]
   have:=List.findIdx?_eq_none_iff.1 h _ (List.getElem_mem hj)
   simpa using this
 | some i=>
   obtain ⟨hi,h1,h2⟩:=List.findIdx?_eq_some_iff_getElem.1 h
   refine .inr ⟨i,hi,rfl,(orV_hit hi (fun j hj=>?_) (by rw [getD_lt hi];exact h1)).symm⟩
   rw [getD_lt (by omega)]
   simpa using h2 j hj
theorem step_all {P:Nat->Prop} {i:Nat} (h:∀ j,j<i->P j) (hi:P i):∀ j,j<i+1->P j:=fun j hj=>by
 rcases Nat.lt_succ_iff_lt_or_eq.1 hj with h1 | rfl
 ·exact h j h1
 ·exact hi
theorem isE_7 {l:List Wd} {i:Nat} (he:errL l=0) (h0:0<(i:Int)) (hi:i<l.length) (h:(!sless (l.getD ((i:Int)-1).toNat ([],0)).1 (l.getD i ([],0)).1)=true):7=isE l:=by
 unfold isE
 rw [if_pos he,if_neg]
 rw [risB_iff]
 intro hr
 obtain ⟨k,rfl⟩:∃ k,i=k+1:=⟨i-1,by omega⟩
 rw [show (((k+1:Nat):Int)-1).toNat=k by omega] at h
 have:=hr k hi
 unfold ltW at this
 rw [this] at h
 cases h
theorem isE_end {l:List Wd} (he:errL l=0) (h:∀ j,j+1<l.length->ltW (l.getD j ([],0)) (l.getD (j+1) ([],0))=true):isE l=if 65536<l.length then 6 else 0:=by
 unfold isE
 rw [if_pos he,if_pos ((risB_iff l).2 h)]
theorem ris_step {l:List Wd} {i:Nat} (h:∀ j,j+1<i->ltW (l.getD j ([],0)) (l.getD (j+1) ([],0))=true) (hs:0<(i:Int)->¬ (!sless (l.getD ((i:Int)-1).toNat ([],0)).1 (l.getD i ([],0)).1)=true):∀ j,j+1<i+1->ltW (l.getD j ([],0)) (l.getD (j+1) ([],0))=true:=fun j hj=>by
 rcases Nat.lt_succ_iff_lt_or_eq.1 hj with h1 | rfl
 ·exact h j h1
 ·have:=hs (by omega)
  rw [show (((j+1:Nat):Int)-1).toNat=j by omega] at this
  unfold ltW
  simpa using this
end Go.EA
end
section
namespace Go.EA
open F
def preB (a b:List UInt8):Bool:=decide (b.length<=a.length/\a.take b.length=b)
def posN (l:List Wd) (s:List UInt8):Nat:=(l.takeWhile fun w=>sless w.1 s).length
def endN (l:List Wd) (s:List UInt8):Nat:=posN l s+((l.drop (posN l s)).takeWhile fun w=>preB w.1 s).length
end Go.EA
end
section
namespace Go.EA
open F
end Go.EA
end
