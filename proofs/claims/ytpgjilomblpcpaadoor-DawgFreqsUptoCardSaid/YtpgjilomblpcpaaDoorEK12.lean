/- Texts. Conditions: none. -/
import Derived.Test.YtpgjilomblpcpaaDoorEK24
import Derived.Test.YtpgjilomblpcpaaDoorEMean3
import Derived.Test.YtpgjilomblpcpaaDoorEK9
set_option linter.unusedVariables false
set_option linter.unusedSimpArgs false
section
namespace Go.EA
open F
def wE (w:Wd):Int:=if tokE w.1=0 then (if w.2<1\/1073741824<w.2 then 2 else 0) else tokE w.1
def badW (w:Wd):Bool:=!decide (wE w=0)
def badK (l:List Wd):Int:=match l.findIdx? badW with | some i=>i | none => -1
def errL (l:List Wd):Int:=orV (l.map wE)
def SmW (l:List Wd):Prop:=∀ x∈l,x.1.length<=1099511627776
theorem SmW.at {l:List Wd} (h:SmW l) (i:Nat):(l.getD i ([],0)).1.length<=1099511627776:=by
 rw [zA]
 cases hi:l[i]? with
 | none=>exact Nat.zero_le _
 | some x=>exact h x (zU hi)
theorem badW_t {w:Wd}:badW w=true↔¬ wE w=0:=by unfold badW;simp
theorem badW_f {w:Wd}:badW w=false↔wE w=0:=by unfold badW;simp
theorem findIdx_hit {α:Type} {p:α->Bool}:∀ {l:List α} {d:α} {i:Nat},i<l.length->(∀ j,j<i->p (l.getD j d)=false)->p (l.getD i d)=true->l.findIdx? p=some i
 | [],_,_,h,_,_=>by cases h
 | x::l,d,0,_,_,h=>by rw [List.findIdx?_cons];rw [show p x=true from h];rfl
 | x::l,d,i+1,hi,hn,h=>by
   rw [List.findIdx?_cons,show p x=false from hn 0 (Nat.succ_pos i),findIdx_hit (l:=l) (d:=d) (i:=i) (Nat.lt_of_succ_lt_succ hi) (fun j hj=>hn (j+1) (Nat.succ_lt_succ hj)) h]
   rfl
theorem findIdx_none {α:Type} {p:α->Bool}:∀ {l:List α} {d:α},(∀ j,j<l.length->p (l.getD j d)=false)->l.findIdx? p=none
 | [],_,_=>rfl
 | x::l,d,hn=>by
   rw [List.findIdx?_cons,show p x=false from hn 0 (Nat.succ_pos _),findIdx_none (l:=l) (d:=d) fun j hj=>hn (j+1) (Nat.succ_lt_succ hj)]
   rfl
theorem orV_hit:∀ {l:List Wd} {i:Nat},i<l.length->(∀ j,j<i->badW (l.getD j ([],0))=false)->badW (l.getD i ([],0))=true->errL l=wE (l.getD i ([],0))
 | [],_,h,_,_=>by cases h
 | x::l,0,_,_,h=>by
   have h1:¬ wE x=0:=badW_t.1 h
   simp [errL,orV,h1]
 | x::l,i+1,hi,hn,h=>by
   have h0:wE x=0:=badW_f.1 (hn 0 (Nat.succ_pos i))
   have:=orV_hit (l:=l) (i:=i) (Nat.lt_of_succ_lt_succ hi) (fun j hj=>hn (j+1) (Nat.succ_lt_succ hj)) h
   simpa [errL,orV,h0] using this
theorem errL_none {l:List Wd} (hn:∀ j,j<l.length->badW (l.getD j ([],0))=false):errL l=0:=by
 refine (orV_none ?_).symm
 rw [List.all_eq_true]
 intro x hx
 obtain ⟨w,hw,rfl⟩:=List.mem_map.1 hx
 obtain ⟨j,hj,rfl⟩:=List.mem_iff_getElem.1 hw
 have:=hn j hj
 rw [zA,zB hj] at this
 simpa using badW_f.1 this
theorem errL_zero {l:List Wd} (h:errL l=0):∀ x∈l,wE x=0:=by
 intro x hx
 unfold errL orV at h
 cases hf:(l.map wE).find? (fun x=>!decide (x=0)) with
 | none=>
   have:=List.find?_eq_none.1 hf (wE x) (List.mem_map_of_mem hx)
   simpa using this
 | some e=>
   rw [hf] at h
   have:=List.find?_some hf
   simp only [Option.getD_some] at h
   rw [h] at this
   simp at this
def Ris (l:List Wd):Prop:=∀ i,i+1<l.length->ltW (l.getD i ([],0)) (l.getD (i+1) ([],0))=true
def risB (l:List Wd):Bool:=(List.range l.length).all fun i=>decide (i+1<l.length->ltW (l.getD i ([],0)) (l.getD (i+1) ([],0))=true)
theorem risB_iff (l:List Wd):risB l=true↔Ris l:=by
 simp only [risB,List.all_eq_true,List.mem_range,decide_eq_true_eq]
 exact ⟨fun h i hi=>h i (by omega) hi,fun h i _ hi=>h i hi⟩
def isE (l:List Wd):Int:=if errL l=0 then (if risB l=true then (if 65536<l.length then 6 else 0) else 7) else errL l
def insW (w:Wd):List Wd->List Wd
 | []=>[w]
 | x::r=>if sless x.1 w.1=true then x::insW w r else if x.1=w.1 then (x.1,min 1073741824 (x.2+w.2))::r else w::x::r
def normV (l:List Wd):List Wd:=l.foldl (fun o w=>insW w o) []
def norE (l:List Wd):Int:=if errL l=0 then (if 65536<(normV l).length then 6 else 0) else errL l
def norO (l:List Wd):List Wd:=if norE l=0 then normV l else []
theorem normV_snoc (l:List Wd) (w:Wd):normV (l++[w])=insW w (normV l):=by
 unfold normV;rw [List.foldl_append];rfl
theorem mem_insW {w x:Wd}:∀ {o:List Wd},x∈insW w o->x.1=w.1\/∃ z∈o,z.1=x.1
 | [],h=>by simp only [insW,List.mem_singleton] at h;exact .inl (by rw [h])
 | y::o,h=>by
   simp only [insW] at h
   split at h
   ·rcases List.mem_cons.1 h with rfl | h
    ·exact .inr ⟨_,List.mem_cons_self ..,rfl⟩
    ·rcases mem_insW h with h | ⟨z,hz,e⟩
     ·exact .inl h
     ·exact .inr ⟨z,List.mem_cons_of_mem _ hz,e⟩
   ·split at h
    ·rcases List.mem_cons.1 h with rfl | h
     ·exact .inr ⟨_,List.mem_cons_self ..,rfl⟩
     ·exact .inr ⟨x,List.mem_cons_of_mem _ h,rfl⟩
    ·rcases List.mem_cons.1 h with rfl | h
     ·exact .inl rfl
     ·exact .inr ⟨x,h,rfl⟩
theorem insW_all {P:Wd->Prop} {w:Wd} (hw:P w) (hm:∀ x,P x->x.1=w.1->P (x.1,min 1073741824 (x.2+w.2))):∀ {o:List Wd},(∀ x∈o,P x)->∀ x∈insW w o,P x
 | [],_,x,h=>by simp only [insW,List.mem_singleton] at h;rw [h];exact hw
 | y::o,ho,x,h=>by
   simp only [insW] at h
   split at h
   ·rcases List.mem_cons.1 h with rfl | h
    ·exact ho _ (List.mem_cons_self ..)
    ·exact insW_all hw hm (fun z hz=>ho z (List.mem_cons_of_mem _ hz)) x h
   ·split at h
    ·rename_i e
     rcases List.mem_cons.1 h with rfl | h
     ·exact hm y (ho _ (List.mem_cons_self ..)) e
     ·exact ho x (List.mem_cons_of_mem _ h)
    ·rcases List.mem_cons.1 h with rfl | h
     ·exact hw
     ·exact ho x h
theorem normV_ind {P:Wd->Prop} {l:List Wd} (hl:∀ w∈l,P w) (hm:∀ w x,P w->P x->x.1=w.1->P (x.1,min 1073741824 (x.2+w.2))):∀ x∈normV l,P x:=by
 have:∀ (l o:List Wd),(∀ w∈l,P w)->(∀ x∈o,P x)->∀ x∈l.foldl (fun o w=>insW w o) o,P x:=by
  intro l
  induction l with
  | nil=>intro o _ ho;exact ho
  | cons w l ih=>
    intro o hl ho
    exact ih (insW w o) (fun z hz=>hl z (List.mem_cons_of_mem _ hz)) (insW_all (hl w (List.mem_cons_self ..)) (fun x hx e=>hm w x (hl w (List.mem_cons_self ..)) hx e) ho)
 exact this l [] hl fun x hx=>by cases hx
theorem wE_zero {w:Wd}:wE w=0↔tokE w.1=0/\1<=w.2/\w.2<=1073741824:=by
 unfold wE
 split
 ·rename_i h
  split
  ·simp;omega
  ·simp [h];omega
 ·rename_i h;simp [h]
theorem normV_ok {l:List Wd} (h:∀ x∈l,wE x=0):∀ x∈normV l,wE x=0:=by
 refine normV_ind h fun w x hw hx e=>?_
 rw [wE_zero] at hw hx ⊢
 dsimp only
 exact ⟨hx.1,by omega,by omega⟩
theorem normV_key {l:List Wd}:∀ x∈normV l,∃ z∈l,z.1=x.1:=
 normV_ind (P:=fun x=>∃ z∈l,z.1=x.1) (fun w hw=>⟨w,hw,rfl⟩) fun w x _ hx _=>hx
theorem len_insW (w:Wd):∀ o,(insW w o).length<=o.length+1
 | []=>zJ _
 | x::o=>by
   simp only [insW]
   split
   ·simp only [zM];have:=len_insW w o;omega
   ·split <;> simp
theorem len_normV (l:List Wd):(normV l).length<=l.length:=by
 have:∀ (l o:List Wd),(l.foldl (fun o w=>insW w o) o).length<=o.length+l.length:=by
  intro l
  induction l with
  | nil=>intro o;exact zJ _
  | cons w l ih=>intro o;have h1:=ih (insW w o);have h2:=len_insW w o;simp only [List.foldl_cons,zM];omega
 have h:=this l []
 rw [List.length_nil,Nat.zero_add] at h
 exact h
def RisP (o:List Wd):Prop:=o.Pairwise fun a b=>sless a.1 b.1=true
theorem insW_ris {w:Wd}:∀ {o:List Wd},RisP o->RisP (insW w o)
 | [],_=>List.pairwise_singleton ..
 | x::o,h=>by
   have ⟨h1,h2⟩:=List.pairwise_cons.1 h
   simp only [insW]
   split
   ·rename_i hl
    refine List.pairwise_cons.2 ⟨fun y hy=>?_,insW_ris h2⟩
    rcases mem_insW hy with e | ⟨z,hz,e⟩
    ·rw [e];exact hl
    ·rw [<- e];exact h1 z hz
   ·rename_i hl
    split
    ·exact List.pairwise_cons.2 ⟨h1,h2⟩
    ·rename_i hne
     have hlt:sless w.1 x.1=true:=by
      rcases sl_tot x.1 w.1 with e | e | e
      ·exact absurd e hl
      ·exact absurd e hne
      ·exact e
     refine List.pairwise_cons.2 ⟨fun y hy=>?_,h⟩
     rcases List.mem_cons.1 hy with rfl | hy
     ·exact hlt
     ·exact sl_trans hlt (h1 y hy)
theorem normV_ris (l:List Wd):RisP (normV l):=by
 have:∀ (l o:List Wd),RisP o->RisP (l.foldl (fun o w=>insW w o) o):=by
  intro l
  induction l with
  | nil=>intro o h;exact h
  | cons w l ih=>intro o h;exact ih _ (insW_ris h)
 exact this l [] List.Pairwise.nil
theorem getD_lt {l:List Wd} {i:Nat} (h:i<l.length):l.getD i ([],0)=l[i]:=by
 rw [zA,zB h,Option.getD_some]
theorem RisP.at {l:List Wd} (h:RisP l) {i j:Nat} (hij:i<j) (hj:j<l.length):sless (l.getD i ([],0)).1 (l.getD j ([],0)).1=true:=by
 rw [getD_lt (by omega),getD_lt hj]
 exact List.pairwise_iff_getElem.1 h i j (by omega) hj hij
theorem Ris_iff (l:List Wd):Ris l↔RisP l:=by
 constructor
 ·intro h
  refine List.pairwise_iff_getElem.2 fun i j hi hj hij=>?_
  rw [<- getD_lt hi,<- getD_lt hj]
  obtain ⟨k,rfl⟩:∃ k,j=i+1+k:=⟨j-(i+1),by omega⟩
  clear hij
  induction k with
  | zero=>exact h i (by omega)
  | succ k ih=>exact sl_trans (ih (by omega)) (h (i+1+k) (by omega))
 ·intro h i hi
  exact h.at (Nat.lt_succ_self i) hi
theorem errL_of {l:List Wd} (h:∀ x∈l,wE x=0):errL l=0:=errL_none fun j hj=>badW_f.2 (h _ (by rw [getD_lt hj];exact List.getElem_mem _))
theorem errL_normV {l:List Wd} (h:errL l=0):errL (normV l)=0:=errL_of (normV_ok (errL_zero h))
theorem isE_zero {l:List Wd}:isE l=0↔errL l=0/\RisP l/\l.length<=65536:=by
 unfold isE
 split
 ·rename_i h
  split
  ·rename_i h1
   rw [risB_iff,Ris_iff] at h1
   split
   ·simp;omega
   ·simp [h,h1];omega
  ·rename_i h1
   rw [risB_iff,Ris_iff] at h1
   simp [h1]
 ·rename_i h;simp [h]
theorem badK_hit {l:List Wd} {i:Nat} (hi:i<l.length) (hn:∀ j,j<i->badW (l.getD j ([],0))=false) (h:badW (l.getD i ([],0))=true):badK l=i:=by
 unfold badK;rw [findIdx_hit hi hn h]
theorem badK_none {l:List Wd} (hn:∀ j,j<l.length->badW (l.getD j ([],0))=false):badK l = -1:=by
 unfold badK;rw [findIdx_none hn]
theorem badK_spec (l:List Wd):(badK l = -1/\errL l=0)\/∃ i:Nat,i<l.length/\badK l=i/\wE (l.getD i ([],0))=errL l:=by
 unfold badK
 cases h:l.findIdx? badW with
 | none=>
   refine .inl ⟨rfl,errL_none fun j hj=>?_⟩
   rw [getD_lt hj]
   have:=List.findIdx?_eq_none_iff.1 h _ (List.getElem_mem hj)
   simpa using this
 | some i=>
   obtain ⟨hi,h1,h2⟩:=List.findIdx?_eq_some_iff_getElem.1 h
   refine .inr ⟨i,hi,rfl,(orV_hit hi (fun j hj=>?_) (by rw [getD_lt hi];exact h1)).symm⟩
   rw [getD_lt (by omega)]
   simpa using h2 j hj
theorem step_all {P:Nat->Prop} {i:Nat} (h:∀ j,j<i->P j) (hi:P i):∀ j,j<i+1->P j:=fun j hj=>by
 rcases Nat.lt_succ_iff_lt_or_eq.1 hj with h1 | rfl
 ·exact h j h1
 ·exact hi
theorem isE_7 {l:List Wd} {i:Nat} (he:errL l=0) (h0:0<(i:Int)) (hi:i<l.length) (h:(!sless (l.getD ((i:Int)-1).toNat ([],0)).1 (l.getD i ([],0)).1)=true):7=isE l:=by
 unfold isE
 rw [if_pos he,if_neg]
 rw [risB_iff]
 intro hr
 obtain ⟨k,rfl⟩:∃ k,i=k+1:=⟨i-1,by omega⟩
 rw [show (((k+1:Nat):Int)-1).toNat=k by omega] at h
 have:=hr k hi
 unfold ltW at this
 rw [this] at h
 cases h
theorem isE_end {l:List Wd} (he:errL l=0) (h:∀ j,j+1<l.length->ltW (l.getD j ([],0)) (l.getD (j+1) ([],0))=true):isE l=if 65536<l.length then 6 else 0:=by
 unfold isE
 rw [if_pos he,if_pos ((risB_iff l).2 h)]
theorem ris_step {l:List Wd} {i:Nat} (h:∀ j,j+1<i->ltW (l.getD j ([],0)) (l.getD (j+1) ([],0))=true) (hs:0<(i:Int)->¬ (!sless (l.getD ((i:Int)-1).toNat ([],0)).1 (l.getD i ([],0)).1)=true):∀ j,j+1<i+1->ltW (l.getD j ([],0)) (l.getD (j+1) ([],0))=true:=fun j hj=>by
 rcases Nat.lt_succ_iff_lt_or_eq.1 hj with h1 | rfl
 ·exact h j h1
 ·have:=hs (by omega)
  rw [show (((j+1:Nat):Int)-1).toNat=j by omega] at this
  unfold ltW
  simpa using this
theorem nor_big {l:List Wd} (he:errL l=0) (h:65536<((normV l).length:Int)):norO l=[]/\6=norE l:=by
 have e:norE l=6:=by unfold norE;rw [if_pos he,if_pos (by omega)]
 unfold norO;rw [e];exact ⟨rfl,rfl⟩
theorem nor_fine {l:List Wd} (he:errL l=0) (h:¬ 65536<((normV l).length:Int)):normV l=norO l/\0=norE l:=by
 have e:norE l=0:=by unfold norE;rw [if_pos he,if_neg (by omega)]
 unfold norO;rw [e];exact ⟨rfl,rfl⟩
theorem nor_bad {l:List Wd} (he:¬ errL l=0):norO l=[]/\errL l=norE l:=by
 have e:norE l=errL l:=by unfold norE;rw [if_neg he]
 unfold norO;rw [e,if_neg he];exact ⟨rfl,rfl⟩
end Go.EA
end
section
namespace Go.EA
open F
def preB (a b:List UInt8):Bool:=decide (b.length<=a.length/\a.take b.length=b)
def posN (l:List Wd) (s:List UInt8):Nat:=(l.takeWhile fun w=>sless w.1 s).length
def endN (l:List Wd) (s:List UInt8):Nat:=posN l s+((l.drop (posN l s)).takeWhile fun w=>preB w.1 s).length
end Go.EA
end
section
namespace Go.EA
open F
theorem nor_zero {l:List Wd} (h:norE l=0):norO l=normV l/\errL l=0/\isE (normV l)=0:=by
 have e:norO l=normV l:=by unfold norO;rw [if_pos h]
 unfold norE at h
 split at h
 ·rename_i h1
  split at h
  ·cases h
  ·exact ⟨e,h1,isE_zero.2 ⟨errL_normV h1,normV_ris l,by omega⟩⟩
 ·rename_i h1;exact absurd h h1
theorem SmW.norm {l:List Wd} {n:Nat} (h:∀ x∈l,x.1.length<=n):∀ x∈normV l,x.1.length<=n:=fun x hx=>by
 obtain ⟨z,hz,e⟩:=normV_key x hx
 rw [<- e];exact h z hz
theorem insW_at {w:Wd}:∀ {o:List Wd} {n:Nat},(∀ j,j<n->sless (o.getD j ([],0)).1 w.1=true)->n<o.length->(o.getD n ([],0)).1=w.1->insW w o=o.set n ((o.getD n ([],0)).1,min 1073741824 ((o.getD n ([],0)).2+w.2))
 | [],_,_,h,_=>absurd h (zS _)
 | x::o,0,_,_,e=>by
   have e:x.1=w.1:=e
   rw [insW,if_neg (by rw [e,sl_irr];decide),if_pos e]
   rfl
 | x::o,n+1,hj,hn,e=>by
   rw [insW,if_pos (show sless x.1 w.1=true from hj 0 (Nat.succ_pos n)),insW_at (o:=o) (n:=n) (fun j h=>hj (j+1) (Nat.succ_lt_succ h)) (Nat.lt_of_succ_lt_succ hn) e]
   rfl
theorem insW_in {w:Wd}:∀ {o:List Wd} {n:Nat},(∀ j,j<n->sless (o.getD j ([],0)).1 w.1=true)->n<=o.length->(n<o.length->sless (o.getD n ([],0)).1 w.1=false/\(o.getD n ([],0)).1≠w.1)->insW w o=o.take n++[w]++o.drop n
 | [],n,_,h,_=>by
   have:n=0:=by simpa using h
   subst this;rfl
 | x::o,0,_,_,e=>by
   obtain ⟨e1,e2⟩:=e (Nat.succ_pos _)
   have e1:sless x.1 w.1=false:=e1
   have e2:x.1≠w.1:=e2
   rw [insW,if_neg (by rw [e1];decide),if_neg e2]
   rfl
 | x::o,n+1,hj,hn,e=>by
   rw [insW,if_pos (show sless x.1 w.1=true from hj 0 (Nat.succ_pos n)),insW_in (o:=o) (n:=n) (fun j h=>hj (j+1) (Nat.succ_lt_succ h)) (Nat.le_of_succ_le_succ hn) fun h=>e (Nat.succ_lt_succ h)]
   rfl
theorem norm_more {l:List Wd} {i:Nat} (hi:i<l.length):normV (l.take (i+1))=insW (l.getD i ([],0)) (normV (l.take i)):=by
 rw [List.take_add_one,zB hi,Option.toList_some,<- getD_lt hi,normV_snoc]
end Go.EA
end
