/- Texts of the core, one behind the other. Conditions: none. -/
import Derived.Test.YtpgjilomblpcpaaDoorESt3
import Derived.Test.YtpgjilomblpcpaaDoorEMean3
import Derived.Test.YtpgjilomblpcpaaDoorEK9
set_option linter.unusedVariables false
set_option linter.unusedSimpArgs false
section
namespace Go.EA
open F
def wE (w:Wd):Int:=if tokE w.1=0 then (if w.2 < 1∨1073741824 < w.2 then 2 else 0) else tokE w.1
def badW (w:Wd):Bool:=!decide (wE w=0)
def badK (l:List Wd):Int:=match l.findIdx? badW with | some i=>i | none => -1
def errL (l:List Wd):Int:=orV (l.map wE)
def SmW (l:List Wd):Prop:=∀ x∈l,x.1.length≤1099511627776
theorem SmW.at {l:List Wd} (h:SmW l) (i:Nat):(l.getD i ([],0)).1.length≤1099511627776:=by
  rw [List.getD_eq_getElem?_getD]
  cases hi:l[i]? with
  | none=>exact Nat.zero_le _
  | some x=>exact h x (List.mem_of_getElem? hi)
theorem badW_t {w:Wd}:badW w=true↔¬ wE w=0:=by unfold badW;simp
theorem badW_f {w:Wd}:badW w=false↔wE w=0:=by unfold badW;simp
theorem findIdx_hit {α:Type} {p:α→Bool}:∀ {l:List α} {d:α} {i:Nat},i < l.length→(∀ j,j < i→p (l.getD j d)=false)→p (l.getD i d)=true→l.findIdx? p=some i
  | [],_,_,h,_,_=>by cases h
  | x::l,d,0,_,_,h=>by rw [List.findIdx?_cons];rw [show p x=true from h];rfl
  | x::l,d,i+1,hi,hn,h=>by
    rw [List.findIdx?_cons,show p x=false from hn 0 (Nat.succ_pos i),findIdx_hit (l:=l) (d:=d) (i:=i) (Nat.lt_of_succ_lt_succ hi) (fun j hj=>hn (j+1) (Nat.succ_lt_succ hj)) h]
    rfl
theorem findIdx_none {α:Type} {p:α→Bool}:∀ {l:List α} {d:α},(∀ j,j < l.length→p (l.getD j d)=false)→l.findIdx? p=none
  | [],_,_=>rfl
  | x::l,d,hn=>by
    rw [List.findIdx?_cons,show p x=false from hn 0 (Nat.succ_pos _),findIdx_none (l:=l) (d:=d) fun j hj=>hn (j+1) (Nat.succ_lt_succ hj)]
    rfl
theorem orV_hit:∀ {l:List Wd} {i:Nat},i < l.length→(∀ j,j < i→badW (l.getD j ([],0))=false)→badW (l.getD i ([],0))=true→errL l=wE (l.getD i ([],0))
  | [],_,h,_,_=>by cases h
  | x::l,0,_,_,h=>by
    have h1:¬ wE x=0:=badW_t.1 h
    simp [errL,orV,h1]
  | x::l,i+1,hi,hn,h=>by
    have h0:wE x=0:=badW_f.1 (hn 0 (Nat.succ_pos i))
    have:=orV_hit (l:=l) (i:=i) (Nat.lt_of_succ_lt_succ hi) (fun j hj=>hn (j+1) (Nat.succ_lt_succ hj)) h
    simpa [errL,orV,h0] using this
theorem errL_none {l:List Wd} (hn:∀ j,j < l.length→badW (l.getD j ([],0))=false):errL l=0:=by
  refine (orV_none ?_).symm
  rw [List.all_eq_true]
  intro x hx
  obtain ⟨w,hw,rfl⟩:=List.mem_map.1 hx
  obtain ⟨j,hj,rfl⟩:=List.mem_iff_getElem.1 hw
  have:=hn j hj
  rw [List.getD_eq_getElem?_getD,List.getElem?_eq_getElem hj] at this
  simpa using badW_f.1 this
theorem errL_zero {l:List Wd} (h:errL l=0):∀ x∈l,wE x=0:=by
  intro x hx
  unfold errL orV at h
  cases hf:(l.map wE).find? (fun x=>!decide (x=0)) with
  | none=>
    have:=List.find?_eq_none.1 hf (wE x) (List.mem_map_of_mem hx)
    simpa using this
  | some e=>
    rw [hf] at h
    have:=List.find?_some hf
    simp only [Option.getD_some] at h
    rw [h] at this
    simp at this
def Ris (l:List Wd):Prop:=∀ i,i+1 < l.length→ltW (l.getD i ([],0)) (l.getD (i+1) ([],0))=true
def risB (l:List Wd):Bool:=(List.range l.length).all fun i=>decide (i+1 < l.length→ltW (l.getD i ([],0)) (l.getD (i+1) ([],0))=true)
theorem risB_iff (l:List Wd):risB l=true↔Ris l:=by
  simp only [risB,List.all_eq_true,List.mem_range,decide_eq_true_eq]
  exact ⟨fun h i hi=>h i (by omega) hi,fun h i _ hi=>h i hi⟩
def isE (l:List Wd):Int:=if errL l=0 then (if risB l=true then (if 65536 < l.length then 6 else 0) else 7) else errL l
def lenL (l:List Wd):Int:=(l.map fun w=>(w.1.length:Int)).sum
def sameW (a b:List Wd):Bool:=decide (a=b)
def insW (w:Wd):List Wd→List Wd
  | []=>[w]
  | x::r=>if sless x.1 w.1=true then x::insW w r else if x.1=w.1 then (x.1,min 1073741824 (x.2+w.2))::r else w::x::r
def normV (l:List Wd):List Wd:=l.foldl (fun o w=>insW w o) []
def norE (l:List Wd):Int:=if errL l=0 then (if 65536 < (normV l).length then 6 else 0) else errL l
def norO (l:List Wd):List Wd:=if norE l=0 then normV l else []
theorem insW_comm0 {p q:List UInt8} {m n:Int} (hm:0≤m) (hn:0≤n):∀ o,insW (p,m) (insW (q,n) o)=insW (q,n) (insW (p,m) o)
  | []=>by
    have nn:∀ {p q:List UInt8},sless p q=true→q≠p:=fun h e=>by rw [e,sl_irr] at h;cases h
    rcases sl_tot p q with h | h | h
    · simp [insW,h,sl_asy h,nn h]
    · subst h
      simp [insW,sl_irr];omega
    · simp [insW,h,sl_asy h,nn h]
  | (s,k)::o=>by
    have ih:=insW_comm0 (p:=p) (q:=q) hm hn o
    have nn:∀ {p q:List UInt8},sless p q=true→q≠p:=fun h e=>by rw [e,sl_irr] at h;cases h
    rcases sl_tot s p with h1 | h1 | h1
    · rcases sl_tot s q with h2 | h2 | h2
      · simp [insW,h1,h2,ih]
      · subst h2
        simp [insW,h1,sl_irr]
      · simp [insW,h1,sl_asy h2,nn h2,sl_trans h2 h1]
    · subst h1
      rcases sl_tot s q with h2 | h2 | h2
      · simp [insW,h2,sl_irr]
      · subst h2
        simp [insW,sl_irr];omega
      · simp [insW,h2,sl_asy h2,nn h2,sl_irr]
    · rcases sl_tot s q with h2 | h2 | h2
      · simp [insW,h2,sl_asy h1,nn h1,sl_trans h1 h2]
      · subst h2
        simp [insW,h1,sl_asy h1,nn h1,sl_irr]
      · rcases sl_tot p q with h | h | h
        · simp [insW,h,sl_asy h,nn h,sl_asy h1,nn h1,sl_asy h2,nn h2]
        · subst h
          simp [insW,sl_irr,sl_asy h1,nn h1];omega
        · simp [insW,h,sl_asy h,nn h,sl_asy h1,nn h1,sl_asy h2,nn h2]
theorem insW_comm {a b:Wd} (ha:0≤a.2) (hb:0≤b.2) (o:List Wd):insW a (insW b o)=insW b (insW a o):=insW_comm0 ha hb o
def Nn (l:List Wd):Prop:=∀ x∈l,0≤x.2
theorem normV_perm {l y:List Wd} (h:l.Perm y) (hn:Nn l):normV l=normV y:=by
  unfold normV
  exact List.Perm.foldl_eq' h (fun a ha b hb z=>insW_comm (hn b hb) (hn a ha) z) []
theorem normV_snoc (l:List Wd) (w:Wd):normV (l++[w])=insW w (normV l):=by
  unfold normV;rw [List.foldl_append];rfl
theorem mem_insW {w x:Wd}:∀ {o:List Wd},x∈insW w o→x.1=w.1∨∃ z∈o,z.1=x.1
  | [],h=>by simp only [insW,List.mem_singleton] at h;exact .inl (by rw [h])
  | y::o,h=>by
    simp only [insW] at h
    split at h
    · rcases List.mem_cons.1 h with rfl | h
      · exact .inr ⟨_,List.mem_cons_self ..,rfl⟩
      · rcases mem_insW h with h | ⟨z,hz,e⟩
        · exact .inl h
        · exact .inr ⟨z,List.mem_cons_of_mem _ hz,e⟩
    · split at h
      · rcases List.mem_cons.1 h with rfl | h
        · exact .inr ⟨_,List.mem_cons_self ..,rfl⟩
        · exact .inr ⟨x,List.mem_cons_of_mem _ h,rfl⟩
      · rcases List.mem_cons.1 h with rfl | h
        · exact .inl rfl
        · exact .inr ⟨x,h,rfl⟩
theorem insW_all {P:Wd→Prop} {w:Wd} (hw:P w) (hm:∀ x,P x→x.1=w.1→P (x.1,min 1073741824 (x.2+w.2))):∀ {o:List Wd},(∀ x∈o,P x)→∀ x∈insW w o,P x
  | [],_,x,h=>by simp only [insW,List.mem_singleton] at h;rw [h];exact hw
  | y::o,ho,x,h=>by
    simp only [insW] at h
    split at h
    · rcases List.mem_cons.1 h with rfl | h
      · exact ho _ (List.mem_cons_self ..)
      · exact insW_all hw hm (fun z hz=>ho z (List.mem_cons_of_mem _ hz)) x h
    · split at h
      · rename_i e
        rcases List.mem_cons.1 h with rfl | h
        · exact hm y (ho _ (List.mem_cons_self ..)) e
        · exact ho x (List.mem_cons_of_mem _ h)
      · rcases List.mem_cons.1 h with rfl | h
        · exact hw
        · exact ho x h
theorem normV_ind {P:Wd→Prop} {l:List Wd} (hl:∀ w∈l,P w) (hm:∀ w x,P w→P x→x.1=w.1→P (x.1,min 1073741824 (x.2+w.2))):∀ x∈normV l,P x:=by
  have:∀ (l o:List Wd),(∀ w∈l,P w)→(∀ x∈o,P x)→∀ x∈l.foldl (fun o w=>insW w o) o,P x:=by
    intro l
    induction l with
    | nil=>intro o _ ho;exact ho
    | cons w l ih=>
      intro o hl ho
      exact ih (insW w o) (fun z hz=>hl z (List.mem_cons_of_mem _ hz)) (insW_all (hl w (List.mem_cons_self ..)) (fun x hx e=>hm w x (hl w (List.mem_cons_self ..)) hx e) ho)
  exact this l [] hl fun x hx=>by cases hx
theorem wE_zero {w:Wd}:wE w=0↔tokE w.1=0∧1≤w.2∧w.2≤1073741824:=by
  unfold wE
  split
  · rename_i h
    split
    · simp;omega
    · simp [h];omega
  · rename_i h;simp [h]
theorem normV_ok {l:List Wd} (h:∀ x∈l,wE x=0):∀ x∈normV l,wE x=0:=by
  refine normV_ind h fun w x hw hx e=>?_
  rw [wE_zero] at hw hx ⊢
  dsimp only
  exact ⟨hx.1,by omega,by omega⟩
theorem normV_key {l:List Wd}:∀ x∈normV l,∃ z∈l,z.1=x.1:=
  normV_ind (P:=fun x=>∃ z∈l,z.1=x.1) (fun w hw=>⟨w,hw,rfl⟩) fun w x _ hx _=>hx
theorem len_insW (w:Wd):∀ o,(insW w o).length≤o.length+1
  | []=>Nat.le_refl _
  | x::o=>by
    simp only [insW]
    split
    · simp only [List.length_cons];have:=len_insW w o;omega
    · split <;> simp
theorem len_normV (l:List Wd):(normV l).length≤l.length:=by
  have:∀ (l o:List Wd),(l.foldl (fun o w=>insW w o) o).length≤o.length+l.length:=by
    intro l
    induction l with
    | nil=>intro o;exact Nat.le_refl _
    | cons w l ih=>intro o;have h1:=ih (insW w o);have h2:=len_insW w o;simp only [List.foldl_cons,List.length_cons];omega
  have h:=this l []
  rw [List.length_nil,Nat.zero_add] at h
  exact h
def RisP (o:List Wd):Prop:=o.Pairwise fun a b=>sless a.1 b.1=true
theorem insW_ris {w:Wd}:∀ {o:List Wd},RisP o→RisP (insW w o)
  | [],_=>List.pairwise_singleton ..
  | x::o,h=>by
    have ⟨h1,h2⟩:=List.pairwise_cons.1 h
    simp only [insW]
    split
    · rename_i hl
      refine List.pairwise_cons.2 ⟨fun y hy=>?_,insW_ris h2⟩
      rcases mem_insW hy with e | ⟨z,hz,e⟩
      · rw [e];exact hl
      · rw [← e];exact h1 z hz
    · rename_i hl
      split
      · exact List.pairwise_cons.2 ⟨h1,h2⟩
      · rename_i hne
        have hlt:sless w.1 x.1=true:=by
          rcases sl_tot x.1 w.1 with e | e | e
          · exact absurd e hl
          · exact absurd e hne
          · exact e
        refine List.pairwise_cons.2 ⟨fun y hy=>?_,h⟩
        rcases List.mem_cons.1 hy with rfl | hy
        · exact hlt
        · exact sl_trans hlt (h1 y hy)
theorem normV_ris (l:List Wd):RisP (normV l):=by
  have:∀ (l o:List Wd),RisP o→RisP (l.foldl (fun o w=>insW w o) o):=by
    intro l
    induction l with
    | nil=>intro o h;exact h
    | cons w l ih=>intro o h;exact ih _ (insW_ris h)
  exact this l [] List.Pairwise.nil
theorem getD_lt {l:List Wd} {i:Nat} (h:i < l.length):l.getD i ([],0)=l[i]:=by
  rw [List.getD_eq_getElem?_getD,List.getElem?_eq_getElem h,Option.getD_some]
theorem RisP.at {l:List Wd} (h:RisP l) {i j:Nat} (hij:i < j) (hj:j < l.length):sless (l.getD i ([],0)).1 (l.getD j ([],0)).1=true:=by
  rw [getD_lt (by omega),getD_lt hj]
  exact List.pairwise_iff_getElem.1 h i j (by omega) hj hij
theorem Ris_iff (l:List Wd):Ris l↔RisP l:=by
  constructor
  · intro h
    refine List.pairwise_iff_getElem.2 fun i j hi hj hij=>?_
    rw [← getD_lt hi,← getD_lt hj]
    obtain ⟨k,rfl⟩:∃ k,j=i+1+k:=⟨j - (i+1),by omega⟩
    clear hij
    induction k with
    | zero=>exact h i (by omega)
    | succ k ih=>exact sl_trans (ih (by omega)) (h (i+1+k) (by omega))
  · intro h i hi
    exact h.at (Nat.lt_succ_self i) hi
theorem insW_end {w:Wd}:∀ {o:List Wd},RisP o→(∀ x∈o,sless w.1 x.1=false)→(o.length=0∨(o.getD (o.length - 1) ([],0)).1≠w.1)→insW w o=o++[w]
  | [],_,_,_=>rfl
  | x::o,h,hw,hl=>by
    have ⟨h1,h2⟩:=List.pairwise_cons.1 h
    simp only [insW]
    have h0:=hw x (List.mem_cons_self ..)
    have hlt:sless x.1 w.1=true:=by
      rcases sl_tot x.1 w.1 with e | e | e
      · exact e
      · exfalso
        cases o with
        | nil => rcases hl with hl | hl
                 · cases hl
                 · exact hl e
        | cons y o=>
          have h3:=h1 y (List.mem_cons_self ..)
          rw [e,hw y (List.mem_cons_of_mem _ (List.mem_cons_self ..))] at h3
          cases h3
      · rw [h0] at e;cases e
    rw [if_pos hlt,insW_end h2 (fun z hz=>hw z (List.mem_cons_of_mem _ hz)) ?_]
    · rfl
    · cases o with
      | nil=>exact .inl rfl
      | cons y o=>exact .inr (by simpa using hl)
theorem insW_set {w:Wd}:∀ {o:List Wd} {n:Nat},RisP o→o.length=n+1→(o.getD n ([],0)).1=w.1→insW w o=o.set n ((o.getD n ([],0)).1,min 1073741824 ((o.getD n ([],0)).2+w.2))
  | [],_,_,h,_=>by cases h
  | [x],0,_,_,e=>by
    have e:x.1=w.1:=e
    simp only [insW]
    rw [if_neg (by rw [e,sl_irr];decide),if_pos e]
    rfl
  | x::y::o,0,_,h,_=>by simp at h
  | [x],n+1,_,h,_=>by simp at h
  | x::y::o,n+1,h,hl,e=>by
    have ⟨h1,h2⟩:=List.pairwise_cons.1 h
    have hl':(y::o).length=n+1:=by simpa using hl
    have e':((y::o).getD n ([],0)).1=w.1:=e
    have hlt:sless x.1 w.1=true:=by
      rw [← e']
      refine h1 _ ?_
      rw [getD_lt (by omega)]
      exact List.getElem_mem _
    rw [insW,if_pos hlt,insW_set h2 hl' e']
    rfl
theorem norm_last {y:List Wd} (hs:SrtR ltW ([],0) y 0 y.length) {i:Nat} (hi:i < y.length):∀ x∈normV (y.take i),sless (y.getD i ([],0)).1 x.1=false:=by
  intro x hx
  obtain ⟨z,hz,e⟩:=normV_key x hx
  obtain ⟨p,hp,rfl⟩:=List.mem_iff_getElem.1 hz
  rw [List.length_take] at hp
  have:=hs p i (Nat.zero_le _) (by omega) hi
  rw [← e]
  rw [getD_lt (l:=y) (i:=p) (by omega)] at this
  simpa [ltW] using this
theorem norm_app {y:List Wd} (hs:SrtR ltW ([],0) y 0 y.length) {i:Nat} (hi:i < y.length) (h:(normV (y.take i)).length=0∨((normV (y.take i)).getD ((normV (y.take i)).length - 1) ([],0)).1≠(y.getD i ([],0)).1):normV (y.take i)++[y.getD i ([],0)]=normV (y.take (i+1)):=by
  rw [List.take_add_one,List.getElem?_eq_getElem hi,Option.toList_some,← getD_lt hi,normV_snoc]
  exact (insW_end (normV_ris _) (norm_last hs hi) h).symm
theorem norm_set {y:List Wd} {i n:Nat} (hi:i < y.length) (hn:(normV (y.take i)).length=n+1) (h:((normV (y.take i)).getD n ([],0)).1=(y.getD i ([],0)).1):(normV (y.take i)).set n (((normV (y.take i)).getD n ([],0)).1,min 1073741824 (((normV (y.take i)).getD n ([],0)).2+(y.getD i ([],0)).2))=normV (y.take (i+1)):=by
  rw [List.take_add_one,List.getElem?_eq_getElem hi,Option.toList_some,← getD_lt hi,normV_snoc]
  exact (insW_set (normV_ris _) hn h).symm
theorem isE_zero {l:List Wd}:isE l=0↔errL l=0∧RisP l∧l.length≤65536:=by
  unfold isE
  split
  · rename_i h
    split
    · rename_i h1
      rw [risB_iff,Ris_iff] at h1
      split
      · simp;omega
      · simp [h,h1];omega
    · rename_i h1
      rw [risB_iff,Ris_iff] at h1
      simp [h1]
  · rename_i h;simp [h]
theorem min_if (a:Int):(if 1073741824 < a then 1073741824 else a)=min 1073741824 a:=by split <;> omega
theorem badK_hit {l:List Wd} {i:Nat} (hi:i < l.length) (hn:∀ j,j < i→badW (l.getD j ([],0))=false) (h:badW (l.getD i ([],0))=true):badK l=i:=by
  unfold badK;rw [findIdx_hit hi hn h]
theorem badK_none {l:List Wd} (hn:∀ j,j < l.length→badW (l.getD j ([],0))=false):badK l = -1:=by
  unfold badK;rw [findIdx_none hn]
theorem badK_spec (l:List Wd):(badK l = -1∧errL l=0)∨∃ i:Nat,i < l.length∧badK l=i∧wE (l.getD i ([],0))=errL l:=by
  unfold badK
  cases h:l.findIdx? badW with
  | none=>
    refine .inl ⟨rfl,errL_none fun j hj=>?_⟩
    rw [getD_lt hj]
    have:=List.findIdx?_eq_none_iff.1 h _ (List.getElem_mem hj)
    simpa using this
  | some i=>
    obtain ⟨hi,h1,h2⟩:=List.findIdx?_eq_some_iff_getElem.1 h
    refine .inr ⟨i,hi,rfl,(orV_hit hi (fun j hj=>?_) (by rw [getD_lt hi];exact h1)).symm⟩
    rw [getD_lt (by omega)]
    simpa using h2 j hj
theorem step_all {P:Nat→Prop} {i:Nat} (h:∀ j,j < i→P j) (hi:P i):∀ j,j < i+1→P j:=fun j hj=>by
  rcases Nat.lt_succ_iff_lt_or_eq.1 hj with h1 | rfl
  · exact h j h1
  · exact hi
theorem isE_7 {l:List Wd} {i:Nat} (he:errL l=0) (h0:0 < (i:Int)) (hi:i < l.length) (h:(!sless (l.getD ((i:Int) - 1).toNat ([],0)).1 (l.getD i ([],0)).1)=true):7=isE l:=by
  unfold isE
  rw [if_pos he,if_neg]
  rw [risB_iff]
  intro hr
  obtain ⟨k,rfl⟩:∃ k,i=k+1:=⟨i - 1,by omega⟩
  rw [show (((k+1:Nat):Int) - 1).toNat=k by omega] at h
  have:=hr k hi
  unfold ltW at this
  rw [this] at h
  cases h
theorem isE_end {l:List Wd} (he:errL l=0) (h:∀ j,j+1 < l.length→ltW (l.getD j ([],0)) (l.getD (j+1) ([],0))=true):isE l=if 65536 < l.length then 6 else 0:=by
  unfold isE
  rw [if_pos he,if_pos ((risB_iff l).2 h)]
theorem ris_step {l:List Wd} {i:Nat} (h:∀ j,j+1 < i→ltW (l.getD j ([],0)) (l.getD (j+1) ([],0))=true) (hs:0 < (i:Int)→¬ (!sless (l.getD ((i:Int) - 1).toNat ([],0)).1 (l.getD i ([],0)).1)=true):∀ j,j+1 < i+1→ltW (l.getD j ([],0)) (l.getD (j+1) ([],0))=true:=fun j hj=>by
  rcases Nat.lt_succ_iff_lt_or_eq.1 hj with h1 | rfl
  · exact h j h1
  · have:=hs (by omega)
    rw [show (((j+1:Nat):Int) - 1).toNat=j by omega] at this
    unfold ltW
    simpa using this
theorem lenL_step {l:List Wd} {i:Nat} (h:i < l.length):lenL (l.take i)+((l.getD i ([],0)).1.length:Int)=lenL (l.take (i+1)):=by
  unfold lenL
  rw [List.take_add_one,List.getElem?_eq_getElem h,Option.toList_some,← getD_lt h,List.map_append,List.sum_append]
  simp
theorem lenL_le {l:List Wd} {b:Nat} (h:∀ x∈l,x.1.length≤b):0≤lenL l∧lenL l≤l.length*b:=by
  unfold lenL
  induction l with
  | nil=>simp
  | cons x l ih=>
    have h1:=h x (List.mem_cons_self ..)
    have h2:=ih fun y hy=>h y (List.mem_cons_of_mem _ hy)
    simp only [List.map_cons,List.sum_cons,List.length_cons]
    rw [Int.natCast_add,Int.add_mul]
    omega
theorem same_wd (x y:Wd):sameS (List.take 2 (List.drop 0 ((Ty.pair .str (.int .i64)).cells x))) (List.take 2 (List.drop 0 ((Ty.pair .str (.int .i64)).cells y)))=decide (x=y):=by
  obtain ⟨a,c⟩:=x
  obtain ⟨a',c'⟩:=y
  rw [Bool.eq_iff_iff]
  simp [Ty.cells,sameS,SL.i?,SL.b?]
theorem same_all {a b:List Wd} (hl:(a.length:Int)=b.length) (h:∀ j,j < a.length→a.getD j ([],0)=b.getD j ([],0)):a=b:=by
  refine List.ext_getElem (by omega) fun i h1 h2=>?_
  have:=h i h1
  rwa [getD_lt h1,getD_lt h2] at this
theorem nor_big {l:List Wd} (he:errL l=0) (h:65536 < ((normV l).length:Int)):norO l=[]∧6=norE l:=by
  have e:norE l=6:=by unfold norE;rw [if_pos he,if_pos (by omega)]
  unfold norO;rw [e];exact ⟨rfl,rfl⟩
theorem nor_fine {l:List Wd} (he:errL l=0) (h:¬ 65536 < ((normV l).length:Int)):normV l=norO l∧0=norE l:=by
  have e:norE l=0:=by unfold norE;rw [if_pos he,if_neg (by omega)]
  unfold norO;rw [e];exact ⟨rfl,rfl⟩
theorem nor_bad {l:List Wd} (he:¬ errL l=0):norO l=[]∧errL l=norE l:=by
  have e:norE l=errL l:=by unfold norE;rw [if_neg he]
  unfold norO;rw [e,if_neg he];exact ⟨rfl,rfl⟩
end Go.EA
end
section
namespace Go.EA
open F
def preB (a b:List UInt8):Bool:=decide (b.length≤a.length∧a.take b.length=b)
def posN (l:List Wd) (s:List UInt8):Nat:=(l.takeWhile fun w=>sless w.1 s).length
def posW (l:List Wd) (s:List UInt8):Int:=posN l s
def isW (l:List Wd) (s:List UInt8):Bool:=decide (posN l s < l.length∧(l.getD (posN l s) ([],0)).1=s)
def fndV (l:List Wd) (s:List UInt8):Int:=if isE l=0 then ((l.find? fun w=>decide (w.1=s)).map (·.2)).getD 0 else 0
def fndE (l:List Wd) (s:List UInt8):Int:=if isE l=0 then (if (l.find? fun w=>decide (w.1=s)).isSome then 0 else 10) else isE l
def begA (l:List Wd) (s:List UInt8):Int:=if isE l=0 then posN l s else 0
def endN (l:List Wd) (s:List UInt8):Nat:=posN l s+((l.drop (posN l s)).takeWhile fun w=>preB w.1 s).length
def begB (l:List Wd) (s:List UInt8):Int:=if isE l=0 then endN l s else 0
theorem tw_len {α:Type} {p:α→Bool} {d:α}:∀ {l:List α} {a:Nat},a≤l.length→(∀ k,k < a→p (l.getD k d)=true)→(a < l.length→p (l.getD a d)=false)→(l.takeWhile p).length=a
  | [],0,_,_,_=>rfl
  | [],a+1,h,_,_=>absurd h (by simp)
  | x::l,0,_,_,h=>by rw [List.takeWhile_cons,show p x=false from h (Nat.succ_pos _)];rfl
  | x::l,a+1,h,hk,hn=>by
    rw [List.takeWhile_cons,show p x=true from hk 0 (Nat.succ_pos a),if_pos rfl,List.length_cons,tw_len (l:=l) (a:=a) (d:=d) (Nat.le_of_succ_le_succ h) (fun k h1=>hk (k+1) (Nat.succ_lt_succ h1)) fun h1=>hn (Nat.succ_lt_succ h1)]
theorem tw_spec {α:Type} (p:α→Bool) (d:α):∀ (l:List α),(l.takeWhile p).length≤l.length∧(∀ k,k < (l.takeWhile p).length→p (l.getD k d)=true)∧((l.takeWhile p).length < l.length→p (l.getD (l.takeWhile p).length d)=false)
  | []=>⟨Nat.le_refl _,fun _ h=>absurd h (Nat.not_lt_zero _),fun h=>absurd h (Nat.lt_irrefl _)⟩
  | x::l=>by
    obtain ⟨h1,h2,h3⟩:=tw_spec p d l
    rw [List.takeWhile_cons]
    cases hx:p x with
    | false=>exact ⟨Nat.zero_le _,fun _ h=>absurd h (Nat.not_lt_zero _),fun _=>hx⟩
    | true=>
      rw [if_pos rfl,List.length_cons]
      refine ⟨Nat.succ_le_succ h1,fun k hk=>?_,fun h=>h3 (Nat.lt_of_succ_lt_succ h)⟩
      cases k with
      | zero=>exact hx
      | succ k=>exact h2 k (Nat.lt_of_succ_lt_succ hk)
theorem posN_le (l:List Wd) (s:List UInt8):posN l s≤l.length:=(tw_spec _ ([],0) l).1
theorem posN_lt {l:List Wd} {s:List UInt8} {k:Nat} (h:k < posN l s):sless (l.getD k ([],0)).1 s=true:=(tw_spec (fun w:Wd=>sless w.1 s) ([],0) l).2.1 k h
theorem posN_at {l:List Wd} {s:List UInt8} (h:posN l s < l.length):sless (l.getD (posN l s) ([],0)).1 s=false:=(tw_spec (fun w:Wd=>sless w.1 s) ([],0) l).2.2 h
theorem posN_eq {l:List Wd} {s:List UInt8} {a:Nat} (h:a≤l.length) (hk:∀ k,k < a→sless (l.getD k ([],0)).1 s=true) (hn:a < l.length→sless (l.getD a ([],0)).1 s=false):posN l s=a:=
  tw_len (p:=fun w:Wd=>sless w.1 s) (d:=([],0)) h hk hn
theorem find_hit {l:List Wd} {s:List UInt8} {i:Nat} (hi:i < l.length) (hn:∀ j,j < i→(l.getD j ([],0)).1≠s) (h:(l.getD i ([],0)).1=s):l.find? (fun w=>decide (w.1=s))=some (l.getD i ([],0)):=by
  rw [List.find?_eq_some_iff_getElem]
  refine ⟨by simpa using h,i,hi,(getD_lt hi).symm,fun j hj=>?_⟩
  have:=hn j hj
  rw [getD_lt (by omega)] at this
  simpa using this
theorem find_no {l:List Wd} {s:List UInt8} (hn:∀ j,j < l.length→(l.getD j ([],0)).1≠s):l.find? (fun w=>decide (w.1=s))=none:=by
  rw [List.find?_eq_none]
  intro w hw
  obtain ⟨j,hj,rfl⟩:=List.mem_iff_getElem.1 hw
  have:=hn j hj
  rw [getD_lt hj] at this
  simpa using this
theorem find_is {l:List Wd} {s:List UInt8} (h:isW l s=true):posN l s < l.length∧l.find? (fun w=>decide (w.1=s))=some (l.getD (posN l s) ([],0)):=by
  have h:=of_decide_eq_true h
  exact ⟨h.1,find_hit h.1 (fun j hj=>sl_ne (posN_lt hj)) h.2⟩
theorem find_not {l:List Wd} {s:List UInt8} (hr:RisP l) (h:isW l s=false):l.find? (fun w=>decide (w.1=s))=none:=by
  have h:=of_decide_eq_false h
  refine find_no fun j hj=>?_
  rcases Nat.lt_or_ge j (posN l s) with h1 | h1
  · exact sl_ne (posN_lt h1)
  · have h2:(l.getD (posN l s) ([],0)).1≠s:=fun e=>h ⟨by omega,e⟩
    have h3:=posN_at (l:=l) (s:=s) (by omega)
    have h4:sless s (l.getD (posN l s) ([],0)).1=true:=by
      rcases sl_tot s (l.getD (posN l s) ([],0)).1 with e | e | e
      · exact e
      · exact absurd e.symm h2
      · rw [h3] at e;cases e
    rcases Nat.lt_or_eq_of_le h1 with h5 | h5
    · exact fun e=>sl_ne (sl_trans h4 (hr.at h5 hj)) e.symm
    · rw [← h5];exact h2
theorem fnd_not {l:List Wd} {s:List UInt8} (he:isE l=0) (h:(!isW l s)=true):0=fndV l s∧10=fndE l s:=by
  have:=find_not (isE_zero.1 he).2.1 (s:=s) (by simpa using h)
  unfold fndV fndE
  rw [if_pos he,if_pos he,this]
  exact ⟨rfl,rfl⟩
theorem fnd_of {l:List Wd} {s:List UInt8} {w:Wd} (he:isE l=0) (h:l.find? (fun w=>decide (w.1=s))=some w):w.2=fndV l s∧0=fndE l s:=by
  unfold fndV fndE
  rw [if_pos he,if_pos he,h]
  exact ⟨rfl,rfl⟩
theorem fnd_none {l:List Wd} {s:List UInt8} (he:isE l=0) (h:l.find? (fun w=>decide (w.1=s))=none):0=fndV l s∧10=fndE l s:=by
  unfold fndV fndE
  rw [if_pos he,if_pos he,h]
  exact ⟨rfl,rfl⟩
theorem fnd_bad {l:List Wd} {s:List UInt8} (he:¬ isE l=0):0=fndV l s∧isE l=fndE l s:=by
  unfold fndV fndE
  rw [if_neg he,if_neg he]
  exact ⟨rfl,rfl⟩
theorem endN_eq {l:List Wd} {s:List UInt8} {i:Nat} (h0:posN l s≤i) (hi:i≤l.length) (hk:∀ j,posN l s≤j→j < i→preB (l.getD j ([],0)).1 s=true) (hn:i < l.length→preB (l.getD i ([],0)).1 s=false):endN l s=i:=by
  have hd:∀ k,(l.drop (posN l s)).getD k ([],0)=l.getD (posN l s+k) ([],0):=fun k=>by
    rw [List.getD_eq_getElem?_getD,List.getD_eq_getElem?_getD,List.getElem?_drop]
  have:=tw_len (p:=fun w:Wd=>preB w.1 s) (d:=([],0)) (l:=l.drop (posN l s)) (a:=i - posN l s) (by rw [List.length_drop];omega) (fun k h1=>by rw [hd];exact hk _ (by omega) (by omega)) (fun h1=>by
    rw [List.length_drop] at h1
    rw [hd,show posN l s+(i - posN l s)=i by omega];exact hn (by omega))
  unfold endN
  rw [this];omega
theorem beg_of {l:List Wd} {s:List UInt8} {i:Nat} (he:isE l=0) (h:endN l s=i):posW l s=begA l s∧(i:Int)=begB l s∧0=isE l:=by
  unfold begA begB posW
  rw [if_pos he,if_pos he,h]
  exact ⟨rfl,rfl,he.symm⟩
theorem beg_bad {l:List Wd} {s:List UInt8} (he:¬ isE l=0):0=begA l s∧0=begB l s:=by
  unfold begA begB
  rw [if_neg he,if_neg he]
  exact ⟨rfl,rfl⟩
theorem pre_step {l:List Wd} {s:List UInt8} {a i:Nat} (h:∀ j,a≤j→j < i→preB (l.getD j ([],0)).1 s=true) (hi:preB (l.getD i ([],0)).1 s=true):∀ j,a≤j→j < i+1→preB (l.getD j ([],0)).1 s=true:=fun j h1 h2=>by
  rcases Nat.lt_succ_iff_lt_or_eq.1 h2 with h3 | rfl
  · exact h j h1 h3
  · exact hi
theorem cut_take (a b:List UInt8):cutR a none (some (b.length:Int))=a.take b.length:=by
  unfold cutR
  simp
theorem pre_yes {a b:List UInt8} (h:(b.length:Int)≤a.length):decide (cutR a none (some (b.length:Int))=b)=preB a b:=by
  rw [cut_take]
  exact decide_eq_decide.2 ⟨fun e=>⟨by omega,e⟩,fun e=>e.2⟩
theorem pre_no {a b:List UInt8} (h:¬ (b.length:Int)≤a.length):false=preB a b:=by
  unfold preB
  rw [decide_eq_false]
  rintro ⟨h1,_⟩
  omega
theorem cmp_zero {a b:List UInt8} (h:cmpS a b=0):a=b:=by
  unfold cmpS at h
  split at h
  · cases h
  · split at h
    · assumption
    · cases h
end Go.EA
end
section
namespace Go.EA
open F
theorem SmW.norm {l:List Wd} {n:Nat} (h:∀ x∈l,x.1.length≤n):∀ x∈normV l,x.1.length≤n:=fun x hx=>by
  obtain ⟨z,hz,e⟩:=normV_key x hx
  rw [← e];exact h z hz
theorem insW_at {w:Wd}:∀ {o:List Wd} {n:Nat},(∀ j,j < n→sless (o.getD j ([],0)).1 w.1=true)→n < o.length→(o.getD n ([],0)).1=w.1→insW w o=o.set n ((o.getD n ([],0)).1,min 1073741824 ((o.getD n ([],0)).2+w.2))
  | [],_,_,h,_=>absurd h (Nat.not_lt_zero _)
  | x::o,0,_,_,e=>by
    have e:x.1=w.1:=e
    rw [insW,if_neg (by rw [e,sl_irr];decide),if_pos e]
    rfl
  | x::o,n+1,hj,hn,e=>by
    rw [insW,if_pos (show sless x.1 w.1=true from hj 0 (Nat.succ_pos n)),insW_at (o:=o) (n:=n) (fun j h=>hj (j+1) (Nat.succ_lt_succ h)) (Nat.lt_of_succ_lt_succ hn) e]
    rfl
theorem insW_in {w:Wd}:∀ {o:List Wd} {n:Nat},(∀ j,j < n→sless (o.getD j ([],0)).1 w.1=true)→n≤o.length→(n < o.length→sless (o.getD n ([],0)).1 w.1=false∧(o.getD n ([],0)).1≠w.1)→insW w o=o.take n++[w]++o.drop n
  | [],n,_,h,_=>by
    have:n=0:=by simpa using h
    subst this;rfl
  | x::o,0,_,_,e=>by
    obtain ⟨e1,e2⟩:=e (Nat.succ_pos _)
    have e1:sless x.1 w.1=false:=e1
    have e2:x.1≠w.1:=e2
    rw [insW,if_neg (by rw [e1];decide),if_neg e2]
    rfl
  | x::o,n+1,hj,hn,e=>by
    rw [insW,if_pos (show sless x.1 w.1=true from hj 0 (Nat.succ_pos n)),insW_in (o:=o) (n:=n) (fun j h=>hj (j+1) (Nat.succ_lt_succ h)) (Nat.le_of_succ_le_succ hn) fun h=>e (Nat.succ_lt_succ h)]
    rfl
theorem norm_more {l:List Wd} {i:Nat} (hi:i < l.length):normV (l.take (i+1))=insW (l.getD i ([],0)) (normV (l.take i)):=by
  rw [List.take_add_one,List.getElem?_eq_getElem hi,Option.toList_some,← getD_lt hi,normV_snoc]
end Go.EA
end
