/- Layer 9, plain: words each once, in order. Conditions: none. -/
import Derived.Test.YtpgjilomblpcpaaDoorESt3
import Derived.Test.YtpgjilomblpcpaaDoorEMean3
import Derived.Test.YtpgjilomblpcpaaDoorEK9
set_option linter.unusedVariables false
set_option linter.unusedSimpArgs false
namespace Go.EA
open F
def wE (w:Wd):Int:=if tokE w.1=0 then (if w.2 < 1∨1073741824 < w.2 then 2 else 0) else tokE w.1
def badW (w:Wd):Bool:=!decide (wE w=0)
def badK (l:List Wd):Int:=match l.findIdx? badW with | some i=>i | none => -1
def errL (l:List Wd):Int:=orV (l.map wE)
def SmW (l:List Wd):Prop:=∀ x∈l,x.1.length≤1099511627776
theorem SmW.at {l:List Wd} (h:SmW l) (i:Nat):(l.getD i ([],0)).1.length≤1099511627776:=by
  rw [List.getD_eq_getElem?_getD]
  cases hi:l[i]? with
  | none=>exact Nat.zero_le _
  | some x=>exact h x (List.mem_of_getElem? hi)
theorem badW_t {w:Wd}:badW w=true↔¬ wE w=0:=by unfold badW;simp
theorem badW_f {w:Wd}:badW w=false↔wE w=0:=by unfold badW;simp
theorem findIdx_hit {α:Type} {p:α→Bool}:∀ {l:List α} {d:α} {i:Nat},i < l.length→(∀ j,j < i→p (l.getD j d)=false)→p (l.getD i d)=true→l.findIdx? p=some i
  | [],_,_,h,_,_=>by cases h
  | x::l,d,0,_,_,h=>by rw [List.findIdx?_cons];rw [show p x=true from h];rfl
  | x::l,d,i+1,hi,hn,h=>by
    rw [List.findIdx?_cons,show p x=false from hn 0 (Nat.succ_pos i),findIdx_hit (l:=l) (d:=d) (i:=i) (Nat.lt_of_succ_lt_succ hi) (fun j hj=>hn (j+1) (Nat.succ_lt_succ hj)) h]
    rfl
theorem findIdx_none {α:Type} {p:α→Bool}:∀ {l:List α} {d:α},(∀ j,j < l.length→p (l.getD j d)=false)→l.findIdx? p=none
  | [],_,_=>rfl
  | x::l,d,hn=>by
    rw [List.findIdx?_cons,show p x=false from hn 0 (Nat.succ_pos _),findIdx_none (l:=l) (d:=d) fun j hj=>hn (j+1) (Nat.succ_lt_succ hj)]
    rfl
theorem orV_hit:∀ {l:List Wd} {i:Nat},i < l.length→(∀ j,j < i→badW (l.getD j ([],0))=false)→badW (l.getD i ([],0))=true→errL l=wE (l.getD i ([],0))
  | [],_,h,_,_=>by cases h
  | x::l,0,_,_,h=>by
    have h1:¬ wE x=0:=badW_t.1 h
    simp [errL,orV,h1]
  | x::l,i+1,hi,hn,h=>by
    have h0:wE x=0:=badW_f.1 (hn 0 (Nat.succ_pos i))
    have:=orV_hit (l:=l) (i:=i) (Nat.lt_of_succ_lt_succ hi) (fun j hj=>hn (j+1) (Nat.succ_lt_succ hj)) h
    simpa [errL,orV,h0] using this
theorem errL_none {l:List Wd} (hn:∀ j,j < l.length→badW (l.getD j ([],0))=false):errL l=0:=by
  refine (orV_none ?_).symm
  rw [List.all_eq_true]
  intro x hx
  obtain ⟨w,hw,rfl⟩:=List.mem_map.1 hx
  obtain ⟨j,hj,rfl⟩:=List.mem_iff_getElem.1 hw
  have:=hn j hj
  rw [List.getD_eq_getElem?_getD,List.getElem?_eq_getElem hj] at this
  simpa using badW_f.1 this
theorem errL_zero {l:List Wd} (h:errL l=0):∀ x∈l,wE x=0:=by
  intro x hx
  unfold errL orV at h
  cases hf:(l.map wE).find? (fun x=>!decide (x=0)) with
  | none=>
    have:=List.find?_eq_none.1 hf (wE x) (List.mem_map_of_mem hx)
    simpa using this
  | some e=>
    rw [hf] at h
    have:=List.find?_some hf
    simp only [Option.getD_some] at h
    rw [h] at this
    simp at this
def Ris (l:List Wd):Prop:=∀ i,i+1 < l.length→ltW (l.getD i ([],0)) (l.getD (i+1) ([],0))=true
def risB (l:List Wd):Bool:=(List.range l.length).all fun i=>decide (i+1 < l.length→ltW (l.getD i ([],0)) (l.getD (i+1) ([],0))=true)
theorem risB_iff (l:List Wd):risB l=true↔Ris l:=by
  simp only [risB,List.all_eq_true,List.mem_range,decide_eq_true_eq]
  exact ⟨fun h i hi=>h i (by omega) hi,fun h i _ hi=>h i hi⟩
def isE (l:List Wd):Int:=if errL l=0 then (if risB l=true then (if 65536 < l.length then 6 else 0) else 7) else errL l
def lenL (l:List Wd):Int:=(l.map fun w=>(w.1.length:Int)).sum
def sameW (a b:List Wd):Bool:=decide (a=b)
def insW (w:Wd):List Wd→List Wd
  | []=>[w]
  | x::r=>if sless x.1 w.1=true then x::insW w r else if x.1=w.1 then (x.1,min 1073741824 (x.2+w.2))::r else w::x::r
def normV (l:List Wd):List Wd:=l.foldl (fun o w=>insW w o) []
def norE (l:List Wd):Int:=if errL l=0 then (if 65536 < (normV l).length then 6 else 0) else errL l
def norO (l:List Wd):List Wd:=if norE l=0 then normV l else []
theorem insW_comm0 {p q:List UInt8} {m n:Int} (hm:0≤m) (hn:0≤n):∀ o,insW (p,m) (insW (q,n) o)=insW (q,n) (insW (p,m) o)
  | []=>by
    have nn:∀ {p q:List UInt8},sless p q=true→q≠p:=fun h e=>by rw [e,sl_irr] at h;cases h
    rcases sl_tot p q with h | h | h
    · simp [insW,h,sl_asy h,nn h]
    · subst h
      simp [insW,sl_irr];omega
    · simp [insW,h,sl_asy h,nn h]
  | (s,k)::o=>by
    have ih:=insW_comm0 (p:=p) (q:=q) hm hn o
    have nn:∀ {p q:List UInt8},sless p q=true→q≠p:=fun h e=>by rw [e,sl_irr] at h;cases h
    rcases sl_tot s p with h1 | h1 | h1
    · rcases sl_tot s q with h2 | h2 | h2
      · simp [insW,h1,h2,ih]
      · subst h2
        simp [insW,h1,sl_irr]
      · simp [insW,h1,sl_asy h2,nn h2,sl_trans h2 h1]
    · subst h1
      rcases sl_tot s q with h2 | h2 | h2
      · simp [insW,h2,sl_irr]
      · subst h2
        simp [insW,sl_irr];omega
      · simp [insW,h2,sl_asy h2,nn h2,sl_irr]
    · rcases sl_tot s q with h2 | h2 | h2
      · simp [insW,h2,sl_asy h1,nn h1,sl_trans h1 h2]
      · subst h2
        simp [insW,h1,sl_asy h1,nn h1,sl_irr]
      · rcases sl_tot p q with h | h | h
        · simp [insW,h,sl_asy h,nn h,sl_asy h1,nn h1,sl_asy h2,nn h2]
        · subst h
          simp [insW,sl_irr,sl_asy h1,nn h1];omega
        · simp [insW,h,sl_asy h,nn h,sl_asy h1,nn h1,sl_asy h2,nn h2]
theorem insW_comm {a b:Wd} (ha:0≤a.2) (hb:0≤b.2) (o:List Wd):insW a (insW b o)=insW b (insW a o):=insW_comm0 ha hb o
def Nn (l:List Wd):Prop:=∀ x∈l,0≤x.2
theorem normV_perm {l y:List Wd} (h:l.Perm y) (hn:Nn l):normV l=normV y:=by
  unfold normV
  exact List.Perm.foldl_eq' h (fun a ha b hb z=>insW_comm (hn b hb) (hn a ha) z) []
theorem normV_snoc (l:List Wd) (w:Wd):normV (l++[w])=insW w (normV l):=by
  unfold normV;rw [List.foldl_append];rfl
theorem mem_insW {w x:Wd}:∀ {o:List Wd},x∈insW w o→x.1=w.1∨∃ z∈o,z.1=x.1
  | [],h=>by simp only [insW,List.mem_singleton] at h;exact .inl (by rw [h])
  | y::o,h=>by
    simp only [insW] at h
    split at h
    · rcases List.mem_cons.1 h with rfl | h
      · exact .inr ⟨_,List.mem_cons_self ..,rfl⟩
      · rcases mem_insW h with h | ⟨z,hz,e⟩
        · exact .inl h
        · exact .inr ⟨z,List.mem_cons_of_mem _ hz,e⟩
    · split at h
      · rcases List.mem_cons.1 h with rfl | h
        · exact .inr ⟨_,List.mem_cons_self ..,rfl⟩
        · exact .inr ⟨x,List.mem_cons_of_mem _ h,rfl⟩
      · rcases List.mem_cons.1 h with rfl | h
        · exact .inl rfl
        · exact .inr ⟨x,h,rfl⟩
theorem insW_all {P:Wd→Prop} {w:Wd} (hw:P w) (hm:∀ x,P x→x.1=w.1→P (x.1,min 1073741824 (x.2+w.2))):∀ {o:List Wd},(∀ x∈o,P x)→∀ x∈insW w o,P x
  | [],_,x,h=>by simp only [insW,List.mem_singleton] at h;rw [h];exact hw
  | y::o,ho,x,h=>by
    simp only [insW] at h
    split at h
    · rcases List.mem_cons.1 h with rfl | h
      · exact ho _ (List.mem_cons_self ..)
      · exact insW_all hw hm (fun z hz=>ho z (List.mem_cons_of_mem _ hz)) x h
    · split at h
      · rename_i e
        rcases List.mem_cons.1 h with rfl | h
        · exact hm y (ho _ (List.mem_cons_self ..)) e
        · exact ho x (List.mem_cons_of_mem _ h)
      · rcases List.mem_cons.1 h with rfl | h
        · exact hw
        · exact ho x h
theorem normV_ind {P:Wd→Prop} {l:List Wd} (hl:∀ w∈l,P w) (hm:∀ w x,P w→P x→x.1=w.1→P (x.1,min 1073741824 (x.2+w.2))):∀ x∈normV l,P x:=by
  have:∀ (l o:List Wd),(∀ w∈l,P w)→(∀ x∈o,P x)→∀ x∈l.foldl (fun o w=>insW w o) o,P x:=by
    intro l
    induction l with
    | nil=>intro o _ ho;exact ho
    | cons w l ih=>
      intro o hl ho
      exact ih (insW w o) (fun z hz=>hl z (List.mem_cons_of_mem _ hz)) (insW_all (hl w (List.mem_cons_self ..)) (fun x hx e=>hm w x (hl w (List.mem_cons_self ..)) hx e) ho)
  exact this l [] hl fun x hx=>by cases hx
theorem wE_zero {w:Wd}:wE w=0↔tokE w.1=0∧1≤w.2∧w.2≤1073741824:=by
  unfold wE
  split
  · rename_i h
    split
    · simp;omega
    · simp [h];omega
  · rename_i h;simp [h]
theorem normV_ok {l:List Wd} (h:∀ x∈l,wE x=0):∀ x∈normV l,wE x=0:=by
  refine normV_ind h fun w x hw hx e=>?_
  rw [wE_zero] at hw hx ⊢
  dsimp only
  exact ⟨hx.1,by omega,by omega⟩
theorem normV_key {l:List Wd}:∀ x∈normV l,∃ z∈l,z.1=x.1:=
  normV_ind (P:=fun x=>∃ z∈l,z.1=x.1) (fun w hw=>⟨w,hw,rfl⟩) fun w x _ hx _=>hx
theorem len_insW (w:Wd):∀ o,(insW w o).length≤o.length+1
  | []=>Nat.le_refl _
  | x::o=>by
    simp only [insW]
    split
    · simp only [List.length_cons];have:=len_insW w o;omega
    · split <;> simp
theorem len_normV (l:List Wd):(normV l).length≤l.length:=by
  have:∀ (l o:List Wd),(l.foldl (fun o w=>insW w o) o).length≤o.length+l.length:=by
    intro l
    induction l with
    | nil=>intro o;exact Nat.le_refl _
    | cons w l ih=>intro o;have h1:=ih (insW w o);have h2:=len_insW w o;simp only [List.foldl_cons,List.length_cons];omega
  have h:=this l []
  rw [List.length_nil,Nat.zero_add] at h
  exact h
def RisP (o:List Wd):Prop:=o.Pairwise fun a b=>sless a.1 b.1=true
theorem insW_ris {w:Wd}:∀ {o:List Wd},RisP o→RisP (insW w o)
  | [],_=>List.pairwise_singleton ..
  | x::o,h=>by
    have ⟨h1,h2⟩:=List.pairwise_cons.1 h
    simp only [insW]
    split
    · rename_i hl
      refine List.pairwise_cons.2 ⟨fun y hy=>?_,insW_ris h2⟩
      rcases mem_insW hy with e | ⟨z,hz,e⟩
      · rw [e];exact hl
      · rw [← e];exact h1 z hz
    · rename_i hl
      split
      · exact List.pairwise_cons.2 ⟨h1,h2⟩
      · rename_i hne
        have hlt:sless w.1 x.1=true:=by
          rcases sl_tot x.1 w.1 with e | e | e
          · exact absurd e hl
          · exact absurd e hne
          · exact e
        refine List.pairwise_cons.2 ⟨fun y hy=>?_,h⟩
        rcases List.mem_cons.1 hy with rfl | hy
        · exact hlt
        · exact sl_trans hlt (h1 y hy)
theorem normV_ris (l:List Wd):RisP (normV l):=by
  have:∀ (l o:List Wd),RisP o→RisP (l.foldl (fun o w=>insW w o) o):=by
    intro l
    induction l with
    | nil=>intro o h;exact h
    | cons w l ih=>intro o h;exact ih _ (insW_ris h)
  exact this l [] List.Pairwise.nil
theorem getD_lt {l:List Wd} {i:Nat} (h:i < l.length):l.getD i ([],0)=l[i]:=by
  rw [List.getD_eq_getElem?_getD,List.getElem?_eq_getElem h,Option.getD_some]
theorem RisP.at {l:List Wd} (h:RisP l) {i j:Nat} (hij:i < j) (hj:j < l.length):sless (l.getD i ([],0)).1 (l.getD j ([],0)).1=true:=by
  rw [getD_lt (by omega),getD_lt hj]
  exact List.pairwise_iff_getElem.1 h i j (by omega) hj hij
theorem insW_end {w:Wd}:∀ {o:List Wd},RisP o→(∀ x∈o,sless w.1 x.1=false)→(o.length=0∨(o.getD (o.length - 1) ([],0)).1≠w.1)→insW w o=o++[w]
  | [],_,_,_=>rfl
  | x::o,h,hw,hl=>by
    have ⟨h1,h2⟩:=List.pairwise_cons.1 h
    simp only [insW]
    have h0:=hw x (List.mem_cons_self ..)
    have hlt:sless x.1 w.1=true:=by
      rcases sl_tot x.1 w.1 with e | e | e
      · exact e
      · exfalso
        cases o with
        | nil => rcases hl with hl | hl
                 · cases hl
                 · exact hl e
        | cons y o=>
          have h3:=h1 y (List.mem_cons_self ..)
          rw [e,hw y (List.mem_cons_of_mem _ (List.mem_cons_self ..))] at h3
          cases h3
      · rw [h0] at e;cases e
    rw [if_pos hlt,insW_end h2 (fun z hz=>hw z (List.mem_cons_of_mem _ hz)) ?_]
    · rfl
    · cases o with
      | nil=>exact .inl rfl
      | cons y o=>exact .inr (by simpa using hl)
theorem insW_set {w:Wd}:∀ {o:List Wd} {n:Nat},RisP o→o.length=n+1→(o.getD n ([],0)).1=w.1→insW w o=o.set n ((o.getD n ([],0)).1,min 1073741824 ((o.getD n ([],0)).2+w.2))
  | [],_,_,h,_=>by cases h
  | [x],0,_,_,e=>by
    have e:x.1=w.1:=e
    simp only [insW]
    rw [if_neg (by rw [e,sl_irr];decide),if_pos e]
    rfl
  | x::y::o,0,_,h,_=>by simp at h
  | [x],n+1,_,h,_=>by simp at h
  | x::y::o,n+1,h,hl,e=>by
    have ⟨h1,h2⟩:=List.pairwise_cons.1 h
    have hl':(y::o).length=n+1:=by simpa using hl
    have e':((y::o).getD n ([],0)).1=w.1:=e
    have hlt:sless x.1 w.1=true:=by
      rw [← e']
      refine h1 _ ?_
      rw [getD_lt (by omega)]
      exact List.getElem_mem _
    rw [insW,if_pos hlt,insW_set h2 hl' e']
    rfl
theorem norm_last {y:List Wd} (hs:SrtR ltW ([],0) y 0 y.length) {i:Nat} (hi:i < y.length):∀ x∈normV (y.take i),sless (y.getD i ([],0)).1 x.1=false:=by
  intro x hx
  obtain ⟨z,hz,e⟩:=normV_key x hx
  obtain ⟨p,hp,rfl⟩:=List.mem_iff_getElem.1 hz
  rw [List.length_take] at hp
  have:=hs p i (Nat.zero_le _) (by omega) hi
  rw [← e]
  rw [getD_lt (l:=y) (i:=p) (by omega)] at this
  simpa [ltW] using this
theorem norm_app {y:List Wd} (hs:SrtR ltW ([],0) y 0 y.length) {i:Nat} (hi:i < y.length) (h:(normV (y.take i)).length=0∨((normV (y.take i)).getD ((normV (y.take i)).length - 1) ([],0)).1≠(y.getD i ([],0)).1):normV (y.take i)++[y.getD i ([],0)]=normV (y.take (i+1)):=by
  rw [List.take_add_one,List.getElem?_eq_getElem hi,Option.toList_some,← getD_lt hi,normV_snoc]
  exact (insW_end (normV_ris _) (norm_last hs hi) h).symm
theorem norm_set {y:List Wd} {i n:Nat} (hi:i < y.length) (hn:(normV (y.take i)).length=n+1) (h:((normV (y.take i)).getD n ([],0)).1=(y.getD i ([],0)).1):(normV (y.take i)).set n (((normV (y.take i)).getD n ([],0)).1,min 1073741824 (((normV (y.take i)).getD n ([],0)).2+(y.getD i ([],0)).2))=normV (y.take (i+1)):=by
  rw [List.take_add_one,List.getElem?_eq_getElem hi,Option.toList_some,← getD_lt hi,normV_snoc]
  exact (insW_set (normV_ris _) hn h).symm
theorem min_if (a:Int):(if 1073741824 < a then 1073741824 else a)=min 1073741824 a:=by split <;> omega
theorem badK_hit {l:List Wd} {i:Nat} (hi:i < l.length) (hn:∀ j,j < i→badW (l.getD j ([],0))=false) (h:badW (l.getD i ([],0))=true):badK l=i:=by
  unfold badK;rw [findIdx_hit hi hn h]
theorem badK_none {l:List Wd} (hn:∀ j,j < l.length→badW (l.getD j ([],0))=false):badK l = -1:=by
  unfold badK;rw [findIdx_none hn]
theorem badK_spec (l:List Wd):(badK l = -1∧errL l=0)∨∃ i:Nat,i < l.length∧badK l=i∧wE (l.getD i ([],0))=errL l:=by
  unfold badK
  cases h:l.findIdx? badW with
  | none=>
    refine .inl ⟨rfl,errL_none fun j hj=>?_⟩
    rw [getD_lt hj]
    have:=List.findIdx?_eq_none_iff.1 h _ (List.getElem_mem hj)
    simpa using this
  | some i=>
    obtain ⟨hi,h1,h2⟩:=List.findIdx?_eq_some_iff_getElem.1 h
    refine .inr ⟨i,hi,rfl,(orV_hit hi (fun j hj=>?_) (by rw [getD_lt hi];exact h1)).symm⟩
    rw [getD_lt (by omega)]
    simpa using h2 j hj
theorem step_all {P:Nat→Prop} {i:Nat} (h:∀ j,j < i→P j) (hi:P i):∀ j,j < i+1→P j:=fun j hj=>by
  rcases Nat.lt_succ_iff_lt_or_eq.1 hj with h1 | rfl
  · exact h j h1
  · exact hi
theorem isE_7 {l:List Wd} {i:Nat} (he:errL l=0) (h0:0 < (i:Int)) (hi:i < l.length) (h:(!sless (l.getD ((i:Int) - 1).toNat ([],0)).1 (l.getD i ([],0)).1)=true):7=isE l:=by
  unfold isE
  rw [if_pos he,if_neg]
  rw [risB_iff]
  intro hr
  obtain ⟨k,rfl⟩:∃ k,i=k+1:=⟨i - 1,by omega⟩
  rw [show (((k+1:Nat):Int) - 1).toNat=k by omega] at h
  have:=hr k hi
  unfold ltW at this
  rw [this] at h
  cases h
theorem isE_end {l:List Wd} (he:errL l=0) (h:∀ j,j+1 < l.length→ltW (l.getD j ([],0)) (l.getD (j+1) ([],0))=true):isE l=if 65536 < l.length then 6 else 0:=by
  unfold isE
  rw [if_pos he,if_pos ((risB_iff l).2 h)]
theorem ris_step {l:List Wd} {i:Nat} (h:∀ j,j+1 < i→ltW (l.getD j ([],0)) (l.getD (j+1) ([],0))=true) (hs:0 < (i:Int)→¬ (!sless (l.getD ((i:Int) - 1).toNat ([],0)).1 (l.getD i ([],0)).1)=true):∀ j,j+1 < i+1→ltW (l.getD j ([],0)) (l.getD (j+1) ([],0))=true:=fun j hj=>by
  rcases Nat.lt_succ_iff_lt_or_eq.1 hj with h1 | rfl
  · exact h j h1
  · have:=hs (by omega)
    rw [show (((j+1:Nat):Int) - 1).toNat=j by omega] at this
    unfold ltW
    simpa using this
theorem lenL_step {l:List Wd} {i:Nat} (h:i < l.length):lenL (l.take i)+((l.getD i ([],0)).1.length:Int)=lenL (l.take (i+1)):=by
  unfold lenL
  rw [List.take_add_one,List.getElem?_eq_getElem h,Option.toList_some,← getD_lt h,List.map_append,List.sum_append]
  simp
theorem lenL_le {l:List Wd} {b:Nat} (h:∀ x∈l,x.1.length≤b):0≤lenL l∧lenL l≤l.length*b:=by
  unfold lenL
  induction l with
  | nil=>simp
  | cons x l ih=>
    have h1:=h x (List.mem_cons_self ..)
    have h2:=ih fun y hy=>h y (List.mem_cons_of_mem _ hy)
    simp only [List.map_cons,List.sum_cons,List.length_cons]
    rw [Int.natCast_add,Int.add_mul]
    omega
theorem same_wd (x y:Wd):sameS (List.take 2 (List.drop 0 ((Ty.pair .str (.int .i64)).cells x))) (List.take 2 (List.drop 0 ((Ty.pair .str (.int .i64)).cells y)))=decide (x=y):=by
  obtain ⟨a,c⟩:=x
  obtain ⟨a',c'⟩:=y
  rw [Bool.eq_iff_iff]
  simp [Ty.cells,sameS,SL.i?,SL.b?]
theorem same_all {a b:List Wd} (hl:(a.length:Int)=b.length) (h:∀ j,j < a.length→a.getD j ([],0)=b.getD j ([],0)):a=b:=by
  refine List.ext_getElem (by omega) fun i h1 h2=>?_
  have:=h i h1
  rwa [getD_lt h1,getD_lt h2] at this
theorem nor_big {l:List Wd} (he:errL l=0) (h:65536 < ((normV l).length:Int)):norO l=[]∧6=norE l:=by
  have e:norE l=6:=by unfold norE;rw [if_pos he,if_pos (by omega)]
  unfold norO;rw [e];exact ⟨rfl,rfl⟩
theorem nor_fine {l:List Wd} (he:errL l=0) (h:¬ 65536 < ((normV l).length:Int)):normV l=norO l∧0=norE l:=by
  have e:norE l=0:=by unfold norE;rw [if_pos he,if_neg (by omega)]
  unfold norO;rw [e];exact ⟨rfl,rfl⟩
theorem nor_bad {l:List Wd} (he:¬ errL l=0):norO l=[]∧errL l=norE l:=by
  have e:norE l=errL l:=by unfold norE;rw [if_neg he]
  unfold norO;rw [e,if_neg he];exact ⟨rfl,rfl⟩
end Go.EA
