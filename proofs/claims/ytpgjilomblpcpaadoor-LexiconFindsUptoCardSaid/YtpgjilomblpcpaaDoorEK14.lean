/- Texts of the core, one behind the other. Conditions: none. -/
import Derived.Test.YtpgjilomblpcpaaDoorEK12
import Derived.Test.YtpgjilomblpcpaaDoorESo2
set_option linter.unusedVariables false
set_option linter.unusedSimpArgs false
section
namespace Go.EA
open F
def srtB (l:List Wd):List Wd:=l.mergeSort fun a b=>!ltB b a
theorem ltB_anti {x y:Wd} (h1:ltB x y=false) (h2:ltB y x=false):x=y:=by
  rw [Bool.eq_false_iff,Ne,ltB_iff] at h1 h2
  have a1:¬ y.2 < x.2:=fun e=>h1 (.inl e)
  have a2:¬ x.2 < y.2:=fun e=>h2 (.inl e)
  have e:x.2=y.2:=by omega
  have b1:¬ sless x.1 y.1=true:=fun h=>h1 (.inr ⟨e.symm,h⟩)
  have b2:¬ sless y.1 x.1=true:=fun h=>h2 (.inr ⟨e,h⟩)
  rcases sl_tot x.1 y.1 with h | h | h
  · exact absurd h b1
  · exact Prod.ext h e
  · exact absurd h b2
theorem srtB_pw (l:List Wd):(srtB l).Pairwise fun a b=>(!ltB b a)=true:=by
  refine List.pairwise_mergeSort (fun a b c h1 h2=>?_) (fun a b=>?_) l
  · simp only [Bool.not_eq_true'] at h1 h2 ⊢
    exact ltB_swo.ntrans c b a h2 h1
  · simp only [Bool.or_eq_true,Bool.not_eq_true']
    cases h:ltB b a with
    | false=>exact .inl rfl
    | true=>
      refine .inr ?_
      cases h2:ltB a b with
      | false=>rfl
      | true=>have:=ltB_swo.trans _ _ _ h h2;rw [ltB_swo.irrefl] at this;cases this
theorem srtB_perm (l:List Wd):(srtB l).Perm l:=List.mergeSort_perm _ _
theorem srtB_uniq {l y:List Wd} (hp:y.Perm l) (hs:SrtR ltB ([],0) y 0 y.length):y=srtB l:=by
  refine List.Perm.eq_of_pairwise (le:=fun x y=>(!ltB y x)=true) (fun a b _ _ h1 h2=>?_) ?_ (srtB_pw l) (hp.trans (srtB_perm l).symm)
  · simp only [Bool.not_eq_true'] at h1 h2
    exact ltB_anti h2 h1
  · refine List.pairwise_iff_getElem.2 fun i j hi hj hij=>?_
    have:=hs i j (Nat.zero_le _) hij hj
    rw [getD_lt hi,getD_lt hj] at this
    rw [this];rfl
def bstE (l:List Wd) (k:Int):Int:=if isE l=0 then (if k < 0∨1000 < k then 2 else 0) else isE l
def bstO (l:List Wd) (k:Int):List Wd:=if bstE l k=0 then (srtB l).take k.toNat else []
theorem bst_bad {l:List Wd} {k:Int} (h:¬ isE l=0):bstO l k=[]∧isE l=bstE l k:=by
  have e:bstE l k=isE l:=by unfold bstE;rw [if_neg h]
  unfold bstO
  rw [e,if_neg h]
  exact ⟨rfl,rfl⟩
theorem bst_arg {l:List Wd} {k:Int} (h:isE l=0) (hk:k < 0∨1000 < k):bstO l k=[]∧2=bstE l k:=by
  have e:bstE l k=2:=by unfold bstE;rw [if_pos h,if_pos hk]
  unfold bstO
  rw [e]
  exact ⟨rfl,rfl⟩
theorem bst_of {l:List Wd} {k:Int} (h:isE l=0) (hk:¬ (k < 0∨1000 < k)):bstO l k=(srtB l).take k.toNat∧0=bstE l k:=by
  have e:bstE l k=0:=by unfold bstE;rw [if_pos h,if_neg hk]
  unfold bstO
  rw [e]
  exact ⟨rfl,rfl⟩
end Go.EA
end
section
namespace Go.EA
open F
def shf {α:Type} (s:List α) (w:α) (a:Nat):List α:=(s++[w]).take (a+1)++s.drop a
theorem shf_parts {α:Type} {p q:List α} {w:α}:∃ h,shf (p++q) w p.length=p++h::q∧(q++[w]).take 1=[h]:=by
  cases q with
  | nil=>exact ⟨w,by unfold shf;rw [List.append_nil,List.take_of_length_le (by simp),List.drop_of_length_le (Nat.le_refl _),List.append_nil],rfl⟩
  | cons x q=>exact ⟨x,by unfold shf;rw [List.append_assoc,List.drop_left,show p.length+1=p.length+1 from rfl,List.take_append,List.take_of_length_le (by omega)];simp,rfl⟩
theorem split_at {α:Type} {s:List α} {a:Nat} (ha:a≤s.length):∃ p q,s=p++q∧p.length=a:=⟨s.take a,s.drop a,(List.take_append_drop a s).symm,by rw [List.length_take];omega⟩
theorem shf_len {α:Type} {s:List α} {w:α} {a:Nat} (ha:a≤s.length):(shf s w a).length=s.length+1:=by
  obtain ⟨p,q,rfl,rfl⟩:=split_at ha
  obtain ⟨h,e,_⟩:=shf_parts (p:=p) (q:=q) (w:=w)
  rw [e];simp;omega
theorem shf_top {α:Type} (s:List α) (w:α):shf s w s.length=s++[w]:=by
  unfold shf;rw [List.take_of_length_le (by simp),List.drop_of_length_le (Nat.le_refl _),List.append_nil]
theorem shf_fin {α:Type} {s:List α} {w:α} {a:Nat} (ha:a≤s.length):(shf s w a).set a w=s.take a++w::s.drop a:=by
  obtain ⟨p,q,rfl,rfl⟩:=split_at ha
  obtain ⟨h,e,_⟩:=shf_parts (p:=p) (q:=q) (w:=w)
  rw [e,List.take_left,List.drop_left,List.set_append_right _ _ (Nat.le_refl _),Nat.sub_self];rfl
theorem shf_get {α:Type} {s:List α} {w d:α} {a:Nat} (h0:0 < a) (ha:a≤s.length):(shf s w a).getD (a - 1) d=s.getD (a - 1) d:=by
  obtain ⟨p,q,rfl,rfl⟩:=split_at ha
  obtain ⟨h,e,_⟩:=shf_parts (p:=p) (q:=q) (w:=w)
  rw [e,List.getD_eq_getElem?_getD,List.getD_eq_getElem?_getD,List.getElem?_append_left (by omega),List.getElem?_append_left (by omega)]
theorem shf_step {α:Type} {s:List α} {w d:α} {a:Nat} (h0:0 < a) (ha:a≤s.length):(shf s w a).set a (s.getD (a - 1) d)=shf s w (a - 1):=by
  obtain ⟨b,rfl⟩:∃ b,a=b+1:=⟨a - 1,by omega⟩
  obtain ⟨p,q,rfl,hp⟩:=split_at (s:=s) (a:=b) (by omega)
  obtain ⟨x,q,rfl⟩:∃ x q',q=x::q':=by
    cases q with
    | nil=>simp at ha;omega
    | cons x q=>exact ⟨x,q,rfl⟩
  subst hp
  obtain ⟨h,e,_⟩:=shf_parts (p:=p++[x]) (q:=q) (w:=w)
  rw [List.append_assoc,List.length_append] at e
  have e:shf (p++x::q) w (p.length+1)=p++[x]++h::q:=e
  obtain ⟨h2,e2,k⟩:=shf_parts (p:=p) (q:=x::q) (w:=w)
  have k:[x]=[h2]:=k
  cases k
  have g:(p++x::q).getD (p.length+1 - 1) d=x:=by rw [List.getD_eq_getElem?_getD];simp
  rw [e,g,show p.length+1 - 1=p.length from rfl,e2,List.set_append_right _ _ (by simp),List.length_append]
  simp
theorem ins_srtB {l:List Wd} (hr:RisP l) {i a:Nat} (hi:i < l.length) (ha:a≤i) (hlo:0 < a→¬ ((srtB (l.take i)).getD (a - 1) ([],0)).2 < (l.getD i ([],0)).2) (hhi:∀ j,a≤j→j < i→((srtB (l.take i)).getD j ([],0)).2 < (l.getD i ([],0)).2) :
    (srtB (l.take i)).take a++l.getD i ([],0)::(srtB (l.take i)).drop a=srtB (l.take (i+1)):=by
  have hw:l.take (i+1)=l.take i++[l.getD i ([],0)]:=by rw [List.take_add_one,List.getElem?_eq_getElem hi,getD_lt hi];rfl
  have hpw:=srtB_pw (l.take i)
  have hpm:=srtB_perm (l.take i)
  have hlen:(srtB (l.take i)).length=i:=by rw [hpm.length_eq,List.length_take];omega
  revert hlo hhi
  generalize srtB (l.take i)=s at hpw hpm hlen
  intro hlo hhi
  have hfr:∀ {p q:Nat},p < q→q < i→(s.getD q ([],0)).2≤(s.getD p ([],0)).2:=fun {p q} hpq hq=>by
    have:=List.pairwise_iff_getElem.1 hpw p q (by omega) (by omega) hpq
    rw [← getD_lt (l:=s) (by omega),← getD_lt (l:=s) (by omega)] at this
    simp only [Bool.not_eq_true',Bool.eq_false_iff,Ne,ltB_iff,not_or] at this
    omega
  refine List.Perm.eq_of_pairwise (le:=fun x y=>(!ltB y x)=true) (fun a b _ _ h1 h2=>?_) ?_ (srtB_pw _) ?_
  · simp only [Bool.not_eq_true'] at h1 h2
    exact ltB_anti h2 h1
  · have e:=List.take_append_drop a s
    have hpw':(s.take a++s.drop a).Pairwise fun x y=>(!ltB y x)=true:=by rw [e];exact hpw
    obtain ⟨k1,k2,k3⟩:=List.pairwise_append.1 hpw'
    refine List.pairwise_append.2 ⟨k1,List.pairwise_cons.2 ⟨fun x hx=>?_,k2⟩,fun x hx y hy=>?_⟩
    · obtain ⟨j,hj,rfl⟩:=List.mem_iff_getElem.1 hx
      rw [List.length_drop] at hj
      rw [List.getElem_drop,← getD_lt (l:=s) (by omega)]
      have:=hhi (a+j) (by omega) (by omega)
      simp only [Bool.not_eq_true',Bool.eq_false_iff,Ne,ltB_iff,not_or]
      exact ⟨by omega,fun h=>by omega⟩
    · rcases List.mem_cons.1 hy with rfl | hy
      · have hm:x∈l.take i:=hpm.mem_iff.1 (List.mem_of_mem_take hx)
        obtain ⟨j,hj,rfl⟩:=List.mem_iff_getElem.1 hx
        rw [List.length_take] at hj
        rw [List.getElem_take] at hm ⊢
        have h0:=hlo (by omega)
        have hle:(s.getD (a - 1) ([],0)).2≤(s.getD j ([],0)).2:=by
          rcases Nat.lt_or_ge j (a - 1) with h | h
          · exact hfr h (by omega)
          · rw [show j=a - 1 by omega];omega
        obtain ⟨p,hp,ep⟩:=List.mem_iff_getElem.1 hm
        rw [List.length_take] at hp
        rw [List.getElem_take,← getD_lt (l:=l) (by omega)] at ep
        have hs:=hr.at (i:=p) (j:=i) (by omega) hi
        rw [ep] at hs
        rw [getD_lt (l:=s) (i:=j) (by omega)] at hle
        simp only [Bool.not_eq_true',Bool.eq_false_iff,Ne,ltB_iff,not_or]
        exact ⟨by omega,fun h=>by rw [sl_asy hs] at h;cases h.2⟩
      · exact k3 x hx y hy
  · rw [hw]
    refine List.Perm.trans ?_ (srtB_perm _).symm
    refine List.Perm.trans List.perm_middle ?_
    rw [List.take_append_drop]
    exact (List.Perm.cons _ hpm).trans (List.perm_append_singleton _ _).symm
end Go.EA
end
