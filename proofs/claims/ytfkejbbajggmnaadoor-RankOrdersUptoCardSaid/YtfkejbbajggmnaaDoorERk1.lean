/- Layer 15, plain: candidates, which comes first, in order, each text once. Conditions: none. -/
import Derived.Test.YtfkejbbajggmnaaDoorEK14
set_option linter.unusedVariables false
set_option linter.unusedSimpArgs false
namespace Go.EA
open F Go.Sort
abbrev Cd:=List UInt8×Int×Int
abbrev CdT:Ty:=.pair .str (.pair (.int .i64) (.int .i64))
def cE (c:Cd):Int:=if tokE c.1=0 then (if c.2.1 < 0∨4096 < c.2.1∨c.2.2 < 1∨1073741824 < c.2.2 then 2 else 0) else tokE c.1
def errC (l:List Cd):Int:=orV (l.map cE)
def SmC (l:List Cd):Prop:=∀ x∈l,x.1.length≤1099511627776
theorem getC_lt {l:List Cd} {i:Nat} (h:i < l.length):l.getD i ([],0,0)=l[i]:=by
  rw [List.getD_eq_getElem?_getD,List.getElem?_eq_getElem h,Option.getD_some]
theorem SmC.at {l:List Cd} (h:SmC l) (i:Nat):(l.getD i ([],0,0)).1.length≤1099511627776:=by
  rw [List.getD_eq_getElem?_getD]
  cases hi:l[i]? with
  | none=>exact Nat.zero_le _
  | some x=>exact h x (List.mem_of_getElem? hi)
theorem errC_hit:∀ {l:List Cd} {i:Nat},i < l.length→(∀ j,j < i→cE (l.getD j ([],0,0))=0)→¬ cE (l.getD i ([],0,0))=0→cE (l.getD i ([],0,0))=errC l
  | [],_,h,_,_=>by cases h
  | x::l,0,_,_,h=>by
    have h1:¬ cE x=0:=h
    simp [errC,orV,h1]
  | x::l,i+1,hi,hn,h=>by
    have h0:cE x=0:=hn 0 (Nat.succ_pos i)
    have:=errC_hit (l:=l) (i:=i) (Nat.lt_of_succ_lt_succ hi) (fun j hj=>hn (j+1) (Nat.succ_lt_succ hj)) h
    simpa [errC,orV,h0] using this
theorem errC_none {l:List Cd} (hn:∀ j,j < l.length→cE (l.getD j ([],0,0))=0):0=errC l:=by
  refine orV_none ?_
  rw [List.all_eq_true]
  intro x hx
  obtain ⟨w,hw,rfl⟩:=List.mem_map.1 hx
  obtain ⟨j,hj,rfl⟩:=List.mem_iff_getElem.1 hw
  have:=hn j hj
  rw [getC_lt hj] at this
  simpa using this
theorem errC_zero {l:List Cd}:errC l=0↔∀ x∈l,cE x=0:=by
  constructor
  · intro h x hx
    unfold errC orV at h
    cases hf:(l.map cE).find? (fun x=>!decide (x=0)) with
    | none=>
      have:=List.find?_eq_none.1 hf (cE x) (List.mem_map_of_mem hx)
      simpa using this
    | some e=>
      rw [hf] at h
      have:=List.find?_some hf
      simp only [Option.getD_some] at h
      rw [h] at this
      simp at this
  · intro h
    refine (errC_none fun j hj=>?_).symm
    rw [getC_lt hj]
    exact h _ (List.getElem_mem _)
theorem errC_perm {l l':List Cd} (h:l.Perm l'):errC l=0↔errC l'=0:=by
  rw [errC_zero,errC_zero]
  exact ⟨fun k x hx=>k x (h.mem_iff.2 hx),fun k x hx=>k x (h.mem_iff.1 hx)⟩
def cfC (a b:Cd):Int:=orV [cmpJ a.2.1 b.2.1,cmpJ b.2.2 a.2.2,cmpS a.1 b.1]
def ltC (a b:Cd):Bool:=decide (cfC a b < 0)
theorem cmpJ_cases (a b:Int):(a < b∧cmpJ a b = -1)∨(a=b∧cmpJ a b=0)∨(b < a∧cmpJ a b=1):=by
  unfold cmpJ
  rcases Int.lt_trichotomy a b with h | h | h
  · exact .inl ⟨h,if_pos h⟩
  · exact .inr (.inl ⟨h,by rw [if_neg (by omega),if_neg (by omega)]⟩)
  · exact .inr (.inr ⟨h,by rw [if_neg (by omega),if_pos h]⟩)
theorem ltC_iff (a b:Cd):ltC a b=true↔a.2.1 < b.2.1∨(a.2.1=b.2.1∧(b.2.2 < a.2.2∨(b.2.2=a.2.2∧sless a.1 b.1=true))):=by
  unfold ltC cfC orV
  rw [decide_eq_true_eq]
  rcases cmpJ_cases a.2.1 b.2.1 with ⟨h,e⟩ | ⟨h,e⟩ | ⟨h,e⟩
  · rw [e];simp [h]
  · rw [e]
    rcases cmpJ_cases b.2.2 a.2.2 with ⟨h2,e2⟩ | ⟨h2,e2⟩ | ⟨h2,e2⟩
    · rw [e2];simp [h,h2]
    · rw [e2]
      have:cmpS a.1 b.1 < 0↔sless a.1 b.1=true:=cmp_lt _ _
      by_cases h0:cmpS a.1 b.1=0
      · have h1:¬ sless a.1 b.1=true:=fun e=>by rw [← this,h0] at e;exact absurd e (by decide)
        simp [h0,h,h2,h1]
      · simp [h0,h,h2,this]
    · rw [e2]
      constructor
      · intro e;simp at e
      · rintro (e | ⟨_,e | ⟨e,_⟩⟩) <;> omega
  · rw [e]
    constructor
    · intro e;simp at e
    · rintro (e | ⟨e,_⟩) <;> omega
theorem ltC_irr (a:Cd):ltC a a=false:=by
  rw [Bool.eq_false_iff,Ne,ltC_iff]
  rintro (h | ⟨_,h | ⟨_,h⟩⟩)
  · omega
  · omega
  · rw [sl_irr] at h;cases h
theorem ltC_trans {a b c:Cd} (h1:ltC a b=true) (h2:ltC b c=true):ltC a c=true:=by
  rw [ltC_iff] at h1 h2 ⊢
  rcases h1 with h1 | ⟨h1,h3 | ⟨h3,h5⟩⟩ <;> rcases h2 with h2 | ⟨h2,h4 | ⟨h4,h6⟩⟩
  all_goals first
    | exact .inl (by omega)
    | exact .inr ⟨by omega,.inl (by omega)⟩
    | exact .inr ⟨by omega,.inr ⟨by omega,sl_trans h5 h6⟩⟩
theorem ltC_tot (a b:Cd):ltC a b=true∨a=b∨ltC b a=true:=by
  obtain ⟨s,x,y⟩:=a
  obtain ⟨t,u,v⟩:=b
  rw [ltC_iff,ltC_iff]
  dsimp only
  rcases Int.lt_trichotomy x u with h | h | h
  · exact .inl (.inl h)
  · rcases Int.lt_trichotomy v y with h2 | h2 | h2
    · exact .inl (.inr ⟨h,.inl h2⟩)
    · rcases sl_tot s t with h3 | h3 | h3
      · exact .inl (.inr ⟨h,.inr ⟨h2,h3⟩⟩)
      · exact .inr (.inl (by rw [h,h2,h3]))
      · exact .inr (.inr (.inr ⟨h.symm,.inr ⟨h2.symm,h3⟩⟩))
    · exact .inr (.inr (.inr ⟨h.symm,.inl h2⟩))
  · exact .inr (.inr (.inl h))
theorem ltC_asy {a b:Cd} (h:ltC a b=true):ltC b a=false:=by
  cases h2:ltC b a with
  | false=>rfl
  | true=>have:=ltC_trans h h2;rw [ltC_irr] at this;cases this
theorem ltC_anti {x y:Cd} (h1:ltC x y=false) (h2:ltC y x=false):x=y:=by
  rcases ltC_tot x y with h | h | h
  · rw [h1] at h;cases h
  · exact h
  · rw [h2] at h;cases h
theorem ltC_swo:SWO (α:=Cd) ltC:=by
  refine ⟨ltC_irr,fun x y z h1 h2=>ltC_trans h1 h2,fun x y z h1 h2=>?_⟩
  cases h:ltC x z with
  | false=>rfl
  | true=>
    exfalso
    rcases ltC_tot y z with h3 | h3 | h3
    · rw [h2] at h3;cases h3
    · subst h3;rw [h1] at h;cases h
    · have:=ltC_trans h h3;rw [h1] at this;cases this
theorem simp_cd:SimpT CdT:=by
  rintro ⟨s,z,v⟩ u hu
  have hu:u∈[Lf.str s,Lf.int .i64 z,Lf.int .i64 v]:=hu
  simp only [List.mem_cons,List.not_mem_nil,or_false] at hu
  rcases hu with rfl | rfl | rfl <;> rfl
instance:Inhabited CdT.den:=⟨(([],0,0):List UInt8×Int×Int)⟩
def OrdC (l:List Cd):Prop:=l.Pairwise fun a b=>ltC b a=false
def srtC (l:List Cd):List Cd:=l.mergeSort fun a b=>!ltC b a
theorem srtC_ord (l:List Cd):OrdC (srtC l):=by
  have:(srtC l).Pairwise fun a b=>(!ltC b a)=true:=by
    refine List.pairwise_mergeSort (fun a b c h1 h2=>?_) (fun a b=>?_) l
    · simp only [Bool.not_eq_true'] at h1 h2 ⊢
      exact ltC_swo.ntrans c b a h2 h1
    · simp only [Bool.or_eq_true,Bool.not_eq_true']
      cases h:ltC b a with
      | false=>exact .inl rfl
      | true=>exact .inr (ltC_asy h)
  exact this.imp fun h=>by simpa using h
theorem srtC_perm (l:List Cd):(srtC l).Perm l:=List.mergeSort_perm _ _
theorem ordC_uniq {y z:List Cd} (hp:y.Perm z) (hy:OrdC y) (hz:OrdC z):y=z:=
  List.Perm.eq_of_pairwise (le:=fun x y=>ltC y x=false) (fun a b _ _ h1 h2=>ltC_anti h2 h1) hy hz hp
theorem srtC_uniq {l y:List Cd} (hp:y.Perm l) (hs:SrtR ltC ([],0,0) y 0 y.length):y=srtC l:=by
  refine ordC_uniq (hp.trans (srtC_perm l).symm) ?_ (srtC_ord l)
  refine List.pairwise_iff_getElem.2 fun i j hi hj hij=>?_
  have:=hs i j (Nat.zero_le _) hij hj
  rw [getC_lt hi,getC_lt hj] at this
  exact this
def hasK (o:List Cd) (s:List UInt8):Bool:=o.any fun d=>decide (d.1=s)
theorem hasK_iff {o:List Cd} {s:List UInt8}:hasK o s=true↔∃ d∈o,d.1=s:=by simp [hasK]
def onceC (l:List Cd):List Cd:=l.foldl (fun o c=>if hasK o c.1=true then o else o++[c]) []
theorem onceC_snoc (l:List Cd) (c:Cd):onceC (l++[c])=if hasK (onceC l) c.1=true then onceC l else onceC l++[c]:=by
  unfold onceC;rw [List.foldl_append];rfl
theorem onceC_step {l:List Cd} {i:Nat} (hi:i < l.length):onceC (l.take (i+1))=if hasK (onceC (l.take i)) (l.getD i ([],0,0)).1=true then onceC (l.take i) else onceC (l.take i)++[l.getD i ([],0,0)]:=by
  rw [← onceC_snoc,List.take_add_one,List.getElem?_eq_getElem hi,getC_lt hi];rfl
theorem snoc_ind {α:Type} {P:List α→Prop} (h0:P []) (h1:∀ l x,P l→P (l++[x])) (l:List α):P l:=by
  have:∀ n,∀ l:List α,l.length=n→P l:=by
    intro n
    induction n with
    | zero=>intro l h;rw [List.eq_nil_of_length_eq_zero h];exact h0
    | succ n ih=>
      intro l h
      have hne:l≠[]:=by rintro rfl;cases h
      rw [← List.dropLast_concat_getLast hne]
      exact h1 _ _ (ih _ (by rw [List.length_dropLast];omega))
  exact this _ l rfl
theorem onceC_pre (a b:List Cd):onceC a <+: onceC (a++b):=by
  induction b using snoc_ind with
  | h0=>rw [List.append_nil];exact List.prefix_refl _
  | h1 b x ih=>
    rw [← List.append_assoc,onceC_snoc]
    split
    · exact ih
    · exact ih.trans (List.prefix_append _ _)
theorem onceC_take (l:List Cd) (i:Nat):onceC (l.take i)=(onceC l).take (onceC (l.take i)).length:=by
  have:=onceC_pre (l.take i) (l.drop i)
  rw [List.take_append_drop] at this
  exact List.prefix_iff_eq_take.1 this
theorem onceC_len (l:List Cd):(onceC l).length≤l.length:=by
  induction l using snoc_ind with
  | h0=>exact Nat.le_refl _
  | h1 l x ih=>
    rw [onceC_snoc]
    split
    · simp;omega
    · simp;omega
theorem onceC_has (l:List Cd) (s:List UInt8):hasK (onceC l) s=hasK l s:=by
  induction l using snoc_ind with
  | h0=>rfl
  | h1 l x ih=>
    rw [onceC_snoc]
    have e:∀ o:List Cd,hasK (o++[x]) s=(hasK o s||decide (x.1=s)):=fun o=>by simp [hasK]
    split
    · rename_i h
      rw [e,← ih]
      by_cases hx:x.1=s
      · rw [← hx,h];rfl
      · simp [hx]
    · rw [e,e,ih]
theorem onceC_keys (l:List Cd):(onceC l).Pairwise fun x y=>x.1≠y.1:=by
  induction l using snoc_ind with
  | h0=>exact List.Pairwise.nil
  | h1 l x ih=>
    rw [onceC_snoc]
    split
    · exact ih
    · rename_i h
      refine List.pairwise_append.2 ⟨ih,List.pairwise_singleton ..,fun y hy z hz=>?_⟩
      rw [List.mem_singleton.1 hz]
      exact fun e=>h (hasK_iff.2 ⟨y,hy,e⟩)
theorem onceC_sub (l:List Cd):(onceC l).Sublist l:=by
  induction l using snoc_ind with
  | h0=>exact List.Sublist.refl _
  | h1 l x ih=>
    rw [onceC_snoc]
    split
    · exact ih.trans (List.sublist_append_left _ _)
    · exact List.Sublist.append ih (List.Sublist.refl _)
def allC (l:List Cd):List Cd:=onceC (srtC l)
def topE (l:List Cd) (k:Int):Int:=if errC l=0 then (if k < 0∨1000 < k then 2 else 0) else errC l
def topO (l:List Cd) (k:Int):List Cd:=if topE l k=0 then (allC l).take k.toNat else []
theorem top_bad {l:List Cd} {k:Int} (h:¬ errC l=0):topO l k=[]∧errC l=topE l k:=by
  have e:topE l k=errC l:=by unfold topE;rw [if_neg h]
  unfold topO
  rw [e,if_neg h]
  exact ⟨rfl,rfl⟩
theorem top_arg {l:List Cd} {k:Int} (h:errC l=0) (hk:k < 0∨1000 < k):topO l k=[]∧2=topE l k:=by
  have e:topE l k=2:=by unfold topE;rw [if_pos h,if_pos hk]
  unfold topO
  rw [e]
  exact ⟨rfl,rfl⟩
theorem top_of {l:List Cd} {k:Int} (h:errC l=0) (hk:¬ (k < 0∨1000 < k)):topO l k=(allC l).take k.toNat∧0=topE l k:=by
  have e:topE l k=0:=by unfold topE;rw [if_pos h,if_neg hk]
  unfold topO
  rw [e]
  exact ⟨rfl,rfl⟩
end Go.EA
