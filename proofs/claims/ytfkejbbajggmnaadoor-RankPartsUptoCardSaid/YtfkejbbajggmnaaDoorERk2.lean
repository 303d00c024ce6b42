/- Layer 15, plain: which candidates are the first ones; the first ones of the first ones. Conditions: none. -/
import Derived.Test.YtfkejbbajggmnaaDoorERk1
set_option linter.unusedVariables false
set_option linter.unusedSimpArgs false
namespace Go.EA
open F Go.Sort
def StrC (l:List Cd):Prop:=l.Pairwise fun a b=>ltC a b=true
theorem allC_str (l:List Cd):StrC (allC l):=by
  have h1:OrdC (allC l):=(srtC_ord l).sublist (onceC_sub _)
  have h2:=onceC_keys (srtC l)
  refine (List.Pairwise.and h1 h2).imp fun {a b} h=>?_
  rcases ltC_tot a b with e | e | e
  · exact e
  · exact absurd (congrArg Prod.fst e) h.2
  · rw [h.1] at e;cases e
theorem allC_keys (l:List Cd):(allC l).Pairwise fun x y=>x.1≠y.1:=onceC_keys _
theorem allC_has (l:List Cd) (s:List UInt8):hasK (allC l) s=hasK l s:=by
  unfold allC
  rw [onceC_has]
  have:∀ a b:List Cd,a.Perm b→hasK a s=true→hasK b s=true:=fun a b h k=>by
    obtain ⟨d,hd,e⟩:=hasK_iff.1 k
    exact hasK_iff.2 ⟨d,h.mem_iff.1 hd,e⟩
  exact Bool.eq_iff_iff.2 ⟨this _ _ (srtC_perm l),this _ _ (srtC_perm l).symm⟩
def LstC (l:List Cd) (c:Cd):Prop:=c∈l∧∀ d∈l,d.1=c.1→ltC d c=false
theorem onceC_mem {l:List Cd} (ho:OrdC l) (c:Cd):c∈onceC l↔LstC l c:=by
  induction l using snoc_ind with
  | h0=>exact ⟨fun h=>(by cases h),fun h=>(by cases h.1)⟩
  | h1 l w ih=>
    obtain ⟨o1,_,o2⟩:=List.pairwise_append.1 ho
    have o2:∀ x∈l,ltC w x=false:=fun x hx=>o2 x hx w (List.mem_singleton.2 rfl)
    have ih:=ih o1
    rw [onceC_snoc]
    split
    · rename_i hk
      rw [onceC_has] at hk
      obtain ⟨d,hd,e⟩:=hasK_iff.1 hk
      rw [ih]
      constructor
      · rintro ⟨k1,k2⟩
        refine ⟨List.mem_append_left _ k1,fun x hx ex=>?_⟩
        rcases List.mem_append.1 hx with hx | hx
        · exact k2 x hx ex
        · rw [List.mem_singleton.1 hx];exact o2 c k1
      · rintro ⟨k1,k2⟩
        have k3:∀ x∈l,x.1=c.1→ltC x c=false:=fun x hx=>k2 x (List.mem_append_left _ hx)
        rcases List.mem_append.1 k1 with k1 | k1
        · exact ⟨k1,k3⟩
        · obtain rfl:=List.mem_singleton.1 k1
          have:c=d:=ltC_anti (o2 d hd) (k3 d hd e)
          exact ⟨this ▸ hd,k3⟩
    · rename_i hk
      rw [onceC_has] at hk
      have hk:∀ x∈l,x.1≠w.1:=fun x hx e=>hk (hasK_iff.2 ⟨x,hx,e⟩)
      rw [List.mem_append,ih,List.mem_singleton]
      constructor
      · rintro (⟨k1,k2⟩ | rfl)
        · refine ⟨List.mem_append_left _ k1,fun x hx ex=>?_⟩
          rcases List.mem_append.1 hx with hx | hx
          · exact k2 x hx ex
          · rw [List.mem_singleton.1 hx] at ex ⊢;exact absurd ex.symm (hk c k1)
        · refine ⟨List.mem_append_right _ (List.mem_singleton.2 rfl),fun x hx ex=>?_⟩
          rcases List.mem_append.1 hx with hx | hx
          · exact absurd ex (hk x hx)
          · rw [List.mem_singleton.1 hx];exact ltC_irr _
      · rintro ⟨k1,k2⟩
        rcases List.mem_append.1 k1 with k1 | k1
        · exact .inl ⟨k1,fun x hx=>k2 x (List.mem_append_left _ hx)⟩
        · exact .inr (List.mem_singleton.1 k1)
theorem allC_mem {l:List Cd} {c:Cd}:c∈allC l↔LstC l c:=by
  unfold allC
  rw [onceC_mem (srtC_ord l)]
  have hm:∀ x,x∈srtC l↔x∈l:=fun x=>(srtC_perm l).mem_iff
  unfold LstC
  rw [hm]
  exact ⟨fun h=>⟨h.1,fun d hd=>h.2 d ((hm d).2 hd)⟩,fun h=>⟨h.1,fun d hd=>h.2 d ((hm d).1 hd)⟩⟩
theorem allC_of {l:List Cd} {d:Cd} (h:d∈l):∃ c∈allC l,c.1=d.1∧ltC d c=false:=by
  have:hasK (allC l) d.1=true:=by rw [allC_has];exact hasK_iff.2 ⟨d,h,rfl⟩
  obtain ⟨c,hc,e⟩:=hasK_iff.1 this
  exact ⟨c,hc,e,(allC_mem.1 hc).2 d h e.symm⟩
theorem strC_nodup {a:List Cd} (h:StrC a):a.Nodup:=h.imp fun {x y} hxy e=>by subst e;rw [ltC_irr] at hxy;cases hxy
theorem strC_ord {a:List Cd} (h:StrC a):OrdC a:=h.imp fun hxy=>ltC_asy hxy
theorem strC_uniq {a b:List Cd} (ha:StrC a) (hb:StrC b) (h:∀ c,c∈a↔c∈b):a=b:=
  ordC_uniq ((List.perm_ext_iff_of_nodup (strC_nodup ha) (strC_nodup hb)).2 h) (strC_ord ha) (strC_ord hb)
theorem sub_len {α:Type} [DecidableEq α]:∀ {a b:List α},a.Nodup→(∀ x∈a,x∈b)→a.length≤b.length
  | [],_,_,_=>Nat.zero_le _
  | x::a,b,hn,hs=>by
    have ⟨h1,h2⟩:=List.nodup_cons.1 hn
    have:=sub_len (a:=a) (b:=b.erase x) h2 fun y hy=>by
      have hne:y≠x:=by rintro rfl;exact h1 hy
      exact (List.mem_erase_of_ne hne).2 (hs y (List.mem_cons_of_mem _ hy))
    rw [List.length_erase_of_mem (hs x (List.mem_cons_self ..))] at this
    have hp:0 < b.length:=List.length_pos_of_mem (hs x (List.mem_cons_self ..))
    simp only [List.length_cons]
    omega
def ahead (l:List Cd) (c:Cd):List Cd:=l.filter fun e=>ltC e c
theorem ahead_at {l:List Cd} (h:StrC l) {i:Nat} (hi:i < l.length):ahead l l[i]=l.take i:=by
  have e:l=l.take i++l[i]::l.drop (i+1):=by
    rw [← List.drop_eq_getElem_cons hi,List.take_append_drop]
  have h':StrC (l.take i++l[i]::l.drop (i+1)):=by rw [← e];exact h
  obtain ⟨_,k2,k3⟩:=List.pairwise_append.1 h'
  have k2:=(List.pairwise_cons.1 k2).1
  unfold ahead
  conv=>lhs;arg 2;rw [e]
  rw [List.filter_append,List.filter_cons,ltC_irr]
  rw [List.filter_eq_self.2 fun x hx=>k3 x hx _ (List.mem_cons_self ..),List.filter_eq_nil_iff.2 fun x hx=>by rw [ltC_asy (k2 x hx)];decide]
  simp
theorem mem_take_iff {l:List Cd} (h:StrC l) {c:Cd} (hc:c∈l) {k:Nat}:c∈l.take k↔(ahead l c).length < k:=by
  obtain ⟨i,hi,rfl⟩:=List.mem_iff_getElem.1 hc
  rw [ahead_at h hi,List.length_take,Nat.min_eq_left (by omega)]
  constructor
  · intro hm
    obtain ⟨j,hj,e⟩:=List.mem_iff_getElem.1 hm
    rw [List.length_take] at hj
    rw [List.getElem_take] at e
    rcases Nat.lt_trichotomy i j with hij | hij | hij
    · have:=List.pairwise_iff_getElem.1 h i j hi (by omega) hij
      rw [e,ltC_irr] at this;cases this
    · omega
    · have:=List.pairwise_iff_getElem.1 h j i (by omega) hi hij
      rw [e,ltC_irr] at this;cases this
  · intro hik
    exact List.mem_iff_getElem.2 ⟨i,by rw [List.length_take];omega,by rw [List.getElem_take]⟩
theorem first_of {l m:List Cd} (hs:∀ x∈l,x∈m) {c:Cd} {k:Nat} (hl:c∈l) (hc:c∈(allC m).take k):c∈(allC l).take k:=by
  have hcm:=List.mem_of_mem_take hc
  have h1:=allC_mem.1 hcm
  have hcl:c∈allC l:=allC_mem.2 ⟨hl,fun d hd=>h1.2 d (hs d hd)⟩
  rw [mem_take_iff (allC_str l) hcl]
  rw [mem_take_iff (allC_str m) hcm] at hc
  refine Nat.lt_of_le_of_lt ?_ hc
  have hmap:((ahead (allC l) c).map (·.1)).length≤((ahead (allC m) c).map (·.1)).length:=by
    refine sub_len ?_ fun s hs'=>?_
    · refine List.pairwise_map.2 ?_
      exact ((allC_keys l).sublist List.filter_sublist)
    · obtain ⟨e,he,rfl⟩:=List.mem_map.1 hs'
      obtain ⟨he1,he2⟩:=List.mem_filter.1 he
      obtain ⟨u,hu1,hu2,hu3⟩:=allC_of (hs e (allC_mem.1 he1).1)
      refine List.mem_map.2 ⟨u,List.mem_filter.2 ⟨hu1,?_⟩,hu2⟩
      rcases ltC_tot u e with h | h | h
      · exact ltC_trans h he2
      · rw [h];exact he2
      · rw [hu3] at h;cases h
  simpa using hmap
theorem parts_of (a b:List Cd) (k:Nat):(allC ((allC a).take k++(allC b).take k)).take k=(allC (a++b)).take k:=by
  have hsub:∀ x∈(allC a).take k++(allC b).take k,x∈a++b:=fun x hx=>by
    rcases List.mem_append.1 hx with hx | hx
    · exact List.mem_append_left _ (allC_mem.1 (List.mem_of_mem_take hx)).1
    · exact List.mem_append_right _ (allC_mem.1 (List.mem_of_mem_take hx)).1
  have hin:∀ c∈(allC (a++b)).take k,c∈allC ((allC a).take k++(allC b).take k):=fun c hc=>by
    have h1:=allC_mem.1 (List.mem_of_mem_take hc)
    refine allC_mem.2 ⟨?_,fun d hd=>h1.2 d (hsub d hd)⟩
    rcases List.mem_append.1 h1.1 with hl | hl
    · exact List.mem_append_left _ (first_of (fun x hx=>List.mem_append_left _ hx) hl hc)
    · exact List.mem_append_right _ (first_of (fun x hx=>List.mem_append_right _ hx) hl hc)
  generalize hU:allC (a++b)=U at hin
  generalize hV:allC ((allC a).take k++(allC b).take k)=V at hin
  have hUs:StrC U:=hU ▸ allC_str _
  have hVs:StrC V:=hV ▸ allC_str _
  have hoth:∀ v∈V,v ∉ U.take k→(U.take k).length=k∧∀ x∈U.take k,ltC x v=true:=by
    intro v hv hn
    have hvm:=allC_mem.1 (hV.symm ▸ hv)
    obtain ⟨u,hu1,hu2,hu3⟩:=allC_of (hsub v hvm.1)
    rw [hU] at hu1
    have hun:u ∉ U.take k:=by
      intro hu
      have hk:(V).Pairwise fun x y=>x.1≠y.1:=hV ▸ allC_keys _
      have huV:=hin u hu
      have:u=v:=by
        obtain ⟨i,hi,rfl⟩:=List.mem_iff_getElem.1 huV
        obtain ⟨j,hj,rfl⟩:=List.mem_iff_getElem.1 hv
        rcases Nat.lt_trichotomy i j with h | h | h
        · exact absurd hu2 (List.pairwise_iff_getElem.1 hk i j hi hj h)
        · subst h;rfl
        · exact absurd hu2.symm (List.pairwise_iff_getElem.1 hk j i hj hi h)
      exact hn (this ▸ hu)
    have hud:u∈U.drop k:=by
      rw [← List.take_append_drop k U] at hu1
      exact (List.mem_append.1 hu1).resolve_left hun
    have hlen:(U.take k).length=k:=by
      have:=List.length_pos_of_mem hud
      rw [List.length_drop] at this
      rw [List.length_take];omega
    refine ⟨hlen,fun x hx=>?_⟩
    have h3:StrC (U.take k++U.drop k):=by rw [List.take_append_drop];exact hUs
    have hxu:=(List.pairwise_append.1 h3).2.2 x hx u hud
    rcases ltC_tot u v with h | h | h
    · exact ltC_trans hxu h
    · rw [← h];exact hxu
    · rw [hu3] at h;cases h
  have hW:V=U.take k++V.filter fun v=>decide (v ∉ U.take k):=by
    refine strC_uniq hVs ?_ fun c=>?_
    · refine List.pairwise_append.2 ⟨hUs.sublist (List.take_sublist _ _),hVs.sublist List.filter_sublist,fun x hx y hy=>?_⟩
      obtain ⟨h1,h2⟩:=List.mem_filter.1 hy
      exact (hoth y h1 (of_decide_eq_true h2)).2 x hx
    · rw [List.mem_append,List.mem_filter]
      constructor
      · intro h
        by_cases hc:c∈U.take k
        · exact .inl hc
        · exact .inr ⟨h,decide_eq_true hc⟩
      · rintro (h | h)
        · exact hin c h
        · exact h.1
  cases hf:V.filter fun v=>decide (v ∉ U.take k) with
  | nil=>
    rw [hf,List.append_nil] at hW
    rw [hW,List.take_take,Nat.min_self]
  | cons v r=>
    have hv:v∈V.filter fun v=>decide (v ∉ U.take k):=by rw [hf];exact List.mem_cons_self ..
    obtain ⟨h1,h2⟩:=List.mem_filter.1 hv
    have hlen:=(hoth v h1 (of_decide_eq_true h2)).1
    rw [hW,List.take_append,hlen,Nat.sub_self,List.take_zero,List.append_nil,List.take_take,Nat.min_self]
end Go.EA
