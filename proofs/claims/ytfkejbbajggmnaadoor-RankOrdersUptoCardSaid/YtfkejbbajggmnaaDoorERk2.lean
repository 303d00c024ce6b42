/- Layer 15, plain: which candidates are the first ones; the first ones of the first ones. Conditions: none. -/
import Derived.Test.YtfkejbbajggmnaaDoorERk1
set_option linter.unusedVariables false
set_option linter.unusedSimpArgs false
namespace Go.EA
open F Go.Sort
def StrC (l:List Cd):Prop:=l.Pairwise fun a b=>ltC a b=true
theorem allC_str (l:List Cd):StrC (allC l):=by
  have h1:OrdC (allC l):=(srtC_ord l).sublist (onceC_sub _)
  have h2:=onceC_keys (srtC l)
  refine (List.Pairwise.and h1 h2).imp fun {a b} h=>?_
  rcases ltC_tot a b with e | e | e
  · exact e
  · exact absurd (congrArg Prod.fst e) h.2
  · rw [h.1] at e;cases e
theorem allC_keys (l:List Cd):(allC l).Pairwise fun x y=>x.1≠y.1:=onceC_keys _
theorem allC_has (l:List Cd) (s:List UInt8):hasK (allC l) s=hasK l s:=by
  unfold allC
  rw [onceC_has]
  have:∀ a b:List Cd,a.Perm b→hasK a s=true→hasK b s=true:=fun a b h k=>by
    obtain ⟨d,hd,e⟩:=hasK_iff.1 k
    exact hasK_iff.2 ⟨d,h.mem_iff.1 hd,e⟩
  exact Bool.eq_iff_iff.2 ⟨this _ _ (srtC_perm l),this _ _ (srtC_perm l).symm⟩
def LstC (l:List Cd) (c:Cd):Prop:=c∈l∧∀ d∈l,d.1=c.1→ltC d c=false
theorem onceC_mem {l:List Cd} (ho:OrdC l) (c:Cd):c∈onceC l↔LstC l c:=by
  induction l using snoc_ind with
  | h0=>exact ⟨fun h=>(by cases h),fun h=>(by cases h.1)⟩
  | h1 l w ih=>
    obtain ⟨o1,_,o2⟩:=List.pairwise_append.1 ho
    have o2:∀ x∈l,ltC w x=false:=fun x hx=>o2 x hx w (List.mem_singleton.2 rfl)
    have ih:=ih o1
    rw [onceC_snoc]
    split
    · rename_i hk
      rw [onceC_has] at hk
      obtain ⟨d,hd,e⟩:=hasK_iff.1 hk
      rw [ih]
      constructor
      · rintro ⟨k1,k2⟩
        refine ⟨List.mem_append_left _ k1,fun x hx ex=>?_⟩
        rcases List.mem_append.1 hx with hx | hx
        · exact k2 x hx ex
        · rw [List.mem_singleton.1 hx];exact o2 c k1
      · rintro ⟨k1,k2⟩
        have k3:∀ x∈l,x.1=c.1→ltC x c=false:=fun x hx=>k2 x (List.mem_append_left _ hx)
        rcases List.mem_append.1 k1 with k1 | k1
        · exact ⟨k1,k3⟩
        · obtain rfl:=List.mem_singleton.1 k1
          have:c=d:=ltC_anti (o2 d hd) (k3 d hd e)
          exact ⟨this ▸ hd,k3⟩
    · rename_i hk
      rw [onceC_has] at hk
      have hk:∀ x∈l,x.1≠w.1:=fun x hx e=>hk (hasK_iff.2 ⟨x,hx,e⟩)
      rw [List.mem_append,ih,List.mem_singleton]
      constructor
      · rintro (⟨k1,k2⟩ | rfl)
        · refine ⟨List.mem_append_left _ k1,fun x hx ex=>?_⟩
          rcases List.mem_append.1 hx with hx | hx
          · exact k2 x hx ex
          · rw [List.mem_singleton.1 hx] at ex ⊢;exact absurd ex.symm (hk c k1)
        · refine ⟨List.mem_append_right _ (List.mem_singleton.2 rfl),fun x hx ex=>?_⟩
          rcases List.mem_append.1 hx with hx | hx
          · exact absurd ex (hk x hx)
          · rw [List.mem_singleton.1 hx];exact ltC_irr _
      · rintro ⟨k1,k2⟩
        rcases List.mem_append.1 k1 with k1 | k1
        · exact .inl ⟨k1,fun x hx=>k2 x (List.mem_append_left _ hx)⟩
        · exact .inr (List.mem_singleton.1 k1)
theorem allC_mem {l:List Cd} {c:Cd}:c∈allC l↔LstC l c:=by
  unfold allC
  rw [onceC_mem (srtC_ord l)]
  have hm:∀ x,x∈srtC l↔x∈l:=fun x=>(srtC_perm l).mem_iff
  unfold LstC
  rw [hm]
  exact ⟨fun h=>⟨h.1,fun d hd=>h.2 d ((hm d).2 hd)⟩,fun h=>⟨h.1,fun d hd=>h.2 d ((hm d).1 hd)⟩⟩
theorem allC_of {l:List Cd} {d:Cd} (h:d∈l):∃ c∈allC l,c.1=d.1∧ltC d c=false:=by
  have:hasK (allC l) d.1=true:=by rw [allC_has];exact hasK_iff.2 ⟨d,h,rfl⟩
  obtain ⟨c,hc,e⟩:=hasK_iff.1 this
  exact ⟨c,hc,e,(allC_mem.1 hc).2 d h e.symm⟩
theorem strC_nodup {a:List Cd} (h:StrC a):a.Nodup:=h.imp fun {x y} hxy e=>by subst e;rw [ltC_irr] at hxy;cases hxy
theorem strC_ord {a:List Cd} (h:StrC a):OrdC a:=h.imp fun hxy=>ltC_asy hxy
theorem strC_uniq {a b:List Cd} (ha:StrC a) (hb:StrC b) (h:∀ c,c∈a↔c∈b):a=b:=
  ordC_uniq ((List.perm_ext_iff_of_nodup (strC_nodup ha) (strC_nodup hb)).2 h) (strC_ord ha) (strC_ord hb)
theorem allC_cong {l l':List Cd} (h:∀ c,LstC l c↔LstC l' c):allC l=allC l':=
  strC_uniq (allC_str l) (allC_str l') fun c=>by rw [allC_mem,allC_mem,h]
theorem allC_perm {l l':List Cd} (h:l.Perm l'):allC l=allC l':=allC_cong fun c=>by
  unfold LstC
  rw [h.mem_iff]
  exact ⟨fun k=>⟨k.1,fun d hd=>k.2 d (h.mem_iff.2 hd)⟩,fun k=>⟨k.1,fun d hd=>k.2 d (h.mem_iff.1 hd)⟩⟩
theorem topE_perm {l l':List Cd} (h:l.Perm l') (he:errC l=0) (k:Int):topO l k=topO l' k∧topE l k=topE l' k:=by
  have he':errC l'=0:=(errC_perm h).1 he
  unfold topO topE
  rw [if_pos he,if_pos he',allC_perm h]
  exact ⟨rfl,rfl⟩
def ahead (l:List Cd) (c:Cd):List Cd:=l.filter fun e=>ltC e c
end Go.EA
