/- The way back's steps: what they are of, what they cost. Conditions: none. -/
import Derived.Test.YtmfjbaepgfdfpaaDoorERd
import Derived.Test.YtmfjbaepgfdfpaaDoorEK11
set_option linter.unusedVariables false
set_option linter.unusedSimpArgs false
namespace Go.EA
inductive WK:List Int→List Int→List Stp→Prop
  | nil:WK [] [] []
  | keep (x:Int) {a b w}:WK a b w→WK (x::a) (x::b) ((0,x,x)::w)
  | sub (x y:Int) {a b w}:x≠y→WK a b w→WK (x::a) (y::b) ((1,x,y)::w)
  | del (x:Int) {a b w}:WK a b w→WK (x::a) b ((2,x,0)::w)
  | ins (y:Int) {a b w}:WK a b w→WK a (y::b) ((3,0,y)::w)
theorem costL_cons (s:Stp) (w:List Stp):costL (s::w)=costL w+if s.1=0 then 0 else 1:=by
  unfold costL
  rw [List.filter_cons]
  by_cases h:s.1=0
  · simp [h]
  · simp [h]
theorem rdA_cons (s:Stp) (w:List Stp):rdA (s::w)=if s.1=3 then rdA w else s.2.1::rdA w:=by
  unfold rdA
  rw [List.filter_cons]
  by_cases h:s.1=3
  · simp [h]
  · simp [h]
theorem rdB_cons (s:Stp) (w:List Stp):rdB (s::w)=if s.1=2 then rdB w else s.2.2::rdB w:=by
  unfold rdB
  rw [List.filter_cons]
  by_cases h:s.1=2
  · simp [h]
  · simp [h]
theorem walkL_step (x y:Int) (a b:List Int) :
    (kindL (x::a) (y::b)=0∧x=y∧lev (x::a) (y::b)=lev a b∧walkL (x::a) (y::b)=(0,x,y)::walkL a b) ∨
    (kindL (x::a) (y::b)=1∧x≠y∧lev (x::a) (y::b)=lev a b+1∧walkL (x::a) (y::b)=(1,x,y)::walkL a b) ∨
    (kindL (x::a) (y::b)=2∧lev (x::a) (y::b)=lev a (y::b)+1∧walkL (x::a) (y::b)=(2,x,0)::walkL a (y::b)) ∨
    (kindL (x::a) (y::b)=3∧lev (x::a) (y::b)=lev (x::a) b+1∧walkL (x::a) (y::b)=(3,0,y)::walkL (x::a) b):=by
  have hw:=walkL_cons (a:=x::a) (b:=y::b) (by simp)
  have hl:=lev_cons x y a b
  have hk:kindL (x::a) (y::b)=if lev (x::a) b+1 < min (lev a b+if x=y then 0 else 1) (lev a (y::b)+1) then 3 else if lev a (y::b)+1 < (lev a b+if x=y then 0 else 1) then 2 else if x=y then 0 else 1:=rfl
  by_cases h1:lev (x::a) b+1 < min (lev a b+if x=y then 0 else 1) (lev a (y::b)+1)
  · rw [if_pos h1] at hk
    right;right;right
    refine ⟨hk,by rw [hl];omega,?_⟩
    rw [hw,hk];rfl
  · rw [if_neg h1] at hk
    by_cases h2:lev a (y::b)+1 < (lev a b+if x=y then 0 else 1)
    · rw [if_pos h2] at hk
      right;right;left
      refine ⟨hk,by rw [hl];omega,?_⟩
      rw [hw,hk];rfl
    · rw [if_neg h2] at hk
      by_cases h3:x=y
      · rw [if_pos h3] at hk
        rw [if_pos h3] at hl h1 h2
        left
        refine ⟨hk,h3,by rw [hl];omega,?_⟩
        rw [hw,hk];rfl
      · rw [if_neg h3] at hk
        rw [if_neg h3] at hl h1 h2
        right;left
        refine ⟨hk,h3,by rw [hl];omega,?_⟩
        rw [hw,hk];rfl
theorem walk_all:∀ (a b:List Int),WK a b (walkL a b)∧costL (walkL a b)=lev a b
  | [],[]=>⟨.nil,rfl⟩
  | x::a,[]=>by
    have hw:=walkL_cons (a:=x::a) (b:=[]) (by simp)
    have hk:kindL (x::a) []=2:=rfl
    rw [hk] at hw
    have hw:walkL (x::a) []=(2,x,0)::walkL a []:=hw
    obtain ⟨h1,h2⟩:=walk_all a []
    rw [hw]
    refine ⟨.del x h1,?_⟩
    rw [costL_cons,h2,lev_nil_right,lev_nil_right,if_neg (by dsimp only;decide)]
    simp
  | [],y::b=>by
    have hw:=walkL_cons (a:=[]) (b:=y::b) (by simp)
    have hk:kindL [] (y::b)=3:=rfl
    rw [hk] at hw
    have hw:walkL [] (y::b)=(3,0,y)::walkL [] b:=hw
    obtain ⟨h1,h2⟩:=walk_all [] b
    rw [hw]
    refine ⟨.ins y h1,?_⟩
    rw [costL_cons,h2,lev_nil_left,lev_nil_left,if_neg (by dsimp only;decide)]
    simp
  | x::a,y::b=>by
    rcases walkL_step x y a b with ⟨_,rfl,h2,h3⟩ | ⟨_,h1,h2,h3⟩ | ⟨_,h2,h3⟩ | ⟨_,h2,h3⟩
    · obtain ⟨g1,g2⟩:=walk_all a b
      rw [h3,h2]
      exact ⟨.keep x g1,by rw [costL_cons,g2,if_pos rfl,Int.add_zero]⟩
    · obtain ⟨g1,g2⟩:=walk_all a b
      rw [h3,h2]
      exact ⟨.sub x y h1 g1,by rw [costL_cons,g2,if_neg (by dsimp only;decide)];push_cast;rfl⟩
    · obtain ⟨g1,g2⟩:=walk_all a (y::b)
      rw [h3,h2]
      exact ⟨.del x g1,by rw [costL_cons,g2,if_neg (by dsimp only;decide)];push_cast;rfl⟩
    · obtain ⟨g1,g2⟩:=walk_all (x::a) b
      rw [h3,h2]
      exact ⟨.ins y g1,by rw [costL_cons,g2,if_neg (by dsimp only;decide)];push_cast;rfl⟩
termination_by a b=>a.length+b.length
theorem WK.ed {a b:List Int} {w:List Stp} (h:WK a b w):∃ n:Nat,costL w=n∧Ed a b n:=by
  induction h with
  | nil=>exact ⟨0,rfl,.nil⟩
  | keep x h ih=>obtain ⟨n,h1,h2⟩:=ih;exact ⟨n,by rw [costL_cons,h1,if_pos rfl,Int.add_zero],.keep x h2⟩
  | sub x y hn h ih=>obtain ⟨n,h1,h2⟩:=ih;exact ⟨n+1,by rw [costL_cons,h1,if_neg (by dsimp only;decide)];push_cast;rfl,.sub x y h2⟩
  | del x h ih=>obtain ⟨n,h1,h2⟩:=ih;exact ⟨n+1,by rw [costL_cons,h1,if_neg (by dsimp only;decide)];push_cast;rfl,.del x h2⟩
  | ins y h ih=>obtain ⟨n,h1,h2⟩:=ih;exact ⟨n+1,by rw [costL_cons,h1,if_neg (by dsimp only;decide)];push_cast;rfl,.ins y h2⟩
theorem WK.rd {a b:List Int} {w:List Stp} (h:WK a b w):rdA w=a∧rdB w=b:=by
  induction h with
  | nil=>exact ⟨rfl,rfl⟩
  | keep x h ih=>rw [rdA_cons,rdB_cons,if_neg (by dsimp only;decide),if_neg (by dsimp only;decide),ih.1,ih.2];exact ⟨rfl,rfl⟩
  | sub x y hn h ih=>rw [rdA_cons,rdB_cons,if_neg (by dsimp only;decide),if_neg (by dsimp only;decide),ih.1,ih.2];exact ⟨rfl,rfl⟩
  | del x h ih=>rw [rdA_cons,rdB_cons,if_neg (by dsimp only;decide),if_pos rfl,ih.1,ih.2];exact ⟨rfl,rfl⟩
  | ins y h ih=>rw [rdA_cons,rdB_cons,if_pos rfl,if_neg (by dsimp only;decide),ih.1,ih.2];exact ⟨rfl,rfl⟩
theorem valid_zero:Utf8.valid (0:Int)=true:=by decide
theorem WK.ok {a b:List Int} {w:List Stp} (h:WK a b w) (ha:a.all Utf8.valid=true) (hb:b.all Utf8.valid=true):w.all okS=true:=by
  induction h with
  | nil=>rfl
  | keep x h ih=>
    simp only [List.all_cons,Bool.and_eq_true] at ha hb ⊢
    exact ⟨by simp [okS,ha.1],ih ha.2 hb.2⟩
  | sub x y hn h ih=>
    simp only [List.all_cons,Bool.and_eq_true] at ha hb ⊢
    exact ⟨by simp [okS,ha.1,hb.1,hn],ih ha.2 hb.2⟩
  | del x h ih=>
    simp only [List.all_cons,Bool.and_eq_true] at ha ⊢
    exact ⟨by simp [okS,ha.1,valid_zero],ih ha.2 hb⟩
  | ins y h ih=>
    simp only [List.all_cons,Bool.and_eq_true] at hb ⊢
    exact ⟨by simp [okS,hb.1,valid_zero],ih ha hb.2⟩
theorem WK.of:∀ {w:List Stp},w.all okS=true→WK (rdA w) (rdB w) w
  | [],_=>.nil
  | (k,x,y)::w,h=>by
    simp only [List.all_cons,Bool.and_eq_true] at h
    have ih:=WK.of h.2
    have h1:=h.1
    unfold okS at h1
    simp only [Bool.and_eq_true] at h1
    obtain ⟨_,h1⟩:=h1
    by_cases k0:k=0
    · subst k0
      simp only [if_true,decide_eq_true_eq] at h1
      subst h1
      rw [rdA_cons,rdB_cons,if_neg (by dsimp only;decide),if_neg (by dsimp only;decide)]
      exact .keep x ih
    · rw [if_neg k0] at h1
      by_cases k1:k=1
      · subst k1
        simp only [if_true,Bool.not_eq_true',decide_eq_false_iff_not] at h1
        rw [rdA_cons,rdB_cons,if_neg (by dsimp only;decide),if_neg (by dsimp only;decide)]
        exact .sub x y h1 ih
      · rw [if_neg k1] at h1
        by_cases k2:k=2
        · subst k2
          simp only [if_true,decide_eq_true_eq] at h1
          subst h1
          rw [rdA_cons,rdB_cons,if_neg (by dsimp only;decide),if_pos rfl]
          exact .del x ih
        · rw [if_neg k2] at h1
          by_cases k3:k=3
          · subst k3
            simp only [if_true,decide_eq_true_eq] at h1
            subst h1
            rw [rdA_cons,rdB_cons,if_pos rfl,if_neg (by dsimp only;decide)]
            exact .ins y ih
          · rw [if_neg k3] at h1;cases h1
theorem rdA_rev (w:List Stp):rdA w.reverse=(rdA w).reverse:=by unfold rdA;rw [List.filter_reverse,List.map_reverse]
theorem rdB_rev (w:List Stp):rdB w.reverse=(rdB w).reverse:=by unfold rdB;rw [List.filter_reverse,List.map_reverse]
theorem costL_rev (w:List Stp):costL w.reverse=costL w:=by unfold costL;rw [List.filter_reverse,List.length_reverse]
theorem cost_least {l:List Stp} (h:l.all okS=true):(lev (rdA l).reverse (rdB l).reverse:Int)≤costL l:=by
  have h1:l.reverse.all okS=true:=by rw [List.all_reverse];exact h
  obtain ⟨n,e,hn⟩:=(WK.of h1).ed
  rw [rdA_rev,rdB_rev] at hn
  rw [costL_rev] at e
  have:=hn.lev_le
  omega
theorem kind_same (x:Int) (a b:List Int):walkL (x::a) (x::b)=(0,x,x)::walkL a b:=by
  have e:=lev_keep x a b
  have h1:=lev_tri a b (x::b)
  have h2:=lev_tri a b (x::a)
  have h3:lev (x::b) b≤1:=Ed.lev_le (.del x (Ed.refl b))
  have h4:lev a (x::a)≤1:=Ed.lev_le (.ins x (Ed.refl a))
  have hk:kindL (x::a) (x::b)=if lev (x::a) b+1 < min (lev a b+if x=x then 0 else 1) (lev a (x::b)+1) then 3 else if lev a (x::b)+1 < (lev a b+if x=x then 0 else 1) then 2 else if x=x then 0 else 1:=rfl
  rw [if_pos rfl,if_pos rfl,if_neg (by omega),if_neg (by omega)] at hk
  have hw:=walkL_cons (a:=x::a) (b:=x::b) (by simp)
  rw [hw,hk];rfl
theorem WK.zip {a b:List Int} {w:List Stp} (h:WK a b w) (h0:∀ s∈w,s.1≠2∧s.1≠3):w.length=a.length∧w.length=b.length∧∀ i,i < w.length→(w.getD i (0,0,0)).2.1=a.getD i 0∧(w.getD i (0,0,0)).2.2=b.getD i 0∧(w.getD i (0,0,0)).1≤1:=by
  induction h with
  | nil=>exact ⟨rfl,rfl,fun i hi=>by simp at hi⟩
  | keep x h ih=>
    obtain ⟨h1,h2,h3⟩:=ih fun s hs=>h0 s (by simp [hs])
    refine ⟨by simp [h1],by simp [h2],fun i hi=>?_⟩
    cases i with
    | zero=>exact ⟨rfl,rfl,by show (0:Int)≤1;decide⟩
    | succ i=>exact h3 i (by simpa using hi)
  | sub x y hn h ih=>
    obtain ⟨h1,h2,h3⟩:=ih fun s hs=>h0 s (by simp [hs])
    refine ⟨by simp [h1],by simp [h2],fun i hi=>?_⟩
    cases i with
    | zero=>exact ⟨rfl,rfl,by show (1:Int)≤1;decide⟩
    | succ i=>exact h3 i (by simpa using hi)
  | del x h ih=>exact absurd rfl (h0 (2,x,0) (by simp)).1
  | ins y h ih=>exact absurd rfl (h0 (3,0,y) (by simp)).2
end Go.EA
