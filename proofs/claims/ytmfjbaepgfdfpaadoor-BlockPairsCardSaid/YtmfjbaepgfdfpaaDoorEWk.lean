/- The steps of two rows, from the last one; a row turned round: plain laws. Conditions: none. -/
import Derived.Test.YtmfjbaepgfdfpaaDoorEDi
set_option linter.unusedVariables false
set_option linter.unusedSimpArgs false
namespace Go.EA
abbrev Stp:Type:=Int×Int×Int
abbrev StpT:Ty:=.pair (.int .i64) (.pair (.int .i32) (.int .i32))
def stepsL:Nat→List Int→List Int→List Stp
  | 0,_,_=>[]
  | n+1,a,b=>
    if a.length+b.length=0 then [] else
    let k:=kindL a b
    (k,(if k≠3 then a.headD 0 else 0),(if k≠2 then b.headD 0 else 0))::stepsL n (if k≠3 then a.tail else a) (if k≠2 then b.tail else b)
def walkL (a b:List Int):List Stp:=stepsL (a.length+b.length) a b
theorem kindL_a {a b:List Int} (h:kindL a b≠3) (h0:a.length+b.length≠0):0 < a.length:=by
  cases a with
  | cons x a=>simp
  | nil=>cases b with
    | nil=>simp at h0
    | cons y b=>exact absurd rfl h
theorem kindL_b {a b:List Int} (h:kindL a b≠2) (h0:a.length+b.length≠0):0 < b.length:=by
  cases b with
  | cons x a=>simp
  | nil=>cases a with
    | nil=>simp at h0
    | cons y b=>exact absurd rfl h
theorem kindL_23 {a b:List Int} (h:kindL a b=3):kindL a b≠2:=by omega
theorem kindL_r (a b:List Int):0≤kindL a b∧kindL a b≤3:=by
  cases a <;> cases b <;> simp only [kindL] <;> (try (repeat' split)) <;> omega
theorem stepsL_fuel:∀ (n:Nat) (a b:List Int),a.length+b.length≤n→stepsL n a b=walkL a b:=by
  intro n
  induction n using Nat.strongRecOn with
  | ind n ih=>
    intro a b h
    unfold walkL
    cases n with
    | zero => have : a.length + b.length = 0 := by omega
              rw [this]
    | succ n=>
      by_cases h0:a.length+b.length=0
      · rw [h0];simp only [stepsL,if_pos h0]
      · obtain ⟨m,hm⟩:∃ m,a.length+b.length=m+1:=⟨a.length+b.length - 1,by omega⟩
        rw [hm]
        simp only [stepsL]
        rw [if_neg h0,if_neg h0]
        have hlen:(if kindL a b≠3 then a.tail else a).length+(if kindL a b≠2 then b.tail else b).length≤m:=by
          by_cases h3:kindL a b≠3
          · have:=kindL_a h3 h0
            rw [if_pos h3,List.length_tail]
            split <;> (try rw [List.length_tail]) <;> omega
          · have h2:=kindL_23 (by omega:kindL a b=3)
            have:=kindL_b h2 h0
            rw [if_neg h3,if_pos h2,List.length_tail];omega
        rw [ih n (by omega) _ _ (by omega),ih m (by omega) _ _ hlen]
theorem walkL_cons {a b:List Int} (h0:a.length+b.length≠0):walkL a b=(kindL a b,(if kindL a b≠3 then a.headD 0 else 0),(if kindL a b≠2 then b.headD 0 else 0))::walkL (if kindL a b≠3 then a.tail else a) (if kindL a b≠2 then b.tail else b):=by
  obtain ⟨m,hm⟩:∃ m,a.length+b.length=m+1:=⟨a.length+b.length - 1,by omega⟩
  conv=>lhs;unfold walkL;rw [hm];simp only [stepsL]
  rw [if_neg h0,stepsL_fuel]
  by_cases h3:kindL a b≠3
  · have:=kindL_a h3 h0
    rw [if_pos h3,List.length_tail]
    split <;> (try rw [List.length_tail]) <;> omega
  · have h2:=kindL_23 (by omega:kindL a b=3)
    have:=kindL_b h2 h0
    rw [if_neg h3,if_pos h2,List.length_tail];omega
theorem walkL_nil:walkL [] []=[]:=rfl
theorem stepsL_len:∀ (n:Nat) (a b:List Int),(stepsL n a b).length≤n
  | 0,a,b=>Nat.le_refl _
  | n+1,a,b=>by
    simp only [stepsL]
    split
    · simp
    · rw [List.length_cons];have:=stepsL_len n;exact Nat.succ_le_succ (this _ _)
theorem walkL_len (a b:List Int):(walkL a b).length≤a.length+b.length:=stepsL_len _ _ _
theorem rv_tail {l:List Int} {i:Nat} (h:0 < i) (hi:i≤l.length):(rv l i).tail=rv l (i - 1)∧(rv l i).headD 0=l.getD (i - 1) 0:=by
  obtain ⟨m,rfl⟩:∃ m,i=m+1:=⟨i - 1,by omega⟩
  rw [rv_succ (by omega)]
  exact ⟨rfl,rfl⟩
def Walk (a b:List Int):Type:={ p:Nat×Nat×List Stp // p.1≤a.length∧p.2.1≤b.length∧p.2.2++walkL (rv a p.1) (rv b p.2.1)=walkL a.reverse b.reverse }
theorem walk_len {a b:List Int} {p:Nat×Nat×List Stp} (h:p.1≤a.length∧p.2.1≤b.length∧p.2.2++walkL (rv a p.1) (rv b p.2.1)=walkL a.reverse b.reverse):p.2.2.length≤a.length+b.length:=by
  have h1:=congrArg List.length h.2.2
  have h2:=walkL_len a.reverse b.reverse
  simp only [List.length_append,List.length_reverse] at h1 h2
  omega
theorem walk_next {a b:List Int} {i j:Nat} {o:List Stp} (hi:i≤a.length) (hj:j≤b.length) (h:o++walkL (rv a i) (rv b j)=walkL a.reverse b.reverse) (h0:0 < i+j) {k:Int} (hk:k=kindL (rv a i) (rv b j)) :
    (k≠3→0 < i)∧(k≠2→0 < j) ∧
    (o++[(k,(if k≠3 then a.getD (i - 1) 0 else 0),(if k≠2 then b.getD (j - 1) 0 else 0))])++walkL (rv a (if k≠3 then i - 1 else i)) (rv b (if k≠2 then j - 1 else j))=walkL a.reverse b.reverse:=by
  subst hk
  have hl:(rv a i).length+(rv b j).length≠0:=by rw [rv_len hi,rv_len hj];omega
  have pa:kindL (rv a i) (rv b j)≠3→0 < i:=fun h=>by have:=kindL_a h hl;rw [rv_len hi] at this;exact this
  have pb:kindL (rv a i) (rv b j)≠2→0 < j:=fun h=>by have:=kindL_b h hl;rw [rv_len hj] at this;exact this
  refine ⟨pa,pb,?_⟩
  rw [← h,List.append_assoc]
  congr 1
  rw [walkL_cons hl]
  by_cases h3:kindL (rv a i) (rv b j)≠3 <;> by_cases h2:kindL (rv a i) (rv b j)≠2
  · obtain ⟨e1,e2⟩:=rv_tail (pa h3) hi
    obtain ⟨e3,e4⟩:=rv_tail (pb h2) hj
    simp only [if_pos h3,if_pos h2,e1,e2,e3,e4,List.singleton_append]
  · obtain ⟨e1,e2⟩:=rv_tail (pa h3) hi
    simp only [if_pos h3,if_neg h2,e1,e2,List.singleton_append]
  · obtain ⟨e3,e4⟩:=rv_tail (pb h2) hj
    simp only [if_neg h3,if_pos h2,e3,e4,List.singleton_append]
  · omega
theorem walk_end {a b:List Int} {i j:Nat} {o:List Stp} (h:o++walkL (rv a i) (rv b j)=walkL a.reverse b.reverse) (h0:i+j=0):o=walkL a.reverse b.reverse:=by
  obtain rfl:i=0:=by omega
  obtain rfl:j=0:=by omega
  rw [rv_zero,rv_zero,walkL_nil,List.append_nil] at h
  exact h
theorem walk_start (a b:List Int):([]:List Stp)++walkL (rv a a.length) (rv b b.length)=walkL a.reverse b.reverse:=by rw [rv_all,rv_all,List.nil_append]
theorem kind_read {a b:List Int} {i j:Nat} {p:Nat} (hi:i≤a.length) (hj:j≤b.length) (hp:gN a b≤p):(gK a b p).getD ((i:Int)*((b.length:Int)+1)+(j:Int)).toNat 0=kindL (rv a i) (rv b j):=by
  have:=place_lt hi hj
  rw [place,Int.toNat_natCast,tabl_get this,if_pos (by omega),kindAt_at hj]
section
variable {α:Type}
def Rvd (d:α) (l:List α) (p:Nat×List α):Prop:=p.2.length=l.length∧2*p.1≤l.length+1∧∀ q,q < l.length→p.2.getD q d=if q < p.1∨l.length≤q+p.1 then l.getD (l.length - 1 - q) d else l.getD q d
theorem rvd_zero (d:α) (l:List α):Rvd d l (0,l):=⟨rfl,by simp,fun q hq=>by rw [if_neg (by dsimp only;omega)]⟩
theorem getD_set' (d:α) (l:List α) (i q:Nat) (x:α):(l.set i x).getD q d=if i=q∧q < l.length then x else l.getD q d:=by
  simp only [List.getD_eq_getElem?_getD,List.getElem?_set]
  by_cases h:i=q
  · subst h
    by_cases h1:i < l.length
    · simp [h1]
    · simp [h1]
  · simp [h]
theorem rvd_step {d:α} {l r:List α} {i j:Nat} (h:Rvd d l (i,r)) (hj:i+j+1=l.length) (hij:i < j):Rvd d l (i+1,(r.set i (r.getD j d)).set j (r.getD i d)):=by
  obtain ⟨h1,h2,h3⟩:=h
  dsimp only at h1 h2 h3
  refine ⟨by simp [h1],by dsimp only;omega,fun q hq=>?_⟩
  dsimp only
  have ei:=h3 i (by omega)
  have ej:=h3 j (by omega)
  rw [if_neg (by omega)] at ei ej
  rw [getD_set',getD_set',List.length_set,ei,ej,h3 q hq]
  have c1:l.length - 1 - i=j:=by omega
  have c2:l.length - 1 - j=i:=by omega
  by_cases hqj:j=q
  · subst hqj
    rw [if_pos ⟨rfl,by omega⟩,if_pos (by omega),c2]
  · rw [if_neg (by omega)]
    by_cases hqi:i=q
    · subst hqi
      rw [if_pos ⟨rfl,by omega⟩,if_pos (by omega),c1]
    · rw [if_neg (by omega)]
      by_cases hc:q < i∨l.length≤q+i
      · rw [if_pos hc,if_pos (by omega)]
      · rw [if_neg hc,if_neg (by omega)]
theorem rvd_end {d:α} {l r:List α} {i:Nat} (h:Rvd d l (i,r)) (hi:l.length≤2*i+1):r=l.reverse:=by
  obtain ⟨h1,h2,h3⟩:=h
  dsimp only at h1 h2 h3
  apply List.ext_getElem?
  intro q
  by_cases hq:q < l.length
  · have:=h3 q hq
    rw [List.getElem?_reverse hq,List.getElem?_eq_getElem (by omega),List.getElem?_eq_getElem (by omega)]
    rw [List.getD_eq_getElem?_getD,List.getElem?_eq_getElem (by omega),Option.getD_some] at this
    rw [this]
    split
    · rw [List.getD_eq_getElem?_getD,List.getElem?_eq_getElem (by omega),Option.getD_some]
    · rw [List.getD_eq_getElem?_getD,List.getElem?_eq_getElem (by omega),Option.getD_some]
      congr 2
      omega
  · rw [List.getElem?_eq_none (by omega),List.getElem?_eq_none (by simp;omega)]
end
def stepsV (s t:List UInt8):List Stp:=if twoE s t=0 then (walkL (tokR s).reverse (tokR t).reverse).reverse else []
theorem stepsV_ok {s t:List UInt8} (h:tokE s=0) (h1:tokE t=0):stepsV s t=(walkL (tokR s).reverse (tokR t).reverse).reverse:=by unfold stepsV;rw [if_pos (two_ok h h1).1]
theorem stepsV_no {s t:List UInt8} (h:¬ twoE s t=0):stepsV s t=[]:=by unfold stepsV;rw [if_neg h]
end Go.EA
