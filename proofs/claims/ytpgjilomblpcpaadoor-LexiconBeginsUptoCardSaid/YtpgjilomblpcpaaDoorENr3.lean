/- Layer 9, plain: those that begin so stand together. Conditions: none. -/
import Derived.Test.YtpgjilomblpcpaaDoorENr2
set_option linter.unusedVariables false
set_option linter.unusedSimpArgs false
namespace Go.EA
open F
theorem preB_nil (a:List UInt8):preB a []=true:=by simp [preB]
theorem preB_cons (x y:UInt8) (a b:List UInt8):preB (x::a) (y::b)=true↔x=y∧preB a b=true:=by
  simp only [preB,decide_eq_true_eq,List.length_cons,List.take_succ_cons,List.cons.injEq,Nat.add_le_add_iff_right]
  exact ⟨fun ⟨h1,h2,h3⟩=>⟨h2,h1,h3⟩,fun ⟨h1,h2,h3⟩=>⟨h2,h1,h3⟩⟩
theorem pre_gap:∀ {s x y:List UInt8},sless x s=false→preB x s=false→sless x y=true→preB y s=false
  | [],x,y,_,h,_=>by rw [preB_nil] at h;cases h
  | c::s,[],y,h,_,_=>by
    have e:sless [] (c::s)=true:=rfl
    rw [e] at h;cases h
  | c::s,d::x,[],_,_,h=>by rw [sl_nil] at h;cases h
  | c::s,d::x,e::y,h1,h2,h3=>by
    rw [Bool.eq_false_iff] at h1 h2 ⊢
    rw [Ne,sl_cons] at h1
    rw [Ne,preB_cons] at h2 ⊢
    rw [sl_cons] at h3
    rintro ⟨rfl,h4⟩
    rcases h3 with h3 | ⟨rfl,h3⟩
    · exact h1 (.inl h3)
    · have:=pre_gap (s:=s) (x:=x) (y:=y) (by rw [Bool.eq_false_iff];exact fun h=>h1 (.inr ⟨rfl,h⟩)) (by rw [Bool.eq_false_iff];exact fun h=>h2 ⟨rfl,h⟩) h3
      rw [this] at h4;cases h4
theorem pre_ge:∀ {s y:List UInt8},preB y s=true→sless y s=false
  | [],y,_=>by cases y <;> rfl
  | c::s,[],h=>by simp [preB] at h
  | c::s,e::y,h=>by
    rw [preB_cons] at h
    obtain ⟨rfl,h⟩:=h
    rw [Bool.eq_false_iff,Ne,sl_cons]
    rintro (h1 | ⟨_,h1⟩)
    · exact absurd h1 (UInt8.lt_irrefl _)
    · rw [pre_ge h] at h1;cases h1
theorem pre_more (s t:List UInt8):preB (s++t) s=true:=by simp [preB]
theorem pre_of_more {s t y:List UInt8} (h:preB y (s++t)=true):preB y s=true:=by
  have h:=of_decide_eq_true h
  refine decide_eq_true ⟨by have:=h.1;rw [List.length_append] at this;omega,?_⟩
  have e:=congrArg (List.take s.length) h.2
  rw [List.take_take,List.take_append_of_le_length (Nat.le_refl _),List.take_length,List.length_append,Nat.min_eq_left (by omega)] at e
  exact e
theorem sless_more {s t x:List UInt8} (h:sless x s=true):sless x (s++t)=true:=by
  rcases sl_tot x (s++t) with e | e | e
  · exact e
  · rw [e] at h
    rw [pre_ge (pre_more s t)] at h;cases h
  · have:=sl_trans e h
    rw [pre_ge (pre_more s t)] at this;cases this
theorem endN_spec (l:List Wd) (s:List UInt8):posN l s≤endN l s∧endN l s≤l.length∧(∀ j,posN l s≤j→j < endN l s→preB (l.getD j ([],0)).1 s=true)∧(endN l s < l.length→preB (l.getD (endN l s) ([],0)).1 s=false):=by
  have hd:∀ k,(l.drop (posN l s)).getD k ([],0)=l.getD (posN l s+k) ([],0):=fun k=>by
    rw [List.getD_eq_getElem?_getD,List.getD_eq_getElem?_getD,List.getElem?_drop]
  have hp:=posN_le l s
  obtain ⟨h1,h2,h3⟩:=tw_spec (fun w:Wd=>preB w.1 s) ([],0) (l.drop (posN l s))
  rw [List.length_drop] at h1 h3
  unfold endN
  refine ⟨by omega,by omega,fun j j1 j2=>?_,fun h=>?_⟩
  · have:=h2 (j - posN l s) (by omega)
    rw [hd,show posN l s+(j - posN l s)=j by omega] at this
    exact this
  · have:=h3 (by omega)
    rw [hd] at this
    exact this
theorem pre_iff {l:List Wd} (hr:RisP l) {s:List UInt8} {j:Nat} (hj:j < l.length):preB (l.getD j ([],0)).1 s=true↔posN l s≤j∧j < endN l s:=by
  obtain ⟨h1,h2,h3,h4⟩:=endN_spec l s
  refine ⟨fun h=>⟨?_,?_⟩,fun h=>h3 j h.1 h.2⟩
  · rcases Nat.lt_or_ge j (posN l s) with h5 | h5
    · have:=posN_lt h5
      rw [pre_ge h] at this;cases this
    · exact h5
  · rcases Nat.lt_or_ge j (endN l s) with h5 | h5
    · exact h5
    · have h6:=h4 (by omega)
      rcases Nat.lt_or_eq_of_le h5 with h7 | h7
      · have:=pre_gap (posN_ge hr h1 (by omega)) h6 (hr.at h7 hj)
        rw [this] at h;cases h
      · rw [← h7,h6] at h;cases h
theorem pos_more {l:List Wd} (hr:RisP l) (s t:List UInt8):posN l s≤posN l (s++t):=by
  rcases Nat.lt_or_ge (posN l (s++t)) (posN l s) with h | h
  · have h1:=posN_lt h
    have h2:=posN_at (l:=l) (s:=s++t) (by have:=posN_le l s;omega)
    rw [sless_more h1] at h2;cases h2
  · exact h
theorem end_more {l:List Wd} (hr:RisP l) (s t:List UInt8):endN l (s++t)≤endN l s:=by
  obtain ⟨h1,h2,h3,h4⟩:=endN_spec l s
  obtain ⟨g1,g2,g3,g4⟩:=endN_spec l (s++t)
  rcases Nat.lt_or_ge (endN l s) (endN l (s++t)) with h | h
  · exfalso
    have h5:=h4 (by omega)
    rcases Nat.lt_or_ge (endN l s) (posN l (s++t)) with h6 | h6
    · have:=pre_gap (posN_ge hr h1 (by omega)) h5 (posN_lt h6)
      rw [pre_more] at this;cases this
    · have:=pre_of_more (g3 _ h6 h)
      rw [h5] at this;cases this
  · exact h
theorem nor_zero {l:List Wd} (h:norE l=0):norO l=normV l∧errL l=0∧isE (normV l)=0:=by
  have e:norO l=normV l:=by unfold norO;rw [if_pos h]
  unfold norE at h
  split at h
  · rename_i h1
    split at h
    · cases h
    · exact ⟨e,h1,isE_zero.2 ⟨errL_normV h1,normV_ris l,by omega⟩⟩
  · rename_i h1;exact absurd h h1
theorem SmW.norm {l:List Wd} {n:Nat} (h:∀ x∈l,x.1.length≤n):∀ x∈normV l,x.1.length≤n:=fun x hx=>by
  obtain ⟨z,hz,e⟩:=normV_key x hx
  rw [← e];exact h z hz
theorem beg_zero {l:List Wd} (h:isE l=0) (s:List UInt8):begA l s=posN l s∧begB l s=endN l s:=by
  unfold begA begB
  rw [if_pos h,if_pos h]
  exact ⟨rfl,rfl⟩
end Go.EA
