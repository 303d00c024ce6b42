/- The first rune of some bytes, by its bytes. Conditions: none. -/
import Derived.Test.YtfkejbbajggmnaaDoorEMean2
set_option linter.unusedVariables false
set_option linter.unusedSimpArgs false
namespace Go.EA
theorem byt_lt (s:List UInt8) (k:Nat):byt s k < 256:=(s.getD k 0).toNat_lt
theorem tk1:∀ {l:List UInt8},1≤l.length→l.take 1=[l.getD 0 0]
  | _::_,_=>by simp
theorem tk2:∀ {l:List UInt8},2≤l.length→l.take 2=[l.getD 0 0,l.getD 1 0]
  | [_],h=>by simp at h
  | _::_::_,_=>by simp
theorem tk3:∀ {l:List UInt8},3≤l.length→l.take 3=[l.getD 0 0,l.getD 1 0,l.getD 2 0]
  | [_],h=>by simp at h
  | [_,_],h=>by simp at h
  | _::_::_::_,_=>by simp
theorem tk4:∀ {l:List UInt8},4≤l.length→l.take 4=[l.getD 0 0,l.getD 1 0,l.getD 2 0,l.getD 3 0]
  | [_],h=>by simp at h
  | [_,_],h=>by simp at h
  | [_,_,_],h=>by simp at h
  | _::_::_::_::_,_=>by simp
theorem of8 {m:Nat} {x:UInt8} (h:m=x.toNat):UInt8.ofNat m=x:=by subst h;exact UInt8.ofNat_toNat
theorem isR_full {s:List UInt8} (h:s≠[]) (hr:isR s=true) :
    (byt s 0 < 0x80∧dec s=(byt s 0,1))
    ∨ (byt s 0 / 32=6∧ct s 1=true∧(byt s 0 % 32)*64+byt s 1 % 64 ≥ 0x80∧dec s=((byt s 0 % 32)*64+byt s 1 % 64,2))
    ∨ (byt s 0 / 16=14∧ct s 1=true∧ct s 2=true∧((byt s 0 % 16)*4096+(byt s 1 % 64)*64+byt s 2 % 64 ≥ 0x800∧Utf8.valid ((byt s 0 % 16)*4096+(byt s 1 % 64)*64+byt s 2 % 64:Nat)=true)∧dec s=((byt s 0 % 16)*4096+(byt s 1 % 64)*64+byt s 2 % 64,3))
    ∨ (byt s 0 / 8=30∧ct s 1=true∧ct s 2=true∧ct s 3=true∧((byt s 0 % 8)*262144+(byt s 1 % 64)*4096+(byt s 2 % 64)*64+byt s 3 % 64 ≥ 0x10000∧Utf8.valid ((byt s 0 % 8)*262144+(byt s 1 % 64)*4096+(byt s 2 % 64)*64+byt s 3 % 64:Nat)=true)∧dec s=((byt s 0 % 8)*262144+(byt s 1 % 64)*4096+(byt s 2 % 64)*64+byt s 3 % 64,4)):=by
  unfold isR at hr
  rw [dec_eq h] at hr ⊢
  unfold decB at hr ⊢
  split at hr
  · rename_i h1;rw [if_pos h1];exact .inl ⟨h1,rfl⟩
  · rename_i h1
    rw [if_neg h1]
    split at hr
    · rename_i h2
      rw [if_pos h2]
      simp only [Bool.and_eq_true,beq_iff_eq] at h2
      split at hr
      · rename_i h3;rw [if_pos h3];exact .inr (.inl ⟨h2.1,h2.2,h3,rfl⟩)
      · simp at hr
    · rename_i h2
      rw [if_neg h2]
      split at hr
      · rename_i h3
        rw [if_pos h3]
        simp only [Bool.and_eq_true,beq_iff_eq] at h3
        split at hr
        · rename_i h4;rw [if_pos h4]
          simp only [Bool.and_eq_true,decide_eq_true_eq] at h4
          exact .inr (.inr (.inl ⟨h3.1.1,h3.1.2,h3.2,h4,rfl⟩))
        · simp at hr
      · rename_i h3
        rw [if_neg h3]
        split at hr
        · rename_i h4
          rw [if_pos h4]
          simp only [Bool.and_eq_true,beq_iff_eq] at h4
          split at hr
          · rename_i h5;rw [if_pos h5]
            simp only [Bool.and_eq_true,decide_eq_true_eq] at h5
            exact .inr (.inr (.inr ⟨h4.1.1.1,h4.1.1.2,h4.1.2,h4.2,h5,rfl⟩))
          · simp at hr
        · simp at hr
theorem enc_dec {s:List UInt8} (h:s≠[]) (hr:isR s=true):Utf8.valid ((dec s).1:Int)=true∧encB ((dec s).1:Int)=s.take (dec s).2:=by
  have k0:=byt_lt s 0
  have k1:=byt_lt s 1
  have k2:=byt_lt s 2
  have k3:=byt_lt s 3
  have hw:=dec_width h
  rcases isR_full h hr with ⟨a,e⟩ | ⟨a,c1,g,e⟩ | ⟨a,c1,c2,g,e⟩ | ⟨a,c1,c2,c3,g,e⟩ <;> rw [e] at hw ⊢ <;> dsimp only at hw ⊢
  · have hv:Utf8.valid ((byt s 0:Nat):Int)=true:=valid_iff.2 (by omega)
    refine ⟨hv,?_⟩
    rw [encB_eq hv,if_pos (by omega),tk1 hw.2]
    simp only [List.cons.injEq,and_true]
    exact of8 (by unfold byt;omega)
  · rw [ct_iff] at c1
    have hv:Utf8.valid (((byt s 0 % 32)*64+byt s 1 % 64:Nat):Int)=true:=valid_iff.2 (by omega)
    refine ⟨hv,?_⟩
    rw [encB_eq hv,if_neg (by omega),if_pos (by omega),tk2 hw.2]
    simp only [List.cons.injEq,and_true]
    exact ⟨of8 (by show _=byt s 0;omega),of8 (by show _=byt s 1;omega)⟩
  · rw [ct_iff] at c1 c2
    refine ⟨g.2,?_⟩
    rw [encB_eq g.2,if_neg (by omega),if_neg (by omega),if_pos (by omega),tk3 hw.2]
    simp only [List.cons.injEq,and_true]
    exact ⟨of8 (by show _=byt s 0;omega),of8 (by show _=byt s 1;omega),of8 (by show _=byt s 2;omega)⟩
  · rw [ct_iff] at c1 c2 c3
    have hv:=valid_iff.1 g.2
    refine ⟨g.2,?_⟩
    rw [encB_eq g.2,if_neg (by omega),if_neg (by omega),if_neg (by omega),tk4 hw.2]
    simp only [List.cons.injEq,and_true]
    exact ⟨of8 (by show _=byt s 0;omega),of8 (by show _=byt s 1;omega),of8 (by show _=byt s 2;omega),of8 (by show _=byt s 3;omega)⟩
end Go.EA
