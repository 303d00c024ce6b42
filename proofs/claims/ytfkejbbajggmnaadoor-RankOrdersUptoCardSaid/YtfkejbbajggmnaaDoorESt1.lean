/- Layer 9: words in order: exchanges, rotations, insertions, merges of a row in its place. Conditions: none. (Printed by a program of this project's own.) -/
import Derived.Test.YtfkejbbajggmnaaDoorEAf9
import Derived.Test.YtfkejbbajggmnaaDoorECs
import Derived.Test.YtfkejbbajggmnaaDoorESrt
import Derived.Test.YtfkejbbajggmnaaDoorEK9
import Derived.KernelRfl
set_option linter.unusedVariables false
set_option linter.unusedSimpArgs false
set_option maxRecDepth 100000
set_option maxHeartbeats 0
namespace Go.EA
open F
theorem sl_irr:∀ (a:List UInt8),sless a a=false
  | []=>rfl
  | x::a=>by
    show (decide (x < x)||(x == x&&sless a a))=false
    rw [sl_irr a];simp
theorem sl_nil (a:List UInt8):sless a []=false:=by cases a <;> rfl
theorem sl_cons (x y:UInt8) (a b:List UInt8):sless (x::a) (y::b)=true↔x < y∨x=y∧sless a b=true:=by
  show (decide (x < y)||(x == y&&Op.bytesLess a b))=true↔_
  simp
theorem sl_trans:∀ {a b c:List UInt8},sless a b=true→sless b c=true→sless a c=true
  | _,_,[],_,h=>by rw [sl_nil] at h;cases h
  | [],_,_::_,_,_=>rfl
  | _::_,[],_::_,h,_=>by rw [sl_nil] at h;cases h
  | x::a,y::b,z::c,h,h'=>by
    rw [sl_cons] at *
    rcases h with h | ⟨rfl,h⟩
    · rcases h' with h' | ⟨rfl,h'⟩
      · exact .inl (UInt8.lt_trans h h')
      · exact .inl h
    · rcases h' with h' | ⟨rfl,h'⟩
      · exact .inl h'
      · exact .inr ⟨rfl,sl_trans h h'⟩
theorem sl_tot:∀ (a b:List UInt8),sless a b=true∨a=b∨sless b a=true
  | [],[]=>.inr (.inl rfl)
  | [],_::_=>.inl rfl
  | _::_,[]=>.inr (.inr rfl)
  | x::a,y::b=>by
    rw [sl_cons,sl_cons]
    rcases Nat.lt_trichotomy x.toNat y.toNat with h | h | h
    · exact .inl (.inl h)
    · have:=UInt8.toNat_inj.1 h
      subst this
      rcases sl_tot a b with h | rfl | h
      · exact .inl (.inr ⟨rfl,h⟩)
      · exact .inr (.inl rfl)
      · exact .inr (.inr (.inr ⟨rfl,h⟩))
    · exact .inr (.inr (.inl h))
theorem sl_asy {a b:List UInt8} (h:sless a b=true):sless b a=false:=by
  cases h1:sless b a
  · rfl
  · have:=sl_trans h h1;rw [sl_irr] at this;cases this
abbrev Wd:Type:=List UInt8×Int
abbrev WdT:Ty:=.pair .str (.int .i64)
def ltW (a b:Wd):Bool:=sless a.1 b.1
theorem cmp_lt (a b:List UInt8):cmpS a b < 0↔sless a b=true:=by
  unfold cmpS
  split
  · rename_i h;exact ⟨fun _=>h,fun _=>by decide⟩
  · rename_i h
    split
    · exact ⟨fun h=>absurd h (by decide),fun h'=>absurd h' h⟩
    · exact ⟨fun h=>absurd h (by decide),fun h'=>absurd h' h⟩
theorem sl_ntr (x y z:List UInt8) (h1:sless x y=false) (h2:sless y z=false):sless x z=false:=by
  cases h:sless x z with
  | false=>rfl
  | true=>
    exfalso
    rcases sl_tot x y with h3 | h3 | h3
    · rw [h3] at h1;cases h1
    · subst h3;rw [h2] at h;cases h
    · have:=sl_trans h3 h;rw [this] at h2;cases h2
theorem ltW_swo:SWo ltW:=⟨fun x=>sl_irr x.1,fun x y z=>sl_ntr x.1 y.1 z.1,fun x y h=>sl_asy h⟩
structure RotI (l:List Wd) (a m b i j:Nat) (r:List Wd):Prop where
  i0:0 < i
  j0:0 < j
  im:i≤m - a
  jb:m+j≤b
  len:r.length=l.length
  eq:rotL r (m - i) m (m+j)=rotL l a m b
structure InsI (l:List Wd) (a b i j:Nat) (r:List Wd):Prop where
  aj:a≤j
  ji:j≤i
  pi:PI l r a b
  srt:∀ p q,a≤p→p < q→q≤i→q≠j→ltW (r.getD q ([],0)) (r.getD p ([],0))=false
theorem InsI.done {l r:List Wd} {a b i j:Nat} (h:InsI l a b i j r) (hi:i < b) (hj:j=a∨ltW (r.getD j ([],0)) (r.getD (j - 1) ([],0))=false):PI l r a b∧SrtR ltW ([],0) r a (i+1):=by
  refine ⟨h.pi,fun p q h1 h2 h3=>?_⟩
  by_cases e:q=j
  · subst e
    rcases hj with hj | hj
    · omega
    · rcases Nat.lt_or_ge p (q - 1) with c | c
      · exact ltW_swo.ntr _ _ _ hj (h.srt p (q - 1) h1 c (by have:=h.ji;omega) (by omega))
      · rw [show p=q - 1 by omega];exact hj
  · exact h.srt p q h1 h2 (by omega) e
theorem InsI.step {l r:List Wd} {a b i j:Nat} (h:InsI l a b i j r) (hi:i < b) (hb:b≤l.length) (hj:a < j) (hlt:ltW (r.getD j ([],0)) (r.getD (j - 1) ([],0))=true):InsI l a b i (j - 1) (swpL r ([],0) j (j - 1)):=by
  have hji:=h.ji
  have hl:=h.pi.len
  refine ⟨by omega,by omega,h.pi.trans (swpL_PI (by omega) (by omega) (by omega)),fun p q h1 h2 h3 h4=>?_⟩
  have g:=fun p=>swpL_get (l:=r) (d:=(([],0):Wd)) (i:=j) (j:=j - 1) (p:=p) (by omega) (by omega)
  rw [g,g,if_neg h4]
  by_cases e:q=j
  · rw [if_pos e]
    by_cases e1:p=j - 1
    · rw [if_pos e1];exact ltW_swo.asy _ _ hlt
    · rw [if_neg e1,if_neg (by omega)]
      exact h.srt p (j - 1) h1 (by omega) (by omega) (by omega)
  · rw [if_neg e]
    by_cases e1:p=j - 1
    · rw [if_pos e1]
      exact h.srt j q (by omega) (by omega) h3 e
    · rw [if_neg e1]
      by_cases e2:p=j
      · rw [if_pos e2]
        exact h.srt (j - 1) q (by omega) (by omega) h3 e
      · rw [if_neg e2]
        exact h.srt p q h1 h2 h3 e
end Go.EA
