/- Layer 9: words in order: the stable sort of a row in its place. Conditions: none. (Printed by a program of this project's own.) -/
import Derived.Test.YtfkejbbajggmnaaDoorESt2
import Derived.KernelRfl
set_option linter.unusedVariables false
set_option linter.unusedSimpArgs false
set_option maxRecDepth 100000
set_option maxHeartbeats 0
namespace Go.EA
open F
def BlkS (l r:List Wd) (s a:Nat):Prop:=PI l r 0 l.length∧∀ p q,p < q→q < a→p / s=q / s→ltW (r.getD q ([],0)) (r.getD p ([],0))=false
def BlkM (l r:List Wd) (s a:Nat):Prop:=BlkS l r (2*s) a∧a≤l.length∧(∃ t,a=t*(2*s))∧∀ p q,a≤p→p < q→q < l.length→p / s=q / s→ltW (r.getD q ([],0)) (r.getD p ([],0))=false
theorem BlkS.step {l r r2:List Wd} {s a b:Nat} (h:BlkS l r s a) (hp:PI r r2 a b) (hs:SrtR ltW ([],0) r2 a b) (hab:a≤b) (hb:b≤l.length) (hx:∀ p q,p < a→a≤q→q < b→p / s≠q / s):BlkS l r2 s b:=by
  refine ⟨h.1.trans (hp.mono (Nat.zero_le _) hb),fun p q h1 h2 h3=>?_⟩
  rcases Nat.lt_or_ge p a with c1 | c1
  · rcases Nat.lt_or_ge q a with c2 | c2
    · rw [hp.outD (.inl c1),hp.outD (.inl c2)];exact h.2 p q h1 c2 h3
    · exact absurd h3 (hx p q c1 c2 h2)
  · exact hs p q c1 h1 h2
theorem div_lt_ge {s t p q:Nat} (h0:0 < s) (h1:p < t*s) (h2:t*s≤q):p / s≠q / s:=by
  have e1:p / s < t:=(Nat.div_lt_iff_lt_mul h0).2 h1
  have e2:t≤q / s:=(Nat.le_div_iff_mul_le h0).2 h2
  omega
theorem div_lo {s t p:Nat} (h0:0 < s) (h1:t*(2*s)≤p) (h2:p < t*(2*s)+s):p / s=2*t:=by
  have e:t*(2*s)=2*t*s:=by rw [← Nat.mul_assoc,Nat.mul_comm t 2]
  refine Nat.div_eq_of_lt_le (by omega) ?_
  rw [Nat.succ_mul];omega
theorem div_hi {s t p:Nat} (h0:0 < s) (h1:t*(2*s)+s≤p) (h2:p < t*(2*s)+2*s):p / s=2*t+1:=by
  have e:t*(2*s)=2*t*s:=by rw [← Nat.mul_assoc,Nat.mul_comm t 2]
  refine Nat.div_eq_of_lt_le ?_ ?_
  · rw [Nat.add_mul];omega
  · rw [Nat.succ_mul,Nat.add_mul];omega
theorem BlkM.lo {l r:List Wd} {s a b:Nat} (h:BlkM l r s a) (h0:0 < s) (hb:b≤l.length) (hab:b≤a+s):SrtR ltW ([],0) r a b:=by
  obtain ⟨_,_,⟨t,rfl⟩,h4⟩:=h
  exact fun p q h1 h2 h3=>h4 p q h1 h2 (by omega) (by rw [div_lo (t:=t) h0 h1 (by omega),div_lo (t:=t) h0 (by omega) (by omega)])
theorem BlkM.hi {l r:List Wd} {s a b:Nat} (h:BlkM l r s a) (h0:0 < s) (hb:b≤l.length) (hab:b≤a+2*s):SrtR ltW ([],0) r (a+s) b:=by
  obtain ⟨_,_,⟨t,rfl⟩,h4⟩:=h
  exact fun p q h1 h2 h3=>h4 p q (by omega) h2 (by omega) (by rw [div_hi (t:=t) h0 h1 (by omega),div_hi (t:=t) h0 (by omega) (by omega)])
theorem BlkM.step {l r r2:List Wd} {s a:Nat} (h:BlkM l r s a) (h0:0 < s) (hb:a+2*s≤l.length) (hp:PI r r2 a (a+2*s)) (hs:SrtR ltW ([],0) r2 a (a+2*s)):BlkM l r2 s (a+2*s):=by
  obtain ⟨h1,h2,⟨t,rfl⟩,h4⟩:=h
  refine ⟨h1.step hp hs (by omega) hb fun p q q1 q2 _=>div_lt_ge (by omega) q1 q2,hb,⟨t+1,by rw [Nat.add_mul];omega⟩,fun p q q1 q2 q3 q4=>?_⟩
  rw [hp.outD (.inr q1),hp.outD (.inr (by omega))]
  exact h4 p q (by omega) q2 q3 q4
end Go.EA
