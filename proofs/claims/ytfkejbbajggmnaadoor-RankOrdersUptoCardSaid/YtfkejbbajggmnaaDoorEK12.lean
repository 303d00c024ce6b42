/- Texts of the core, one behind the other. Conditions: none. -/
import Derived.Test.YtfkejbbajggmnaaDoorESt3
import Derived.Test.YtfkejbbajggmnaaDoorEMean3
import Derived.Test.YtfkejbbajggmnaaDoorEK9
set_option linter.unusedVariables false
set_option linter.unusedSimpArgs false
section
namespace Go.EA
open F
def SmW (l:List Wd):Prop:=∀ x∈l,x.1.length≤1099511627776
theorem SmW.at {l:List Wd} (h:SmW l) (i:Nat):(l.getD i ([],0)).1.length≤1099511627776:=by
  rw [List.getD_eq_getElem?_getD]
  cases hi:l[i]? with
  | none=>exact Nat.zero_le _
  | some x=>exact h x (List.mem_of_getElem? hi)
def RisP (o:List Wd):Prop:=o.Pairwise fun a b=>sless a.1 b.1=true
theorem getD_lt {l:List Wd} {i:Nat} (h:i < l.length):l.getD i ([],0)=l[i]:=by
  rw [List.getD_eq_getElem?_getD,List.getElem?_eq_getElem h,Option.getD_some]
theorem RisP.at {l:List Wd} (h:RisP l) {i j:Nat} (hij:i < j) (hj:j < l.length):sless (l.getD i ([],0)).1 (l.getD j ([],0)).1=true:=by
  rw [getD_lt (by omega),getD_lt hj]
  exact List.pairwise_iff_getElem.1 h i j (by omega) hj hij
theorem step_all {P:Nat→Prop} {i:Nat} (h:∀ j,j < i→P j) (hi:P i):∀ j,j < i+1→P j:=fun j hj=>by
  rcases Nat.lt_succ_iff_lt_or_eq.1 hj with h1 | rfl
  · exact h j h1
  · exact hi
end Go.EA
end
section
namespace Go.EA
open F
def preB (a b:List UInt8):Bool:=decide (b.length≤a.length∧a.take b.length=b)
def posN (l:List Wd) (s:List UInt8):Nat:=(l.takeWhile fun w=>sless w.1 s).length
def endN (l:List Wd) (s:List UInt8):Nat:=posN l s+((l.drop (posN l s)).takeWhile fun w=>preB w.1 s).length
end Go.EA
end
section
namespace Go.EA
open F
end Go.EA
end
