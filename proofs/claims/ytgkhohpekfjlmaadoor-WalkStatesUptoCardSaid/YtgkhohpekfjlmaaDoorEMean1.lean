/- Layer 1: what functions mean. Conditions: none (definitions). -/
import Derived.Test.YtgkhohpekfjlmaaDoorEK6
set_option linter.unusedVariables false
set_option linter.unusedSimpArgs false
namespace Go.EA
abbrev R32 (l:List Int):List (List Lf):=List.map (fun r=>[Lf.int IntKind.i32 r]) l
def pS (s:List UInt8):List AV:=[.one (.str s)]
theorem YT (a b:List UInt8) (h:pS a=pS b):a=b:=by simpa [pS] using h
def cmpL:List Int->List Int->Int
 |[],[]=>0
 |[],_::_ => -1
 |_::_,[]=>1
 |x::a,y::b=>if x<y then -1 else if y<x then 1 else cmpL a b
theorem wC:∀{a b:List Int},cmpL a b=0↔a=b
 |[],[]=>by simp[cmpL]
 |[],_::_=>by simp[cmpL]
 |_::_,[]=>by simp[cmpL]
 | x::a,y::b=>by
   simp only[cmpL];split
   .simp;omega
   .split
    .simp;omega
    .rw[wC (a:=a)];have:x=y:=by omega
     simp[this]
theorem mH {α:Type}{a:List α}{i:Nat}(d:α) (h:i<a.length):a.drop i=a.getD i d::a.drop (i+1):=by
 rw[List.drop_eq_getElem_cons h,zA,zB h];rfl
theorem JN (a b:List Int) (i:Nat):cmpL (a.drop i) (b.drop i)=if i<a.length then (if i<b.length then (if a.getD i 0<b.getD i 0 then -1 else if b.getD i 0<a.getD i 0 then 1 else cmpL (a.drop (i+1)) (b.drop (i+1))) else 1) else if i<b.length then -1 else 0:=by
 by_cases h1:i<a.length <;> by_cases h2:i<b.length
 .rw[if_pos h1,if_pos h2,mH 0 h1,mH 0 h2];rfl
 .rw[if_pos h1,if_neg h2,mH 0 h1,List.drop_eq_nil_of_le (by omega:b.length<=i)];rfl
 .rw[if_neg h1,if_pos h2,mH 0 h2,List.drop_eq_nil_of_le (by omega:a.length<=i)];rfl
 .rw[if_neg h1,if_neg h2,List.drop_eq_nil_of_le (by omega:b.length<=i),List.drop_eq_nil_of_le (by omega:a.length<=i)];rfl
end Go.EA
