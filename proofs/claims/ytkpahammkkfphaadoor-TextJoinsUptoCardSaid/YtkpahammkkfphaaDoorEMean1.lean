/- Layer 1: what functions mean. Conditions: none (definitions). -/
import Derived.Test.YtkpahammkkfphaaDoorEK6
set_option linter.unusedVariables false
set_option linter.unusedSimpArgs false
namespace Go.EA
abbrev R32 (l:List Int):List (List Lf):=List.map (fun r=>[Lf.int IntKind.i32 r]) l
def pS (s:List UInt8):List AV:=[.one (.str s)]
theorem Jv (a b:List UInt8) (h:pS a=pS b):a=b:=by simpa [pS] using h
def aj (r:Int):Bool:=Utf8.valid r&&!decide (r=215)&&!decide (r=247)&&!(decide (8192<=r)&&decide (r<=8303))&&(decide (192<=r)||(decide (65<=r)&&decide (r<=90))||(decide (97<=r)&&decide (r<=122)))
def cmpL:List Int->List Int->Int
 |[],[]=>0
 |[],_::_ => -1
 |_::_,[]=>1
 |x::a,y::b=>if x<y then -1 else if y<x then 1 else cmpL a b
theorem qN {α:Type}{a:List α}{i:Nat}(d:α) (h:i<a.length):a.drop i=a.getD i d::a.drop (i+1):=by
 rw[List.drop_eq_getElem_cons h,zA,zB h];rfl
end Go.EA
