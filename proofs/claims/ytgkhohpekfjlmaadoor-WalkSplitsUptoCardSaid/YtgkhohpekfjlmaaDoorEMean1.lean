/- Layer 1: what functions mean. Conditions: none (definitions). -/
import Derived.Test.YtgkhohpekfjlmaaDoorEK6
set_option linter.unusedVariables false
set_option linter.unusedSimpArgs false
namespace Go.EA
abbrev R32 (l:List Int):List (List Lf):=List.map (fun r=>[Lf.int IntKind.i32 r]) l
def pS (s:List UInt8):List AV:=[.one (.str s)]
theorem Xu (a b:List UInt8) (h:pS a=pS b):a=b:=by simpa [pS] using h
def cmpL:List Int->List Int->Int
 |[],[]=>0
 |[],_::_ => -1
 |_::_,[]=>1
 |x::a,y::b=>if x<y then -1 else if y<x then 1 else cmpL a b
end Go.EA
