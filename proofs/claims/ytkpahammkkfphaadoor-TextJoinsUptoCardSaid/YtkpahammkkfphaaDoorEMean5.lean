/- Layer 1: what functions that encode mean. Conditions: none. -/
import Derived.Test.YtkpahammkkfphaaDoorEOrder
set_option linter.unusedVariables false
set_option linter.unusedSimpArgs false
namespace Go.EA
theorem CK {l:List Int}{i:Nat}(h:(i:Int)<l.length) (h2:Utf8.valid (l.getD i 0)=true) (ha:(l.take i).all Utf8.valid=true):(l.take (i+1)).all Utf8.valid=true:=by
 have hi:i<l.length:=by omega
 rw[zA,zB hi] at h2;rw[List.take_add_one,List.all_append,ha,zB hi];simpa using h2
def bf (l:List Int):List UInt8:=(l.map bC).flatten
def rT (l:List Int):Int:=if l.all Utf8.valid then 0 else 3
def eQ (l:List Int):List UInt8:=if l.all Utf8.valid then bf l else []
end Go.EA
