/- Layer 1: what functions that encode mean. Conditions: none. -/
import Derived.Test.YtmfjbaepgfdfpaaDoorEMean4
set_option linter.unusedVariables false
set_option linter.unusedSimpArgs false
namespace Go.EA
theorem bad_step {l:List Int} {i:Nat} (h:(i:Int) < l.length) (h2:Utf8.valid (l.getD i 0)=true) (ha:(l.take i).all Utf8.valid=true):(l.take (i+1)).all Utf8.valid=true:=by
  have hi:i < l.length:=by omega
  rw [List.getD_eq_getElem?_getD,List.getElem?_eq_getElem hi] at h2
  rw [List.take_add_one,List.all_append,ha,List.getElem?_eq_getElem hi]
  simpa using h2
def encL (l:List Int):List UInt8:=(l.map encB).flatten
def encE (l:List Int):Int:=if l.all Utf8.valid then 0 else 3
def encT (l:List Int):List UInt8:=if l.all Utf8.valid then encL l else []
end Go.EA
