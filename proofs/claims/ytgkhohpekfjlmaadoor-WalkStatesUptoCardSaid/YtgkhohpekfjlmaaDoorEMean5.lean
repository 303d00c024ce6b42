/- Layer 1: what functions that encode mean. Conditions: none. -/
import Derived.Test.YtgkhohpekfjlmaaDoorEOrder
set_option linter.unusedVariables false
set_option linter.unusedSimpArgs false
namespace Go.EA
def vI (l:List Int):Int:=if l.all Utf8.valid then -1 else (l.findIdx fun r=>!Utf8.valid r:Nat)
theorem Um {l:List Int}{i:Nat}(h:¬ (i:Int)<l.length) (ha:(l.take i).all Utf8.valid=true):vI l = -1:=by
 rw[List.take_of_length_le (by omega)] at ha;unfold vI;rw[if_pos ha]
theorem Ru {l:List Int}{i:Nat}(h:(i:Int)<l.length) (h2:Utf8.valid (l.getD i 0)=false) (ha:(l.take i).all Utf8.valid=true):vI l=i:=by
 have hi:i<l.length:=by omega
 rw[zA,zB hi,Option.getD_some] at h2;have hn:l.all Utf8.valid=false:=by
  rw[List.all_eq_false];exact⟨l[i],List.getElem_mem hi,by rw[h2];simp⟩
 unfold vI;rw[hn,if_neg (by simp)]
 congr 1
 rw[List.findIdx_eq hi];refine⟨by rw[h2];rfl,fun j hj=>?_⟩;rw[List.all_eq_true] at ha;have:=ha l[j] (List.mem_take_iff_getElem.2 ⟨j,by omega,rfl⟩);rw[this];rfl
theorem Kr {l:List Int}{i:Nat}(h:(i:Int)<l.length) (h2:Utf8.valid (l.getD i 0)=true) (ha:(l.take i).all Utf8.valid=true):(l.take (i+1)).all Utf8.valid=true:=by
 have hi:i<l.length:=by omega
 rw[zA,zB hi] at h2;rw[List.take_add_one,List.all_append,ha,zB hi];simpa using h2
theorem Qu (l:List Int):decide (0<=vI l)=!l.all Utf8.valid:=by
 unfold vI;cases l.all Utf8.valid
 .simp
 .simp
def iR (l:List Int):List UInt8:=(l.map jC).flatten
def Fh (l:List Int):Int:=if l.all Utf8.valid then 0 else 3
def kC (l:List Int):List UInt8:=if l.all Utf8.valid then iR l else []
end Go.EA
