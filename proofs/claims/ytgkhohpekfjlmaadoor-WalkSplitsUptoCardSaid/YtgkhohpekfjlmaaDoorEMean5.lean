/- Layer 1: what functions that encode mean. Conditions: none. -/
import Derived.Test.YtgkhohpekfjlmaaDoorEOrder
set_option linter.unusedVariables false
set_option linter.unusedSimpArgs false
namespace Go.EA
def vJ (l:List Int):Int:=if l.all Utf8.valid then -1 else (l.findIdx fun r=>!Utf8.valid r:Nat)
theorem RZ {l:List Int}{i:Nat}(h:¬ (i:Int)<l.length) (ha:(l.take i).all Utf8.valid=true):vJ l = -1:=by
 rw[List.take_of_length_le (by omega)] at ha;unfold vJ;rw[if_pos ha]
theorem Sc {l:List Int}{i:Nat}(h:(i:Int)<l.length) (h2:Utf8.valid (l.getD i 0)=false) (ha:(l.take i).all Utf8.valid=true):vJ l=i:=by
 have hi:i<l.length:=by omega
 rw[zA,zB hi,Option.getD_some] at h2;have hn:l.all Utf8.valid=false:=by
  rw[List.all_eq_false];exact⟨l[i],List.getElem_mem hi,by rw[h2];simp⟩
 unfold vJ;rw[hn,if_neg (by simp)]
 congr 1
 rw[List.findIdx_eq hi];refine⟨by rw[h2];rfl,fun j hj=>?_⟩;rw[List.all_eq_true] at ha;have:=ha l[j] (List.mem_take_iff_getElem.2 ⟨j,by omega,rfl⟩);rw[this];rfl
theorem NB {l:List Int}{i:Nat}(h:(i:Int)<l.length) (h2:Utf8.valid (l.getD i 0)=true) (ha:(l.take i).all Utf8.valid=true):(l.take (i+1)).all Utf8.valid=true:=by
 have hi:i<l.length:=by omega
 rw[zA,zB hi] at h2;rw[List.take_add_one,List.all_append,ha,zB hi];simpa using h2
theorem Ps (l:List Int):decide (0<=vJ l)=!l.all Utf8.valid:=by
 unfold vJ;cases l.all Utf8.valid
 .simp
 .simp
def bv (l:List Int):List UInt8:=(l.map jd).flatten
def Ew (l:List Int):Int:=if l.all Utf8.valid then 0 else 3
def iJ (l:List Int):List UInt8:=if l.all Utf8.valid then bv l else []
end Go.EA
