/- A rune's bytes by the operations on bits that Go's library writes. Conditions: none. -/
import Derived.Test.YtkpahammkkfphaaDoorEMean5
import Derived.Test.YtkpahammkkfphaaDoorENorm2
set_option linter.unusedVariables false
set_option linter.unusedSimpArgs false
set_option maxRecDepth 100000
namespace Go.EA
def encI (r:Int):List Int:=(bC r).map fun x=>(x.toNat:Int)
theorem DN {r:Int}(h:Utf8.valid r=true) (h1:r<128):encI r=[r]:=by
 have hv:=aY.1 h;unfold encI;rw[dJ h,if_pos (by omega)];simp only[zK,List.map_nil,zG,and_true];rw[b8 (by omega)];omega
theorem DT {r:Int}(h:Utf8.valid r=true) (h0:128<=r) (h1:r<2048):encI r=[192+r / 64,128+r % 64]:=by
 unfold encI;rw[dJ h,if_neg (by omega),if_pos (by omega)];simp only[zK,List.map_nil,zG,and_true];rw[b8 (by omega),b8 (by omega)];omega
theorem BM {r:Int}(h:Utf8.valid r=true) (h0:2048<=r) (h1:r<65536):encI r=[224+r / 4096,128+r / 64 % 64,128+r % 64]:=by
 unfold encI;rw[dJ h,if_neg (by omega),if_neg (by omega),if_pos (by omega)];simp only[zK,List.map_nil,zG,and_true];rw[b8 (by omega),b8 (by omega),b8 (by omega)];omega
theorem BN {r:Int}(h:Utf8.valid r=true) (h0:65536<=r):encI r=[240+r / 262144,128+r / 4096 % 64,128+r / 64 % 64,128+r % 64]:=by
 have hv:=aY.1 h;unfold encI;rw[dJ h,if_neg (by omega),if_neg (by omega),if_neg (by omega)];simp only[zK,List.map_nil,zG,and_true];rw[b8 (by omega),b8 (by omega),b8 (by omega),b8 (by omega)];omega
def iC (l:List Int):List Int:=(l.map encI).flatten
theorem oH (l:List Int):iC l=(bf l).map fun x=>(x.toNat:Int):=by
 unfold iC bf;rw[List.map_flatten,List.map_map]
 rfl
theorem ru:∀(l:List Int),l.all Utf8.valid=true->(iC l).length<=4*l.length
 |[],_=>by simp[iC]
 | x::l,h=>by
   rw[List.all_cons,zH] at h;have ih:=ru l h.2;have e:iC (x::l)=encI x++iC l:=rfl;rw[e,zL,zM];have hx:(encI x).length<=4:=by
    have hv:=aY.1 h.1;by_cases a:x<128
    .rw[DN h.1 a];simp
    .by_cases b:x<2048
     .rw[DT h.1 (by omega) b];simp
     .by_cases c:x<65536
      .rw[BM h.1 (by omega) c];simp
      .rw[BN h.1 (by omega)];simp
   omega
theorem wC {l:List Int}{i:Nat}(h:(i:Int)<l.length):iC (l.take (i+1))=iC (l.take i)++encI (l.getD i 0):=by
 have hi:i<l.length:=by omega
 rw[List.take_add_one,zB hi,zA,zB hi];unfold iC;rw[List.map_append,List.flatten_append];simp
theorem CG {l:List Int}(h:l.all Utf8.valid=false):eQ l=[]/\rT l=3:=by
 unfold eQ rT;rw[h];exact⟨rfl,rfl⟩
theorem Ai {l:List Int}(h:l.all Utf8.valid=true):eQ l=bf l/\rT l=0:=by
 unfold eQ rT;rw[if_pos h,if_pos h];exact⟨rfl,rfl⟩
theorem Gg {l:List Int}{i:Nat}{o:List UInt8}(h:(l.take i).all Utf8.valid=true) (hl:l.length<=1099511627776) (ho:o=bf (l.take i)):o.length<=4398046511104:=by
 have:=ru _ h;rw[oH,<- ho,zR,zP] at this;omega
theorem Gn {r:Int}(h:Utf8.valid r=true):bC r≠[]:=by
 rw[dJ h];split
 .simp
 .split
  .simp
  .split <;> simp
theorem vD {r:Int}(h:Utf8.valid r=true):(bC r).length<=4:=by
 rw[dJ h];split
 .simp
 .split
  .simp
  .split <;> simp
theorem Gz {l:List Int}{i:Nat}(h:(i:Int)<l.length) (h2:Utf8.valid (l.getD i 0)=false):eQ l=[]/\rT l=3:=by
 have hi:i<l.length:=by omega
 rw[zA,zB hi,Option.getD_some] at h2;exact CG (List.all_eq_false.2 ⟨l[i],List.getElem_mem hi,by rw[h2];simp⟩)
theorem CS {l:List Int}{i:Nat}{o:List UInt8}(h:¬ (i:Int)<l.length) (ha:(l.take i).all Utf8.valid=true) (ho:o=bf (l.take i)):eQ l=o/\rT l=0:=by
 rw[List.take_of_length_le (by omega)] at ha ho;rw[ho];exact Ai ha
theorem Bt {l:List Int}{i:Nat}(hl:l.all Utf8.valid=true) (h:(i:Int)<l.length):Utf8.valid (l.getD i 0)=true:=by
 have hi:i<l.length:=by omega
 rw[zA,zB hi];exact List.all_eq_true.1 hl _ (List.getElem_mem hi)
end Go.EA
