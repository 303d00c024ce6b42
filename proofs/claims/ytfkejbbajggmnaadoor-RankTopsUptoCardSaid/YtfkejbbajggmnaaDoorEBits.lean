/- A rune's bytes by the operations on bits that Go's library writes. Conditions: none. -/
import Derived.Test.YtfkejbbajggmnaaDoorEOrder
import Derived.Test.YtfkejbbajggmnaaDoorENorm2
set_option linter.unusedVariables false
set_option linter.unusedSimpArgs false
set_option maxRecDepth 100000
namespace Go.EA
def encI (r:Int):List Int:=(encB r).map fun x=>(x.toNat:Int)
theorem encI1 {r:Int} (h:Utf8.valid r=true) (h1:r < 128):encI r=[r]:=by
  have hv:=valid_iff.1 h
  unfold encI
  rw [encB_eq h,if_pos (by omega)]
  simp only [List.map_cons,List.map_nil,List.cons.injEq,and_true]
  rw [b8 (by omega)];omega
theorem encI2 {r:Int} (h:Utf8.valid r=true) (h0:128≤r) (h1:r < 2048):encI r=[192+r / 64,128+r % 64]:=by
  unfold encI
  rw [encB_eq h,if_neg (by omega),if_pos (by omega)]
  simp only [List.map_cons,List.map_nil,List.cons.injEq,and_true]
  rw [b8 (by omega),b8 (by omega)];omega
theorem encI3 {r:Int} (h:Utf8.valid r=true) (h0:2048≤r) (h1:r < 65536):encI r=[224+r / 4096,128+r / 64 % 64,128+r % 64]:=by
  unfold encI
  rw [encB_eq h,if_neg (by omega),if_neg (by omega),if_pos (by omega)]
  simp only [List.map_cons,List.map_nil,List.cons.injEq,and_true]
  rw [b8 (by omega),b8 (by omega),b8 (by omega)];omega
theorem encI4 {r:Int} (h:Utf8.valid r=true) (h0:65536≤r):encI r=[240+r / 262144,128+r / 4096 % 64,128+r / 64 % 64,128+r % 64]:=by
  have hv:=valid_iff.1 h
  unfold encI
  rw [encB_eq h,if_neg (by omega),if_neg (by omega),if_neg (by omega)]
  simp only [List.map_cons,List.map_nil,List.cons.injEq,and_true]
  rw [b8 (by omega),b8 (by omega),b8 (by omega),b8 (by omega)];omega
end Go.EA
