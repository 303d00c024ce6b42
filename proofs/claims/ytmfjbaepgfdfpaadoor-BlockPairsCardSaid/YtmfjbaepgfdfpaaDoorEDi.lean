/- Layer 4: the distance of two tokens. Conditions: none. (Printed by a program of this project's own.) -/
import Derived.Test.YtmfjbaepgfdfpaaDoorEGr
import Derived.Test.YtmfjbaepgfdfpaaDoorEK11
import Derived.Test.YtmfjbaepgfdfpaaDoorERu
import Derived.Test.YtmfjbaepgfdfpaaDoorEK9
import Derived.KernelRfl
set_option linter.unusedVariables false
set_option linter.unusedSimpArgs false
set_option maxRecDepth 100000
set_option maxHeartbeats 0
namespace Go.EA
open F
def twoE (s t:List UInt8):Int:=if tokE s≠0 then tokE s else tokE t
def distV (s t:List UInt8):Int:=if twoE s t=0 then lev (tokR s).reverse (tokR t).reverse else 0
abbrev gN (a b:List Int):Nat:=(a.length+1)*(b.length+1)
abbrev gF (a b:List Int) (p:Nat):List Int:=tabl (fewAt a b) (gN a b) p
abbrev gK (a b:List Int) (p:Nat):List Int:=tabl (kindAt a b) (gN a b) p
theorem tok64 {s:List UInt8}:(tokR s).length≤64:=by
  by_cases h:tokE s=0
  · by_cases h1:decE s=0
    · by_cases h2:(decR s).length=0
      · rw [(tok_e h1 h2).1];simp
      · by_cases h3:64 < (decR s).length
        · rw [(tok_l h1 h3).1];simp
        · rw [(tok_k h1 h2 h3).1];omega
    · rw [(tok_u h1).1];simp
  · unfold tokR;rw [if_neg h];simp
theorem gN_cast (a b:List Int):((gN a b:Nat):Int)=((a.length:Int)+1)*((b.length:Int)+1):=by unfold gN;push_cast;rfl
theorem gN_le {a b:List Int} (ha:a.length≤64) (hb:b.length≤64):gN a b≤4225:=Nat.mul_le_mul (show a.length+1≤65 by omega) (show b.length+1≤65 by omega)
theorem gN_pos (a b:List Int):0 < gN a b:=Nat.mul_pos (by omega) (by omega)
theorem place (b:List Int) (x y:Nat):(x:Int)*((b.length:Int)+1)+(y:Int)=((x*(b.length+1)+y:Nat):Int):=by push_cast;rfl
theorem place_lt {a b:List Int} {x y:Nat} (hx:x≤a.length) (hy:y≤b.length):x*(b.length+1)+y < gN a b:=by
  have:=Nat.mul_le_mul_right (b.length+1) hx
  unfold gN
  rw [Nat.add_mul];omega
theorem fill_len (f:Nat→Int) (a b:List Int) (p:Nat):((tabl f (gN a b) p).length:Int)=((a.length:Int)+1)*((b.length:Int)+1):=by rw [tabl_len,gN_cast]
theorem fill_zero (f:Nat→Int) (a b:List Int):List.replicate (((a.length:Int)+1)*((b.length:Int)+1)).toNat (0:Int)=tabl f (gN a b) (0*(b.length+1)):=by
  rw [← gN_cast,Int.toNat_natCast,Nat.zero_mul,tabl_zero]
theorem fill_setF {a b:List Int} (ha:a.length≤64) (hb:b.length≤64) {x y:Nat} (hx:x≤a.length) (hy:y≤b.length) (hp:(0:Int) < (x:Int)+(y:Int)) :
    (gF a b (x*(b.length+1)+y)).set ((x:Int)*((b.length:Int)+1)+(y:Int)).toNat (bestOf a b (gF a b (x*(b.length+1)+y)) x y).2=gF a b (x*(b.length+1)+(y+1)):=by
  rw [best_at ha hb hx hy (by omega),place,Int.toNat_natCast,← Nat.add_assoc]
  exact tabl_set (by rw [fewAt_at hy])
theorem fill_setK {a b:List Int} (ha:a.length≤64) (hb:b.length≤64) {x y:Nat} (hx:x≤a.length) (hy:y≤b.length) (hp:(0:Int) < (x:Int)+(y:Int)) :
    (gK a b (x*(b.length+1)+y)).set ((x:Int)*((b.length:Int)+1)+(y:Int)).toNat (bestOf a b (gF a b (x*(b.length+1)+y)) x y).1=gK a b (x*(b.length+1)+(y+1)):=by
  rw [best_at ha hb hx hy (by omega),place,Int.toNat_natCast,← Nat.add_assoc]
  exact tabl_set (by rw [kindAt_at hy])
theorem fill_skipF {a b:List Int} {x y:Nat} (h:¬ (0:Int) < (x:Int)+(y:Int)):gF a b (x*(b.length+1)+y)=gF a b (x*(b.length+1)+(y+1)):=by
  obtain rfl:x=0:=by omega
  obtain rfl:y=0:=by omega
  rw [← Nat.add_assoc]
  exact tabl_skip (by rw [fewAt_at (by omega)];rfl)
theorem fill_skipK {a b:List Int} {x y:Nat} (h:¬ (0:Int) < (x:Int)+(y:Int)):gK a b (x*(b.length+1)+y)=gK a b (x*(b.length+1)+(y+1)):=by
  obtain rfl:x=0:=by omega
  obtain rfl:y=0:=by omega
  rw [← Nat.add_assoc]
  exact tabl_skip (by rw [kindAt_at (by omega)];rfl)
theorem fill_next {f:Nat→Int} {a b:List Int} {x y:Nat} (hy:y≤b.length+1) (h:¬ (y:Int) < (b.length:Int)+1):tabl f (gN a b) (x*(b.length+1)+y)=tabl f (gN a b) ((x+1)*(b.length+1)):=by
  obtain rfl:y=b.length+1:=by omega
  rw [Nat.add_mul,Nat.one_mul]
theorem two_ok {s t:List UInt8} (h:tokE s=0) (h1:tokE t=0):twoE s t=0∧distV s t=lev (tokR s).reverse (tokR t).reverse:=by
  have e:twoE s t=0:=by unfold twoE;rw [h,h1];rfl
  exact ⟨e,by unfold distV;rw [if_pos e]⟩
theorem two_b {s t:List UInt8} (h:tokE s=0) (h1:¬ tokE t=0):tokE t=twoE s t∧0=distV s t:=by
  have e:twoE s t=tokE t:=by unfold twoE;rw [h];rfl
  exact ⟨e.symm,by unfold distV;rw [e,if_neg h1]⟩
theorem two_a {s t:List UInt8} (h:¬ tokE s=0):tokE s=twoE s t∧0=distV s t:=by
  have e:twoE s t=tokE s:=by unfold twoE;rw [if_pos h]
  exact ⟨e.symm,by unfold distV;rw [e,if_neg h]⟩
end Go.EA
