/- A rune's bytes by the operations on bits that Go's library writes. Conditions: none. -/
import Derived.Test.YtpgjilomblpcpaaDoorEMean5
import Derived.Test.YtpgjilomblpcpaaDoorENorm2
set_option linter.unusedVariables false
set_option linter.unusedSimpArgs false
set_option maxRecDepth 100000
namespace Go.EA
theorem wrapU8 {z:Int} (h:0<=z):IntKind.u8.wrap z=((z.toNat % 256:Nat):Int):=by
 have e:IntKind.u8.wrap z=z % 256:=by
  unfold IntKind.wrap
  have:IntKind.u8.signed=false:=rfl
  simp only [this,Bool.false_and,Bool.false_eq_true,if_false]
  rfl
 rw [e];omega
theorem k_cont:∀ n:Nat,n<256->IntKind.u8.wrap (↑(BitVec.ofInt IntKind.u8.bits 128 ||| BitVec.ofInt IntKind.u8.bits (IntKind.u8.wrap (↑(BitVec.ofInt IntKind.u8.bits (n:Int) &&& BitVec.ofInt IntKind.u8.bits 63).toNat:Int))).toNat:Int)=((128+n % 64:Nat):Int):=by decide +kernel
theorem k_lead2:∀ n:Nat,n<32->IntKind.u8.wrap (↑(BitVec.ofInt IntKind.u8.bits 192 ||| BitVec.ofInt IntKind.u8.bits (n:Int)).toNat:Int)=((192+n:Nat):Int):=by decide +kernel
theorem k_lead3:∀ n:Nat,n<16->IntKind.u8.wrap (↑(BitVec.ofInt IntKind.u8.bits 224 ||| BitVec.ofInt IntKind.u8.bits (n:Int)).toNat:Int)=((224+n:Nat):Int):=by decide +kernel
theorem k_lead4:∀ n:Nat,n<8->IntKind.u8.wrap (↑(BitVec.ofInt IntKind.u8.bits 240 ||| BitVec.ofInt IntKind.u8.bits (n:Int)).toNat:Int)=((240+n:Nat):Int):=by decide +kernel
theorem b_cont {z:Int} (h:0<=z):IntKind.u8.wrap (↑(BitVec.ofInt IntKind.u8.bits 128 ||| BitVec.ofInt IntKind.u8.bits (IntKind.u8.wrap (↑(BitVec.ofInt IntKind.u8.bits (IntKind.u8.wrap z) &&& BitVec.ofInt IntKind.u8.bits 63).toNat:Int))).toNat:Int)=128+z % 64:=by
 rw [wrapU8 h,k_cont _ (by omega)]
 omega
theorem b_lead2 {z:Int} (h:0<=z/\z<32):IntKind.u8.wrap (↑(BitVec.ofInt IntKind.u8.bits 192 ||| BitVec.ofInt IntKind.u8.bits (IntKind.u8.wrap z)).toNat:Int)=192+z:=by
 rw [wrapU8 h.1,k_lead2 _ (by omega)]
 omega
theorem b_lead3 {z:Int} (h:0<=z/\z<16):IntKind.u8.wrap (↑(BitVec.ofInt IntKind.u8.bits 224 ||| BitVec.ofInt IntKind.u8.bits (IntKind.u8.wrap z)).toNat:Int)=224+z:=by
 rw [wrapU8 h.1,k_lead3 _ (by omega)]
 omega
theorem b_lead4 {z:Int} (h:0<=z/\z<8):IntKind.u8.wrap (↑(BitVec.ofInt IntKind.u8.bits 240 ||| BitVec.ofInt IntKind.u8.bits (IntKind.u8.wrap z)).toNat:Int)=240+z:=by
 rw [wrapU8 h.1,k_lead4 _ (by omega)]
 omega
theorem fd6 {r:Int} (h:0<=r):r.fdiv (2 ^ min 6 IntKind.i32.bits)=r / 64:=Int.fdiv_eq_ediv_of_nonneg r (by decide)
theorem fd12 {r:Int} (h:0<=r):r.fdiv (2 ^ min 12 IntKind.i32.bits)=r / 4096:=Int.fdiv_eq_ediv_of_nonneg r (by decide)
theorem fd18 {r:Int} (h:0<=r):r.fdiv (2 ^ min 18 IntKind.i32.bits)=r / 262144:=Int.fdiv_eq_ediv_of_nonneg r (by decide)
theorem wrapU32 {z:Int} (h:Utf8.valid z=true):IntKind.u32.wrap z=z:=by
 have h2:=valid_iff.1 h
 have e:IntKind.u32.wrap z=z % 4294967296:=by
  unfold IntKind.wrap
  have:IntKind.u32.signed=false:=rfl
  simp only [this,Bool.false_and,Bool.false_eq_true,if_false]
  rfl
 rw [e];omega
def encI (r:Int):List Int:=(encB r).map fun x=>(x.toNat:Int)
theorem encI1 {r:Int} (h:Utf8.valid r=true) (h1:r<128):encI r=[r]:=by
 have hv:=valid_iff.1 h
 unfold encI
 rw [encB_eq h,if_pos (by omega)]
 simp only [zK,List.map_nil,zG,and_true]
 rw [b8 (by omega)];omega
theorem encI2 {r:Int} (h:Utf8.valid r=true) (h0:128<=r) (h1:r<2048):encI r=[192+r / 64,128+r % 64]:=by
 unfold encI
 rw [encB_eq h,if_neg (by omega),if_pos (by omega)]
 simp only [zK,List.map_nil,zG,and_true]
 rw [b8 (by omega),b8 (by omega)];omega
theorem encI3 {r:Int} (h:Utf8.valid r=true) (h0:2048<=r) (h1:r<65536):encI r=[224+r / 4096,128+r / 64 % 64,128+r % 64]:=by
 unfold encI
 rw [encB_eq h,if_neg (by omega),if_neg (by omega),if_pos (by omega)]
 simp only [zK,List.map_nil,zG,and_true]
 rw [b8 (by omega),b8 (by omega),b8 (by omega)];omega
theorem encI4 {r:Int} (h:Utf8.valid r=true) (h0:65536<=r):encI r=[240+r / 262144,128+r / 4096 % 64,128+r / 64 % 64,128+r % 64]:=by
 have hv:=valid_iff.1 h
 unfold encI
 rw [encB_eq h,if_neg (by omega),if_neg (by omega),if_neg (by omega)]
 simp only [zK,List.map_nil,zG,and_true]
 rw [b8 (by omega),b8 (by omega),b8 (by omega),b8 (by omega)];omega
def encLI (l:List Int):List Int:=(l.map encI).flatten
end Go.EA
