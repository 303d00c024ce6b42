/- A rune's bytes by the operations on bits that Go's library writes. Conditions: none. -/
import Derived.Test.YtpgjilomblpcpaaDoorEMean5
import Derived.Test.YtpgjilomblpcpaaDoorENorm2
set_option linter.unusedVariables false
set_option linter.unusedSimpArgs false
set_option maxRecDepth 100000
namespace Go.EA
theorem xz {z:Int}(h:0<=z):IntKind.u8.wrap z=((z.toNat % 256:Nat):Int):=by
 have e:IntKind.u8.wrap z=z % 256:=by
  unfold IntKind.wrap;have:IntKind.u8.signed=false:=rfl;simp only[this,Bool.false_and,Bool.false_eq_true,if_false]
  rfl
 rw[e];omega
theorem UQ:∀n:Nat,n<256->IntKind.u8.wrap (↑(BitVec.ofInt IntKind.u8.bits 128 ||| BitVec.ofInt IntKind.u8.bits (IntKind.u8.wrap (↑(BitVec.ofInt IntKind.u8.bits (n:Int) &&& BitVec.ofInt IntKind.u8.bits 63).toNat:Int))).toNat:Int)=((128+n % 64:Nat):Int):=by decide +kernel
theorem PW:∀n:Nat,n<32->IntKind.u8.wrap (↑(BitVec.ofInt IntKind.u8.bits 192 ||| BitVec.ofInt IntKind.u8.bits (n:Int)).toNat:Int)=((192+n:Nat):Int):=by decide +kernel
theorem OO:∀n:Nat,n<16->IntKind.u8.wrap (↑(BitVec.ofInt IntKind.u8.bits 224 ||| BitVec.ofInt IntKind.u8.bits (n:Int)).toNat:Int)=((224+n:Nat):Int):=by decide +kernel
theorem QI:∀n:Nat,n<8->IntKind.u8.wrap (↑(BitVec.ofInt IntKind.u8.bits 240 ||| BitVec.ofInt IntKind.u8.bits (n:Int)).toNat:Int)=((240+n:Nat):Int):=by decide +kernel
theorem xL {z:Int}(h:0<=z):IntKind.u8.wrap (↑(BitVec.ofInt IntKind.u8.bits 128 ||| BitVec.ofInt IntKind.u8.bits (IntKind.u8.wrap (↑(BitVec.ofInt IntKind.u8.bits (IntKind.u8.wrap z) &&& BitVec.ofInt IntKind.u8.bits 63).toNat:Int))).toNat:Int)=128+z % 64:=by
 rw[xz h,UQ _ (by omega)];omega
theorem PN {z:Int}(h:0<=z/\z<32):IntKind.u8.wrap (↑(BitVec.ofInt IntKind.u8.bits 192 ||| BitVec.ofInt IntKind.u8.bits (IntKind.u8.wrap z)).toNat:Int)=192+z:=by
 rw[xz h.1,PW _ (by omega)];omega
theorem Fx {z:Int}(h:0<=z/\z<16):IntKind.u8.wrap (↑(BitVec.ofInt IntKind.u8.bits 224 ||| BitVec.ofInt IntKind.u8.bits (IntKind.u8.wrap z)).toNat:Int)=224+z:=by
 rw[xz h.1,OO _ (by omega)];omega
theorem OY {z:Int}(h:0<=z/\z<8):IntKind.u8.wrap (↑(BitVec.ofInt IntKind.u8.bits 240 ||| BitVec.ofInt IntKind.u8.bits (IntKind.u8.wrap z)).toNat:Int)=240+z:=by
 rw[xz h.1,QI _ (by omega)];omega
theorem fd6 {r:Int}(h:0<=r):r.fdiv (2 ^ min 6 IntKind.i32.bits)=r / 64:=Int.fdiv_eq_ediv_of_nonneg r (by decide)
theorem SQ {r:Int}(h:0<=r):r.fdiv (2 ^ min 12 IntKind.i32.bits)=r / 4096:=Int.fdiv_eq_ediv_of_nonneg r (by decide)
theorem Xk {r:Int}(h:0<=r):r.fdiv (2 ^ min 18 IntKind.i32.bits)=r / 262144:=Int.fdiv_eq_ediv_of_nonneg r (by decide)
theorem QG {z:Int}(h:Utf8.valid z=true):IntKind.u32.wrap z=z:=by
 have h2:=bT.1 h;have e:IntKind.u32.wrap z=z % 4294967296:=by
  unfold IntKind.wrap;have:IntKind.u32.signed=false:=rfl;simp only[this,Bool.false_and,Bool.false_eq_true,if_false]
  rfl
 rw[e];omega
def encI (r:Int):List Int:=(kR r).map fun x=>(x.toNat:Int)
theorem Rk {r:Int}(h:Utf8.valid r=true) (h1:r<128):encI r=[r]:=by
 have hv:=bT.1 h;unfold encI;rw[fG h,if_pos (by omega)];simp only[zK,List.map_nil,zG,and_true];rw[b8 (by omega)];omega
theorem Rq {r:Int}(h:Utf8.valid r=true) (h0:128<=r) (h1:r<2048):encI r=[192+r / 64,128+r % 64]:=by
 unfold encI;rw[fG h,if_neg (by omega),if_pos (by omega)];simp only[zK,List.map_nil,zG,and_true];rw[b8 (by omega),b8 (by omega)];omega
theorem KJ {r:Int}(h:Utf8.valid r=true) (h0:2048<=r) (h1:r<65536):encI r=[224+r / 4096,128+r / 64 % 64,128+r % 64]:=by
 unfold encI;rw[fG h,if_neg (by omega),if_neg (by omega),if_pos (by omega)];simp only[zK,List.map_nil,zG,and_true];rw[b8 (by omega),b8 (by omega),b8 (by omega)];omega
theorem Rj {r:Int}(h:Utf8.valid r=true) (h0:65536<=r):encI r=[240+r / 262144,128+r / 4096 % 64,128+r / 64 % 64,128+r % 64]:=by
 have hv:=bT.1 h;unfold encI;rw[fG h,if_neg (by omega),if_neg (by omega),if_neg (by omega)];simp only[zK,List.map_nil,zG,and_true];rw[b8 (by omega),b8 (by omega),b8 (by omega),b8 (by omega)];omega
def Ac (l:List Int):List Int:=(l.map encI).flatten
end Go.EA
