/- Layer 1: what more functions mean: the reference's. Conditions: none. -/
import Derived.Test.YtkpahammkkfphaaDoorEMean1
import Derived.Test.YtkpahammkkfphaaDoorEK6
import Derived.Test.YtkpahammkkfphaaDoorEK4
set_option linter.unusedVariables false
set_option linter.unusedSimpArgs false
namespace Go.EA
def bC (r:Int):List UInt8:=(Utf8.encode r).toList
def dK (s:List UInt8):Int×Int:=if s≠[]/\isR s=true then (((dec s).1:Int),((dec s).2:Int)) else (0,0)
theorem wrap32 {z:Int}(h : -2147483648<=z/\z<=2147483647):IntKind.i32.wrap z=z:=by
 have e:IntKind.i32.wrap z=(if z % 4294967296 ≥ 2147483648 then z % 4294967296-4294967296 else z % 4294967296):=by
  show (if (true&&decide _)=true then _ else _)=_;simp only[Bool.true_and,decide_eq_true_eq]
  rfl
 rw[e];split <;> omega
theorem yF {z:Int}(h:0<=z/\z<=255):IntKind.u8.wrap z=z:=by
 have e:IntKind.u8.wrap z=z % 256:=by
  unfold IntKind.wrap;have:IntKind.u8.signed=false:=rfl;simp only[this,Bool.false_and,Bool.false_eq_true,if_false]
  rfl
 rw[e];omega
theorem b8 {k:Nat}(h:k<256):((UInt8.ofNat k).toNat:Int)=k:=by
 rw[UInt8.toNat_ofNat'];omega
theorem aY {r:Int}:Utf8.valid r=true↔(0<=r/\r<0xD800)\/(0xE000<=r/\r<=0x10FFFF):=by
 unfold Utf8.valid;simp
theorem dJ {r:Int}(h:Utf8.valid r=true):bC r=if r.toNat<0x80 then [UInt8.ofNat r.toNat] else if r.toNat<0x800 then [UInt8.ofNat (0xC0+r.toNat / 64),UInt8.ofNat (0x80+r.toNat % 64)]
 else if r.toNat<0x10000 then [UInt8.ofNat (0xE0+r.toNat / 4096),UInt8.ofNat (0x80+r.toNat / 64 % 64),UInt8.ofNat (0x80+r.toNat % 64)]
 else [UInt8.ofNat (0xF0+r.toNat / 262144),UInt8.ofNat (0x80+r.toNat / 4096 % 64),UInt8.ofNat (0x80+r.toNat / 64 % 64),UInt8.ofNat (0x80+r.toNat % 64)]:=by
 unfold bC Utf8.encode;simp only[h,if_true];split
 .rw[ByteArray.toList_eq]
 .split
  .rw[ByteArray.toList_eq]
  .split <;> rw[ByteArray.toList_eq]
end Go.EA
