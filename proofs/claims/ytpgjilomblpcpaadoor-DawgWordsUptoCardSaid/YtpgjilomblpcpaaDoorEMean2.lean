/- Layer 1: what more functions mean: the reference's. Conditions: none. -/
import Derived.Test.YtpgjilomblpcpaaDoorEMean1
import Derived.Test.YtpgjilomblpcpaaDoorEK6
import Derived.Test.YtpgjilomblpcpaaDoorEK4
set_option linter.unusedVariables false
set_option linter.unusedSimpArgs false
namespace Go.EA
def kR (r:Int):List UInt8:=(Utf8.encode r).toList
theorem Wl {z:Int}(h:0<=z/\z<=255):IntKind.u8.wrap z=z:=by
 have e:IntKind.u8.wrap z=z % 256:=by
  unfold IntKind.wrap;have:IntKind.u8.signed=false:=rfl;simp only[this,Bool.false_and,Bool.false_eq_true,if_false]
  rfl
 rw[e];omega
theorem b8 {k:Nat}(h:k<256):((UInt8.ofNat k).toNat:Int)=k:=by
 rw[UInt8.toNat_ofNat'];omega
theorem bT {r:Int}:Utf8.valid r=true↔(0<=r/\r<0xD800)\/(0xE000<=r/\r<=0x10FFFF):=by
 unfold Utf8.valid;simp
theorem fG {r:Int}(h:Utf8.valid r=true):kR r=if r.toNat<0x80 then [UInt8.ofNat r.toNat] else if r.toNat<0x800 then [UInt8.ofNat (0xC0+r.toNat / 64),UInt8.ofNat (0x80+r.toNat % 64)]
 else if r.toNat<0x10000 then [UInt8.ofNat (0xE0+r.toNat / 4096),UInt8.ofNat (0x80+r.toNat / 64 % 64),UInt8.ofNat (0x80+r.toNat % 64)]
 else [UInt8.ofNat (0xF0+r.toNat / 262144),UInt8.ofNat (0x80+r.toNat / 4096 % 64),UInt8.ofNat (0x80+r.toNat / 64 % 64),UInt8.ofNat (0x80+r.toNat % 64)]:=by
 unfold kR Utf8.encode;simp only[h,if_true];split
 .rw[ByteArray.toList_eq]
 .split
  .rw[ByteArray.toList_eq]
  .split <;> rw[ByteArray.toList_eq]
end Go.EA
