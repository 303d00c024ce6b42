/- Layer 1: a rune out of so many bytes, step by step. Conditions: none. -/
import Derived.Test.YtkpahammkkfphaaDoorEFirst
import Derived.Test.YtkpahammkkfphaaDoorEBits
set_option linter.unusedVariables false
set_option linter.unusedSimpArgs false
namespace Go.EA
def ax (s:List UInt8) (n:Int):Nat->Int
 |0=>0
 |1=>if n=2 then IntKind.i32.wrap (IntKind.i32.wrap ((s.getD 0 0).toNat:Int)-192) else if n=3 then IntKind.i32.wrap (IntKind.i32.wrap ((s.getD 0 0).toNat:Int)-224) else if n=4 then IntKind.i32.wrap (IntKind.i32.wrap ((s.getD 0 0).toNat:Int)-240) else IntKind.i32.wrap ((s.getD 0 0).toNat:Int)
 |i+1=>IntKind.i32.wrap (IntKind.i32.wrap (IntKind.i32.wrap (ax s n i*64)+IntKind.i32.wrap ((s.getD i 0).toNat:Int))-128)
theorem FJ (s:List UInt8) (n:Int) {i:Nat}(h:1<=i):ax s n (i+1)=IntKind.i32.wrap (IntKind.i32.wrap (IntKind.i32.wrap (ax s n i*64)+IntKind.i32.wrap ((s.getD i 0).toNat:Int))-128):=by
 cases i with
 |zero=>omega
 |succ i=>rfl
theorem KQ (s:List UInt8) {n:Nat}(h1:1<=n) (h4:n<=4):ax s n n=rx s n:=by
 obtain rfl | rfl | rfl | rfl:n=1\/n=2\/n=3\/n=4:=by omega
 .exact rw1 s
 .exact rw2 s
 .exact rw3 s
 .exact rw4 s
theorem unB (r:Int):(encI r).map (fun z:Int=>UInt8.ofNat z.toNat)=bC r:=by
 unfold encI;rw[List.map_map]
 conv=>rhs;rw[<- List.map_id (bC r)]
 exact List.map_congr_left fun x _=>by simp
def o6 (z:Int):Int:=IntKind.u8.wrap (↑(BitVec.ofInt IntKind.u8.bits 128 ||| BitVec.ofInt IntKind.u8.bits (IntKind.u8.wrap (↑(BitVec.ofInt IntKind.u8.bits (IntKind.u8.wrap z) &&& BitVec.ofInt IntKind.u8.bits 63).toNat:Int))).toNat:Int)
end Go.EA
