/- Layer 1: a rune out of so many bytes, step by step. Conditions: none. -/
import Derived.Test.YtfkejbbajggmnaaDoorEFirst
import Derived.Test.YtfkejbbajggmnaaDoorEOrder
import Derived.Test.YtfkejbbajggmnaaDoorENorm2
set_option linter.unusedVariables false
set_option linter.unusedSimpArgs false
namespace Go.EA
def ax (s:List UInt8) (n:Int):Nat→Int
  | 0=>0
  | 1=>if n=2 then IntKind.i32.wrap (IntKind.i32.wrap ((s.getD 0 0).toNat:Int) - 192) else if n=3 then IntKind.i32.wrap (IntKind.i32.wrap ((s.getD 0 0).toNat:Int) - 224) else if n=4 then IntKind.i32.wrap (IntKind.i32.wrap ((s.getD 0 0).toNat:Int) - 240) else IntKind.i32.wrap ((s.getD 0 0).toNat:Int)
  | i+1=>IntKind.i32.wrap (IntKind.i32.wrap (IntKind.i32.wrap (ax s n i*64)+IntKind.i32.wrap ((s.getD i 0).toNat:Int)) - 128)
end Go.EA
