/- Layer 9, plain: where words stand. Conditions: none. -/
import Derived.Test.YtpgjilomblpcpaaDoorENrm
set_option linter.unusedVariables false
set_option linter.unusedSimpArgs false
namespace Go.EA
open F
def preB (a b:List UInt8):Bool:=decide (b.length≤a.length∧a.take b.length=b)
def posN (l:List Wd) (s:List UInt8):Nat:=(l.takeWhile fun w=>sless w.1 s).length
def endN (l:List Wd) (s:List UInt8):Nat:=posN l s+((l.drop (posN l s)).takeWhile fun w=>preB w.1 s).length
end Go.EA
