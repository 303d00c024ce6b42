/- Layer 1: what functions that encode mean. Conditions: none. -/
import Derived.Test.YtpgjilomblpcpaaDoorEOrder
set_option linter.unusedVariables false
set_option linter.unusedSimpArgs false
namespace Go.EA
def Ii (l:List Int):List UInt8:=(l.map kR).flatten
end Go.EA
