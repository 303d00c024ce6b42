/- Layer 1: what functions that encode mean. Conditions: none. -/
import Derived.Test.YtmfjbaepgfdfpaaDoorEMean4
set_option linter.unusedVariables false
set_option linter.unusedSimpArgs false
namespace Go.EA
/-- A row's bytes. -/
def encL (l : List Int) : List UInt8 := (l.map encB).flatten
end Go.EA

