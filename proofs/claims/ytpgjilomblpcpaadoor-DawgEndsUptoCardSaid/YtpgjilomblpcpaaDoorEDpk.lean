/- Layer 10: Place. Conditions: none. -/
import Derived.Test.YtpgjilomblpcpaaDoorEDpl
import Derived.Test.YtpgjilomblpcpaaDoorEDf
import Derived.KernelRfl
set_option linter.unusedVariables false
set_option linter.unusedSimpArgs false
set_option maxRecDepth 100000
set_option maxHeartbeats 0
namespace Go.EA
open F
structure PlI (S:List StD) (rs:List Int) (x:Nat×Nat×Int):Prop where
 le:x.1<=rs.length
 lt:x.2.1<S.length
 pl:plc S rs 0 0=plc S (rs.drop x.1) x.2.1 x.2.2
 nn:0<=x.2.2
 bd:x.2.2+(stA S x.2.1).2.2<=4194305
def plE (s:List UInt8) (d:List StD):Int×Int:=if bN s=0 then plc d (aC s) 0 0 else (0,10)
end Go.EA
