/- Plain: words that are otherwise frequent; what is spelt is the word. Conditions: none. -/
import Derived.Test.YtpgjilomblpcpaaDoorEDpm
import Derived.Test.YtpgjilomblpcpaaDoorEDf
import Derived.Test.YtpgjilomblpcpaaDoorEK25
import Derived.KernelRfl
import Derived.Test.YtpgjilomblpcpaaDoorEDu
set_option linter.unusedVariables false
set_option linter.unusedSimpArgs false
namespace Go.EA
def frq (l:List Wd) (f:Int) (i:Nat):List Wd:=(l.take i).map (fun w=>(w.1,f+1))++l.drop i
theorem oo {s:List UInt8}(h:bN s=0):xw (aC s)=s:=by
 have h1:dE s=true:=(Bq s).symm.trans (decide_eq_true h);unfold aC;rw[if_pos h1];exact(pM _ s (zJ _) h1).1
end Go.EA
