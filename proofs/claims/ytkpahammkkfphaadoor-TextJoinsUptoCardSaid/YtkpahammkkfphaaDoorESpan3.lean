/- A text's tokens: what the laws of layer 2 need. Conditions: none. -/
import Derived.Test.YtkpahammkkfphaaDoorESpan2
set_option linter.unusedVariables false
set_option linter.unusedSimpArgs false
namespace Go.EA
theorem JX {s:List UInt8}(h:s.length<=1048576):spE s=0↔aR s=true:=by
 unfold spE;rw[if_neg (by omega)];cases aR s <;> simp
end Go.EA
