/- Functions of Go's library by the shelf's contracts: DecodeRuneInString, ValidString, RuneCountInString, strings.Compare. Conditions: none. -/
import Derived.Test.YtpgjilomblpcpaaDoorEMean6
import Derived.Test.YtpgjilomblpcpaaDoorEValid
import Derived.Test.YtpgjilomblpcpaaDoorEK9
import Derived.Test.YtpgjilomblpcpaaDoorEOrder
import Derived.Lib.RuneCount
import Derived.Shelf.Unicode.ValidAny
set_option linter.unusedVariables false
set_option linter.unusedSimpArgs false
namespace Go.EA
open Go.RowKit
end Go.EA
