/-
  NARROWER THAN 'FOR EVERY INPUT', by the rows' own cells (each row's printed sentence says how): RunesJoin: laid · RunesDecode: laid · RunesOrder: laid · TextSpans: laid · TextBetween: laid · RunesEncode: laid · RunesBack: laid · TextJoins: laid · TextParts: laid · RunesTokens: laid · TextLetters: laid · TextBack: laid · TextRefuses: laid.
  DERIVED. THE GIVEN ROWS OF THIS SEAT. 13 by the template 'for every input the law returns true; each argument reads behind the call as it read before'; 0 by the template 'total and deterministic' (their statements: YtngcpifknomecaaDoorTotals.lean).
  GIVEN WITH THE SEED: the statements are not yours to turn. If you find one false, say at which input.
  Laid BY PROGRAM, IN A SANDBOX (cutbox-rows.mjs): the forced cells as the released guide's own fill.sh prints them over the translation 6e09034ddf846a64… (all of the seat's roots in one cut). By AI agents, Wed Nov 11 2026. No macro, syntax, notation, axiom, sorry.
-/
import Derived.Test.YtngcpifknomecaaDoorChecked
import GoSem.PinnedTables
import GoSem.Claim
import GoSem.ClaimJoined
import GoSem.ClaimMapViews
import Derived.JoinedTies
import Derived.KernelRfl
namespace Go.Proofs.YtngcpifknomecaaDoor
/- THE CELL 'sum', in the pinned program and in every row, IS THE sha256 OF THE DUMP (.gsa) THAT YtngcpifknomecaaDoorProg.lean LOADS. Nothing in Lean hashes anything: it is a label: what it is worth is what the hold of that sum in a sandbox is worth. -/
noncomputable def Tryd.pinned : Pinned := { name := "ytngcpifknomecaadoor", sum := "6e09034ddf846a64e8f9628bf9e73d5402d31507d6b95dbb12c4400335f7e33e", checked := Tryd.checked }
namespace Rows
def none {H : Type} : Left H := { results := [], args := [] }

/- WHAT THE LISTED PACKAGE-LEVEL VARIABLES READ AS WHEN THE CALL BEGINS. Each datum BY PROGRAM (the guide's laid-datum.mjs) off the statement by which the dump's own 'gosem.cut.vars' lays the variable. In a bare row this is a premise. The card (YtngcpifknomecaaDoorCards.lean) ties it to the program's text. -/
def laid_unicode_utf8_acceptRanges {H : Type} : DataW H := .agg [.agg [.lit (.int .u8 128), .lit (.int .u8 191)], .agg [.lit (.int .u8 160), .lit (.int .u8 191)], .agg [.lit (.int .u8 128), .lit (.int .u8 159)], .agg [.lit (.int .u8 144), .lit (.int .u8 191)], .agg [.lit (.int .u8 128), .lit (.int .u8 143)], .agg [.lit (.int .u8 0), .lit (.int .u8 0)], .agg [.lit (.int .u8 0), .lit (.int .u8 0)], .agg [.lit (.int .u8 0), .lit (.int .u8 0)], .agg [.lit (.int .u8 0), .lit (.int .u8 0)], .agg [.lit (.int .u8 0), .lit (.int .u8 0)], .agg [.lit (.int .u8 0), .lit (.int .u8 0)], .agg [.lit (.int .u8 0), .lit (.int .u8 0)], .agg [.lit (.int .u8 0), .lit (.int .u8 0)], .agg [.lit (.int .u8 0), .lit (.int .u8 0)], .agg [.lit (.int .u8 0), .lit (.int .u8 0)], .agg [.lit (.int .u8 0), .lit (.int .u8 0)]]
/-- One of Go's own tables, pinned by name: the form's constant. -/
def laid_unicode_utf8_first : DataW Unit := Go.Pinned.utf8First

/-- 'erratalaw01.RunesJoin': WHATEVER THE INPUT: true; the input reads as it did. -/
def runesJoinSpec : ChangeSpec := { name := "runesJoin", fn := fun _ => fun
  | [d1, d2] => { results := [.lit (.bool true)], args := [d1, d2] }
  | _ => none }
def runesJoinRow : OpenClaim := { program := "ytngcpifknomecaadoor", sum := "6e09034ddf846a64e8f9628bf9e73d5402d31507d6b95dbb12c4400335f7e33e", func := "errata/erratalaw01.RunesJoin", spec := "runesJoin", unfollowed := true, recurses := true, named := ["unicode/utf8.first", "unicode/utf8.acceptRanges"], apart := false, laid := [("unicode/utf8.acceptRanges", laid_unicode_utf8_acceptRanges), ("unicode/utf8.first", laid_unicode_utf8_first)] }
def RunesJoinSaid : Prop := runesJoinRow.holds Tryd.pinned (OpenSpec.ofChange runesJoinSpec)

/-- ITS FALSE NEIGHBOUR: 'it returns false'. Refute it at one input. -/
def runesJoinWrong : ChangeSpec := { name := "runesJoin", fn := fun _ => fun
  | [d1, d2] => { results := [.lit (.bool false)], args := [d1, d2] }
  | _ => none }
def RunesJoinWrongFalsely : Prop := runesJoinRow.holds Tryd.pinned (OpenSpec.ofChange runesJoinWrong)

/-- 'erratalaw01.RunesDecode': WHATEVER THE INPUT: true; the input reads as it did. -/
def runesDecodeSpec : ChangeSpec := { name := "runesDecode", fn := fun _ => fun
  | [d] => { results := [.lit (.bool true)], args := [d] }
  | _ => none }
def runesDecodeRow : OpenClaim := { program := "ytngcpifknomecaadoor", sum := "6e09034ddf846a64e8f9628bf9e73d5402d31507d6b95dbb12c4400335f7e33e", func := "errata/erratalaw01.RunesDecode", spec := "runesDecode", unfollowed := true, recurses := true, named := ["unicode/utf8.first", "unicode/utf8.acceptRanges"], apart := false, laid := [("unicode/utf8.acceptRanges", laid_unicode_utf8_acceptRanges), ("unicode/utf8.first", laid_unicode_utf8_first)] }
def RunesDecodeSaid : Prop := runesDecodeRow.holds Tryd.pinned (OpenSpec.ofChange runesDecodeSpec)

/-- ITS FALSE NEIGHBOUR: 'it returns false'. Refute it at one input. -/
def runesDecodeWrong : ChangeSpec := { name := "runesDecode", fn := fun _ => fun
  | [d] => { results := [.lit (.bool false)], args := [d] }
  | _ => none }
def RunesDecodeWrongFalsely : Prop := runesDecodeRow.holds Tryd.pinned (OpenSpec.ofChange runesDecodeWrong)

/-- 'erratalaw01.RunesOrder': WHATEVER THE INPUT: true; the input reads as it did. -/
def runesOrderSpec : ChangeSpec := { name := "runesOrder", fn := fun _ => fun
  | [d1, d2] => { results := [.lit (.bool true)], args := [d1, d2] }
  | _ => none }
def runesOrderRow : OpenClaim := { program := "ytngcpifknomecaadoor", sum := "6e09034ddf846a64e8f9628bf9e73d5402d31507d6b95dbb12c4400335f7e33e", func := "errata/erratalaw01.RunesOrder", spec := "runesOrder", inPlace := ["internal/bytealg.abigen_runtime_cmpstring"], unfollowed := true, recurses := true, named := ["unicode/utf8.first", "unicode/utf8.acceptRanges"], apart := false, laid := [("unicode/utf8.acceptRanges", laid_unicode_utf8_acceptRanges), ("unicode/utf8.first", laid_unicode_utf8_first)] }
def RunesOrderSaid : Prop := runesOrderRow.holds Tryd.pinned (OpenSpec.ofChange runesOrderSpec)

/-- ITS FALSE NEIGHBOUR: 'it returns false'. Refute it at one input. -/
def runesOrderWrong : ChangeSpec := { name := "runesOrder", fn := fun _ => fun
  | [d1, d2] => { results := [.lit (.bool false)], args := [d1, d2] }
  | _ => none }
def RunesOrderWrongFalsely : Prop := runesOrderRow.holds Tryd.pinned (OpenSpec.ofChange runesOrderWrong)

/-- 'erratalaw02.TextSpans': WHATEVER THE INPUT: true; the input reads as it did. -/
def textSpansSpec : ChangeSpec := { name := "textSpans", fn := fun _ => fun
  | [d] => { results := [.lit (.bool true)], args := [d] }
  | _ => none }
def textSpansRow : OpenClaim := { program := "ytngcpifknomecaadoor", sum := "6e09034ddf846a64e8f9628bf9e73d5402d31507d6b95dbb12c4400335f7e33e", func := "errata/erratalaw02.TextSpans", spec := "textSpans", unfollowed := true, recurses := true, named := ["unicode/utf8.first", "unicode/utf8.acceptRanges"], apart := false, laid := [("unicode/utf8.acceptRanges", laid_unicode_utf8_acceptRanges), ("unicode/utf8.first", laid_unicode_utf8_first)] }
def TextSpansSaid : Prop := textSpansRow.holds Tryd.pinned (OpenSpec.ofChange textSpansSpec)

/-- ITS FALSE NEIGHBOUR: 'it returns false'. Refute it at one input. -/
def textSpansWrong : ChangeSpec := { name := "textSpans", fn := fun _ => fun
  | [d] => { results := [.lit (.bool false)], args := [d] }
  | _ => none }
def TextSpansWrongFalsely : Prop := textSpansRow.holds Tryd.pinned (OpenSpec.ofChange textSpansWrong)

/-- 'erratalaw02.TextBetween': WHATEVER THE INPUT: true; the input reads as it did. -/
def textBetweenSpec : ChangeSpec := { name := "textBetween", fn := fun _ => fun
  | [d1, d2] => { results := [.lit (.bool true)], args := [d1, d2] }
  | _ => none }
def textBetweenRow : OpenClaim := { program := "ytngcpifknomecaadoor", sum := "6e09034ddf846a64e8f9628bf9e73d5402d31507d6b95dbb12c4400335f7e33e", func := "errata/erratalaw02.TextBetween", spec := "textBetween", unfollowed := true, recurses := true, named := ["unicode/utf8.first", "unicode/utf8.acceptRanges"], apart := false, laid := [("unicode/utf8.acceptRanges", laid_unicode_utf8_acceptRanges), ("unicode/utf8.first", laid_unicode_utf8_first)] }
def TextBetweenSaid : Prop := textBetweenRow.holds Tryd.pinned (OpenSpec.ofChange textBetweenSpec)

/-- ITS FALSE NEIGHBOUR: 'it returns false'. Refute it at one input. -/
def textBetweenWrong : ChangeSpec := { name := "textBetween", fn := fun _ => fun
  | [d1, d2] => { results := [.lit (.bool false)], args := [d1, d2] }
  | _ => none }
def TextBetweenWrongFalsely : Prop := textBetweenRow.holds Tryd.pinned (OpenSpec.ofChange textBetweenWrong)

/-- 'erratalaw01.RunesEncode': WHATEVER THE INPUT: true; the input reads as it did. -/
def runesEncodeSpec : ChangeSpec := { name := "runesEncode", fn := fun _ => fun
  | [d1, d2, d3] => { results := [.lit (.bool true)], args := [d1, d2, d3] }
  | _ => none }
def runesEncodeRow : OpenClaim := { program := "ytngcpifknomecaadoor", sum := "6e09034ddf846a64e8f9628bf9e73d5402d31507d6b95dbb12c4400335f7e33e", func := "errata/erratalaw01.RunesEncode", spec := "runesEncode", unfollowed := true, recurses := true, named := ["unicode/utf8.first", "unicode/utf8.acceptRanges"], apart := false, laid := [("unicode/utf8.acceptRanges", laid_unicode_utf8_acceptRanges), ("unicode/utf8.first", laid_unicode_utf8_first)] }
def RunesEncodeSaid : Prop := runesEncodeRow.holds Tryd.pinned (OpenSpec.ofChange runesEncodeSpec)

/-- ITS FALSE NEIGHBOUR: 'it returns false'. Refute it at one input. -/
def runesEncodeWrong : ChangeSpec := { name := "runesEncode", fn := fun _ => fun
  | [d1, d2, d3] => { results := [.lit (.bool false)], args := [d1, d2, d3] }
  | _ => none }
def RunesEncodeWrongFalsely : Prop := runesEncodeRow.holds Tryd.pinned (OpenSpec.ofChange runesEncodeWrong)

/-- 'erratalaw01.RunesBack': WHATEVER THE INPUT: true; the input reads as it did. -/
def runesBackSpec : ChangeSpec := { name := "runesBack", fn := fun _ => fun
  | [d1, d2] => { results := [.lit (.bool true)], args := [d1, d2] }
  | _ => none }
def runesBackRow : OpenClaim := { program := "ytngcpifknomecaadoor", sum := "6e09034ddf846a64e8f9628bf9e73d5402d31507d6b95dbb12c4400335f7e33e", func := "errata/erratalaw01.RunesBack", spec := "runesBack", unfollowed := true, recurses := true, named := ["unicode/utf8.first", "unicode/utf8.acceptRanges"], apart := false, laid := [("unicode/utf8.acceptRanges", laid_unicode_utf8_acceptRanges), ("unicode/utf8.first", laid_unicode_utf8_first)] }
def RunesBackSaid : Prop := runesBackRow.holds Tryd.pinned (OpenSpec.ofChange runesBackSpec)

/-- ITS FALSE NEIGHBOUR: 'it returns false'. Refute it at one input. -/
def runesBackWrong : ChangeSpec := { name := "runesBack", fn := fun _ => fun
  | [d1, d2] => { results := [.lit (.bool false)], args := [d1, d2] }
  | _ => none }
def RunesBackWrongFalsely : Prop := runesBackRow.holds Tryd.pinned (OpenSpec.ofChange runesBackWrong)

/-- 'erratalaw02.TextJoins': WHATEVER THE INPUT: true; the input reads as it did. -/
def textJoinsSpec : ChangeSpec := { name := "textJoins", fn := fun _ => fun
  | [d] => { results := [.lit (.bool true)], args := [d] }
  | _ => none }
def textJoinsRow : OpenClaim := { program := "ytngcpifknomecaadoor", sum := "6e09034ddf846a64e8f9628bf9e73d5402d31507d6b95dbb12c4400335f7e33e", func := "errata/erratalaw02.TextJoins", spec := "textJoins", inPlace := ["internal/abi.NoEscape"], unfollowed := true, recurses := true, named := ["unicode/utf8.first", "unicode/utf8.acceptRanges"], apart := false, laid := [("unicode/utf8.acceptRanges", laid_unicode_utf8_acceptRanges), ("unicode/utf8.first", laid_unicode_utf8_first)] }
def TextJoinsSaid : Prop := textJoinsRow.holds Tryd.pinned (OpenSpec.ofChange textJoinsSpec)

/-- ITS FALSE NEIGHBOUR: 'it returns false'. Refute it at one input. -/
def textJoinsWrong : ChangeSpec := { name := "textJoins", fn := fun _ => fun
  | [d] => { results := [.lit (.bool false)], args := [d] }
  | _ => none }
def TextJoinsWrongFalsely : Prop := textJoinsRow.holds Tryd.pinned (OpenSpec.ofChange textJoinsWrong)

/-- 'erratalaw02.TextParts': WHATEVER THE INPUT: true; the input reads as it did. -/
def textPartsSpec : ChangeSpec := { name := "textParts", fn := fun _ => fun
  | [d] => { results := [.lit (.bool true)], args := [d] }
  | _ => none }
def textPartsRow : OpenClaim := { program := "ytngcpifknomecaadoor", sum := "6e09034ddf846a64e8f9628bf9e73d5402d31507d6b95dbb12c4400335f7e33e", func := "errata/erratalaw02.TextParts", spec := "textParts", unfollowed := true, recurses := true, named := ["unicode/utf8.first", "unicode/utf8.acceptRanges"], apart := false, laid := [("unicode/utf8.acceptRanges", laid_unicode_utf8_acceptRanges), ("unicode/utf8.first", laid_unicode_utf8_first)] }
def TextPartsSaid : Prop := textPartsRow.holds Tryd.pinned (OpenSpec.ofChange textPartsSpec)

/-- ITS FALSE NEIGHBOUR: 'it returns false'. Refute it at one input. -/
def textPartsWrong : ChangeSpec := { name := "textParts", fn := fun _ => fun
  | [d] => { results := [.lit (.bool false)], args := [d] }
  | _ => none }
def TextPartsWrongFalsely : Prop := textPartsRow.holds Tryd.pinned (OpenSpec.ofChange textPartsWrong)

/-- 'erratalaw01.RunesTokens': WHATEVER THE INPUT: true; the input reads as it did. -/
def runesTokensSpec : ChangeSpec := { name := "runesTokens", fn := fun _ => fun
  | [d1, d2] => { results := [.lit (.bool true)], args := [d1, d2] }
  | _ => none }
def runesTokensRow : OpenClaim := { program := "ytngcpifknomecaadoor", sum := "6e09034ddf846a64e8f9628bf9e73d5402d31507d6b95dbb12c4400335f7e33e", func := "errata/erratalaw01.RunesTokens", spec := "runesTokens", unfollowed := true, recurses := true, named := ["unicode/utf8.first", "unicode/utf8.acceptRanges"], apart := false, laid := [("unicode/utf8.acceptRanges", laid_unicode_utf8_acceptRanges), ("unicode/utf8.first", laid_unicode_utf8_first)] }
def RunesTokensSaid : Prop := runesTokensRow.holds Tryd.pinned (OpenSpec.ofChange runesTokensSpec)

/-- ITS FALSE NEIGHBOUR: 'it returns false'. Refute it at one input. -/
def runesTokensWrong : ChangeSpec := { name := "runesTokens", fn := fun _ => fun
  | [d1, d2] => { results := [.lit (.bool false)], args := [d1, d2] }
  | _ => none }
def RunesTokensWrongFalsely : Prop := runesTokensRow.holds Tryd.pinned (OpenSpec.ofChange runesTokensWrong)

/-- 'erratalaw02.TextLetters': WHATEVER THE INPUT: true; the input reads as it did. -/
def textLettersSpec : ChangeSpec := { name := "textLetters", fn := fun _ => fun
  | [d1, d2] => { results := [.lit (.bool true)], args := [d1, d2] }
  | _ => none }
def textLettersRow : OpenClaim := { program := "ytngcpifknomecaadoor", sum := "6e09034ddf846a64e8f9628bf9e73d5402d31507d6b95dbb12c4400335f7e33e", func := "errata/erratalaw02.TextLetters", spec := "textLetters", unfollowed := true, recurses := true, named := ["unicode/utf8.first", "unicode/utf8.acceptRanges"], apart := false, laid := [("unicode/utf8.acceptRanges", laid_unicode_utf8_acceptRanges), ("unicode/utf8.first", laid_unicode_utf8_first)] }
def TextLettersSaid : Prop := textLettersRow.holds Tryd.pinned (OpenSpec.ofChange textLettersSpec)

/-- ITS FALSE NEIGHBOUR: 'it returns false'. Refute it at one input. -/
def textLettersWrong : ChangeSpec := { name := "textLetters", fn := fun _ => fun
  | [d1, d2] => { results := [.lit (.bool false)], args := [d1, d2] }
  | _ => none }
def TextLettersWrongFalsely : Prop := textLettersRow.holds Tryd.pinned (OpenSpec.ofChange textLettersWrong)

/-- 'erratalaw02.TextBack': WHATEVER THE INPUT: true; the input reads as it did. -/
def textBackSpec : ChangeSpec := { name := "textBack", fn := fun _ => fun
  | [d1, d2] => { results := [.lit (.bool true)], args := [d1, d2] }
  | _ => none }
def textBackRow : OpenClaim := { program := "ytngcpifknomecaadoor", sum := "6e09034ddf846a64e8f9628bf9e73d5402d31507d6b95dbb12c4400335f7e33e", func := "errata/erratalaw02.TextBack", spec := "textBack", inPlace := ["internal/abi.NoEscape"], unfollowed := true, recurses := true, named := ["unicode/utf8.first", "unicode/utf8.acceptRanges"], apart := false, laid := [("unicode/utf8.acceptRanges", laid_unicode_utf8_acceptRanges), ("unicode/utf8.first", laid_unicode_utf8_first)] }
def TextBackSaid : Prop := textBackRow.holds Tryd.pinned (OpenSpec.ofChange textBackSpec)

/-- ITS FALSE NEIGHBOUR: 'it returns false'. Refute it at one input. -/
def textBackWrong : ChangeSpec := { name := "textBack", fn := fun _ => fun
  | [d1, d2] => { results := [.lit (.bool false)], args := [d1, d2] }
  | _ => none }
def TextBackWrongFalsely : Prop := textBackRow.holds Tryd.pinned (OpenSpec.ofChange textBackWrong)

/-- 'erratalaw02.TextRefuses': WHATEVER THE INPUT: true; the input reads as it did. -/
def textRefusesSpec : ChangeSpec := { name := "textRefuses", fn := fun _ => fun
  | [d1, d2, d3] => { results := [.lit (.bool true)], args := [d1, d2, d3] }
  | _ => none }
def textRefusesRow : OpenClaim := { program := "ytngcpifknomecaadoor", sum := "6e09034ddf846a64e8f9628bf9e73d5402d31507d6b95dbb12c4400335f7e33e", func := "errata/erratalaw02.TextRefuses", spec := "textRefuses", inPlace := ["internal/abi.NoEscape", "internal/bytealg.MakeNoZero"], unfollowed := true, recurses := true, named := ["unicode/utf8.first", "unicode/utf8.acceptRanges"], apart := false, laid := [("unicode/utf8.acceptRanges", laid_unicode_utf8_acceptRanges), ("unicode/utf8.first", laid_unicode_utf8_first)] }
def TextRefusesSaid : Prop := textRefusesRow.holds Tryd.pinned (OpenSpec.ofChange textRefusesSpec)

/-- ITS FALSE NEIGHBOUR: 'it returns false'. Refute it at one input. -/
def textRefusesWrong : ChangeSpec := { name := "textRefuses", fn := fun _ => fun
  | [d1, d2, d3] => { results := [.lit (.bool false)], args := [d1, d2, d3] }
  | _ => none }
def TextRefusesWrongFalsely : Prop := textRefusesRow.holds Tryd.pinned (OpenSpec.ofChange textRefusesWrong)

/- THE SECOND FORM. 'bulk': how many values and letters a reading holds, each counted each time it is reached (what is shared counts as often as it is met; a slice's spare places count too). A statement '..UptoSaid' is the law's where the arguments, and the package variables that the reading takes, are together of bulk at most 1048576: NARROWER than '..Said'. Prove '..Said' where nothing that the law and all that it calls make is longer than what came in: it says more and counts as full. Else prove '..UptoSaid'. A law counts once. -/
mutual
def uptoBulk {H : Type} : DataW H → Nat
  | .lit (.string bytes) => bytes.length + 1
  | .lit _ => 1
  | .nil => 1
  | .ptr d => uptoBulk d + 1
  | .slice elems spare => uptoBulkAll elems + uptoBulkAll spare + 1
  | .agg parts => uptoBulkAll parts + 1
  | .iface _ d => uptoBulk d + 1
  | .map entries => uptoBulkEntries entries + 1
  | .held _ => 1
def uptoBulkAll {H : Type} : List (DataW H) → Nat
  | [] => 0
  | d :: r => uptoBulk d + uptoBulkAll r
def uptoBulkEntries {H : Type} : List (Lit × DataW H) → Nat
  | [] => 0
  | x :: r => uptoBulkEntry x + uptoBulkEntries r
def uptoBulkEntry {H : Type} : Lit × DataW H → Nat
  | (.string bytes, d) => bytes.length + uptoBulk d + 1
  | (_, d) => uptoBulk d + 1
 end
def uptoSmall : (H : Type) → List (DataW H) → Bool := fun _ ds => decide (uptoBulkAll ds ≤ 1048576)
def OpenSpec.upto (s : _root_.Go.ChangeSpec) : _root_.Go.OpenSpec := { _root_.Go.OpenSpec.ofChange s with cond := some uptoSmall }

/-- 'erratalaw01.RunesJoin', WHERE WHAT IT READS IS OF BULK AT MOST 1048576: true; the input reads as it did. -/
def runesJoinUptoRow : OpenClaim := { program := "ytngcpifknomecaadoor", sum := "6e09034ddf846a64e8f9628bf9e73d5402d31507d6b95dbb12c4400335f7e33e", func := "errata/erratalaw01.RunesJoin", spec := "runesJoin", unfollowed := true, recurses := true, named := ["unicode/utf8.first", "unicode/utf8.acceptRanges"], apart := false, laid := [("unicode/utf8.acceptRanges", laid_unicode_utf8_acceptRanges), ("unicode/utf8.first", laid_unicode_utf8_first)], narrowed := true }
def RunesJoinUptoSaid : Prop := runesJoinUptoRow.holds Tryd.pinned (OpenSpec.upto runesJoinSpec)

/-- 'erratalaw01.RunesDecode', WHERE WHAT IT READS IS OF BULK AT MOST 1048576: true; the input reads as it did. -/
def runesDecodeUptoRow : OpenClaim := { program := "ytngcpifknomecaadoor", sum := "6e09034ddf846a64e8f9628bf9e73d5402d31507d6b95dbb12c4400335f7e33e", func := "errata/erratalaw01.RunesDecode", spec := "runesDecode", unfollowed := true, recurses := true, named := ["unicode/utf8.first", "unicode/utf8.acceptRanges"], apart := false, laid := [("unicode/utf8.acceptRanges", laid_unicode_utf8_acceptRanges), ("unicode/utf8.first", laid_unicode_utf8_first)], narrowed := true }
def RunesDecodeUptoSaid : Prop := runesDecodeUptoRow.holds Tryd.pinned (OpenSpec.upto runesDecodeSpec)

/-- 'erratalaw01.RunesOrder', WHERE WHAT IT READS IS OF BULK AT MOST 1048576: true; the input reads as it did. -/
def runesOrderUptoRow : OpenClaim := { program := "ytngcpifknomecaadoor", sum := "6e09034ddf846a64e8f9628bf9e73d5402d31507d6b95dbb12c4400335f7e33e", func := "errata/erratalaw01.RunesOrder", spec := "runesOrder", inPlace := ["internal/bytealg.abigen_runtime_cmpstring"], unfollowed := true, recurses := true, named := ["unicode/utf8.first", "unicode/utf8.acceptRanges"], apart := false, laid := [("unicode/utf8.acceptRanges", laid_unicode_utf8_acceptRanges), ("unicode/utf8.first", laid_unicode_utf8_first)], narrowed := true }
def RunesOrderUptoSaid : Prop := runesOrderUptoRow.holds Tryd.pinned (OpenSpec.upto runesOrderSpec)

/-- 'erratalaw02.TextSpans', WHERE WHAT IT READS IS OF BULK AT MOST 1048576: true; the input reads as it did. -/
def textSpansUptoRow : OpenClaim := { program := "ytngcpifknomecaadoor", sum := "6e09034ddf846a64e8f9628bf9e73d5402d31507d6b95dbb12c4400335f7e33e", func := "errata/erratalaw02.TextSpans", spec := "textSpans", unfollowed := true, recurses := true, named := ["unicode/utf8.first", "unicode/utf8.acceptRanges"], apart := false, laid := [("unicode/utf8.acceptRanges", laid_unicode_utf8_acceptRanges), ("unicode/utf8.first", laid_unicode_utf8_first)], narrowed := true }
def TextSpansUptoSaid : Prop := textSpansUptoRow.holds Tryd.pinned (OpenSpec.upto textSpansSpec)

/-- 'erratalaw02.TextBetween', WHERE WHAT IT READS IS OF BULK AT MOST 1048576: true; the input reads as it did. -/
def textBetweenUptoRow : OpenClaim := { program := "ytngcpifknomecaadoor", sum := "6e09034ddf846a64e8f9628bf9e73d5402d31507d6b95dbb12c4400335f7e33e", func := "errata/erratalaw02.TextBetween", spec := "textBetween", unfollowed := true, recurses := true, named := ["unicode/utf8.first", "unicode/utf8.acceptRanges"], apart := false, laid := [("unicode/utf8.acceptRanges", laid_unicode_utf8_acceptRanges), ("unicode/utf8.first", laid_unicode_utf8_first)], narrowed := true }
def TextBetweenUptoSaid : Prop := textBetweenUptoRow.holds Tryd.pinned (OpenSpec.upto textBetweenSpec)

/-- 'erratalaw01.RunesEncode', WHERE WHAT IT READS IS OF BULK AT MOST 1048576: true; the input reads as it did. -/
def runesEncodeUptoRow : OpenClaim := { program := "ytngcpifknomecaadoor", sum := "6e09034ddf846a64e8f9628bf9e73d5402d31507d6b95dbb12c4400335f7e33e", func := "errata/erratalaw01.RunesEncode", spec := "runesEncode", unfollowed := true, recurses := true, named := ["unicode/utf8.first", "unicode/utf8.acceptRanges"], apart := false, laid := [("unicode/utf8.acceptRanges", laid_unicode_utf8_acceptRanges), ("unicode/utf8.first", laid_unicode_utf8_first)], narrowed := true }
def RunesEncodeUptoSaid : Prop := runesEncodeUptoRow.holds Tryd.pinned (OpenSpec.upto runesEncodeSpec)

/-- 'erratalaw01.RunesBack', WHERE WHAT IT READS IS OF BULK AT MOST 1048576: true; the input reads as it did. -/
def runesBackUptoRow : OpenClaim := { program := "ytngcpifknomecaadoor", sum := "6e09034ddf846a64e8f9628bf9e73d5402d31507d6b95dbb12c4400335f7e33e", func := "errata/erratalaw01.RunesBack", spec := "runesBack", unfollowed := true, recurses := true, named := ["unicode/utf8.first", "unicode/utf8.acceptRanges"], apart := false, laid := [("unicode/utf8.acceptRanges", laid_unicode_utf8_acceptRanges), ("unicode/utf8.first", laid_unicode_utf8_first)], narrowed := true }
def RunesBackUptoSaid : Prop := runesBackUptoRow.holds Tryd.pinned (OpenSpec.upto runesBackSpec)

/-- 'erratalaw02.TextJoins', WHERE WHAT IT READS IS OF BULK AT MOST 1048576: true; the input reads as it did. -/
def textJoinsUptoRow : OpenClaim := { program := "ytngcpifknomecaadoor", sum := "6e09034ddf846a64e8f9628bf9e73d5402d31507d6b95dbb12c4400335f7e33e", func := "errata/erratalaw02.TextJoins", spec := "textJoins", inPlace := ["internal/abi.NoEscape"], unfollowed := true, recurses := true, named := ["unicode/utf8.first", "unicode/utf8.acceptRanges"], apart := false, laid := [("unicode/utf8.acceptRanges", laid_unicode_utf8_acceptRanges), ("unicode/utf8.first", laid_unicode_utf8_first)], narrowed := true }
def TextJoinsUptoSaid : Prop := textJoinsUptoRow.holds Tryd.pinned (OpenSpec.upto textJoinsSpec)

/-- 'erratalaw02.TextParts', WHERE WHAT IT READS IS OF BULK AT MOST 1048576: true; the input reads as it did. -/
def textPartsUptoRow : OpenClaim := { program := "ytngcpifknomecaadoor", sum := "6e09034ddf846a64e8f9628bf9e73d5402d31507d6b95dbb12c4400335f7e33e", func := "errata/erratalaw02.TextParts", spec := "textParts", unfollowed := true, recurses := true, named := ["unicode/utf8.first", "unicode/utf8.acceptRanges"], apart := false, laid := [("unicode/utf8.acceptRanges", laid_unicode_utf8_acceptRanges), ("unicode/utf8.first", laid_unicode_utf8_first)], narrowed := true }
def TextPartsUptoSaid : Prop := textPartsUptoRow.holds Tryd.pinned (OpenSpec.upto textPartsSpec)

/-- 'erratalaw01.RunesTokens', WHERE WHAT IT READS IS OF BULK AT MOST 1048576: true; the input reads as it did. -/
def runesTokensUptoRow : OpenClaim := { program := "ytngcpifknomecaadoor", sum := "6e09034ddf846a64e8f9628bf9e73d5402d31507d6b95dbb12c4400335f7e33e", func := "errata/erratalaw01.RunesTokens", spec := "runesTokens", unfollowed := true, recurses := true, named := ["unicode/utf8.first", "unicode/utf8.acceptRanges"], apart := false, laid := [("unicode/utf8.acceptRanges", laid_unicode_utf8_acceptRanges), ("unicode/utf8.first", laid_unicode_utf8_first)], narrowed := true }
def RunesTokensUptoSaid : Prop := runesTokensUptoRow.holds Tryd.pinned (OpenSpec.upto runesTokensSpec)

/-- 'erratalaw02.TextLetters', WHERE WHAT IT READS IS OF BULK AT MOST 1048576: true; the input reads as it did. -/
def textLettersUptoRow : OpenClaim := { program := "ytngcpifknomecaadoor", sum := "6e09034ddf846a64e8f9628bf9e73d5402d31507d6b95dbb12c4400335f7e33e", func := "errata/erratalaw02.TextLetters", spec := "textLetters", unfollowed := true, recurses := true, named := ["unicode/utf8.first", "unicode/utf8.acceptRanges"], apart := false, laid := [("unicode/utf8.acceptRanges", laid_unicode_utf8_acceptRanges), ("unicode/utf8.first", laid_unicode_utf8_first)], narrowed := true }
def TextLettersUptoSaid : Prop := textLettersUptoRow.holds Tryd.pinned (OpenSpec.upto textLettersSpec)

/-- 'erratalaw02.TextBack', WHERE WHAT IT READS IS OF BULK AT MOST 1048576: true; the input reads as it did. -/
def textBackUptoRow : OpenClaim := { program := "ytngcpifknomecaadoor", sum := "6e09034ddf846a64e8f9628bf9e73d5402d31507d6b95dbb12c4400335f7e33e", func := "errata/erratalaw02.TextBack", spec := "textBack", inPlace := ["internal/abi.NoEscape"], unfollowed := true, recurses := true, named := ["unicode/utf8.first", "unicode/utf8.acceptRanges"], apart := false, laid := [("unicode/utf8.acceptRanges", laid_unicode_utf8_acceptRanges), ("unicode/utf8.first", laid_unicode_utf8_first)], narrowed := true }
def TextBackUptoSaid : Prop := textBackUptoRow.holds Tryd.pinned (OpenSpec.upto textBackSpec)

/-- 'erratalaw02.TextRefuses', WHERE WHAT IT READS IS OF BULK AT MOST 1048576: true; the input reads as it did. -/
def textRefusesUptoRow : OpenClaim := { program := "ytngcpifknomecaadoor", sum := "6e09034ddf846a64e8f9628bf9e73d5402d31507d6b95dbb12c4400335f7e33e", func := "errata/erratalaw02.TextRefuses", spec := "textRefuses", inPlace := ["internal/abi.NoEscape", "internal/bytealg.MakeNoZero"], unfollowed := true, recurses := true, named := ["unicode/utf8.first", "unicode/utf8.acceptRanges"], apart := false, laid := [("unicode/utf8.acceptRanges", laid_unicode_utf8_acceptRanges), ("unicode/utf8.first", laid_unicode_utf8_first)], narrowed := true }
def TextRefusesUptoSaid : Prop := textRefusesUptoRow.holds Tryd.pinned (OpenSpec.upto textRefusesSpec)

end Rows
end Go.Proofs.YtngcpifknomecaaDoor
