/-
  NARROWER THAN 'FOR EVERY INPUT', by the rows' own cells (each row's printed sentence says how): DawgStates: laid · DawgLeast: laid · DawgMore: laid · LexiconIs: laid · LexiconOnce: laid · DawgAll: laid · DawgFreqs: laid · LexiconAll: laid · DawgEnds: laid · LexiconBegins: laid · DawgWords: laid · LexiconBest: laid · LexiconFinds: laid.
  DERIVED. THE GIVEN ROWS OF THIS SEAT. 13 by the template 'for every input the law returns true; each argument reads behind the call as it read before'; 0 by the template 'total and deterministic' (their statements: YtpgjilomblpcpaaDoorTotals.lean).
  GIVEN WITH THE SEED: the statements are not yours to turn. If you find one false, say at which input.
  Laid BY PROGRAM, IN A SANDBOX (cutbox-rows.mjs): the forced cells as the released guide's own fill.sh prints them over the translation 24b56796c40528ec… (all of the seat's roots in one cut). By AI agents, Wed Nov 11 2026. No macro, syntax, notation, axiom, sorry.
-/
import Derived.Test.YtpgjilomblpcpaaDoorChecked
import GoSem.PinnedTables
import GoSem.Claim
import GoSem.ClaimJoined
import GoSem.ClaimMapViews
import Derived.JoinedTies
import Derived.KernelRfl
namespace Go.Proofs.YtpgjilomblpcpaaDoor
/- THE CELL 'sum', in the pinned program and in every row, IS THE sha256 OF THE DUMP (.gsa) THAT YtpgjilomblpcpaaDoorProg.lean LOADS. Nothing in Lean hashes anything: it is a label: what it is worth is what the hold of that sum in a sandbox is worth. -/
noncomputable def Tryd.pinned : Pinned := { name := "ytpgjilomblpcpaadoor", sum := "24b56796c40528ec3c9a30d395cd8a9b4f9405081895e02526df07f328b45deb", checked := Tryd.checked }
namespace Rows
def none {H : Type} : Left H := { results := [], args := [] }

/- WHAT THE LISTED PACKAGE-LEVEL VARIABLES READ AS WHEN THE CALL BEGINS. Each datum BY PROGRAM (the guide's laid-datum.mjs) off the statement by which the dump's own 'gosem.cut.vars' lays the variable. In a bare row this is a premise. The card (YtpgjilomblpcpaaDoorCards.lean) ties it to the program's text. -/
def laid_unicode_utf8_acceptRanges {H : Type} : DataW H := .agg [.agg [.lit (.int .u8 128), .lit (.int .u8 191)], .agg [.lit (.int .u8 160), .lit (.int .u8 191)], .agg [.lit (.int .u8 128), .lit (.int .u8 159)], .agg [.lit (.int .u8 144), .lit (.int .u8 191)], .agg [.lit (.int .u8 128), .lit (.int .u8 143)], .agg [.lit (.int .u8 0), .lit (.int .u8 0)], .agg [.lit (.int .u8 0), .lit (.int .u8 0)], .agg [.lit (.int .u8 0), .lit (.int .u8 0)], .agg [.lit (.int .u8 0), .lit (.int .u8 0)], .agg [.lit (.int .u8 0), .lit (.int .u8 0)], .agg [.lit (.int .u8 0), .lit (.int .u8 0)], .agg [.lit (.int .u8 0), .lit (.int .u8 0)], .agg [.lit (.int .u8 0), .lit (.int .u8 0)], .agg [.lit (.int .u8 0), .lit (.int .u8 0)], .agg [.lit (.int .u8 0), .lit (.int .u8 0)], .agg [.lit (.int .u8 0), .lit (.int .u8 0)]]
/-- One of Go's own tables, pinned by name: the form's constant. -/
def laid_unicode_utf8_first : DataW Unit := Go.Pinned.utf8First

/-- 'erratalaw10.DawgStates': WHATEVER THE INPUT: true; the input reads as it did. -/
def dawgStatesSpec : ChangeSpec := { name := "dawgStates", fn := fun _ => fun
  | [d1, d2, d3] => { results := [.lit (.bool true)], args := [d1, d2, d3] }
  | _ => none }
def dawgStatesRow : OpenClaim := { program := "ytpgjilomblpcpaadoor", sum := "24b56796c40528ec3c9a30d395cd8a9b4f9405081895e02526df07f328b45deb", func := "errata/erratalaw10.DawgStates", spec := "dawgStates", unfollowed := true, recurses := true, named := ["unicode/utf8.first", "unicode/utf8.acceptRanges"], apart := false, laid := [("unicode/utf8.acceptRanges", laid_unicode_utf8_acceptRanges), ("unicode/utf8.first", laid_unicode_utf8_first)] }
def DawgStatesSaid : Prop := dawgStatesRow.holds Tryd.pinned (OpenSpec.ofChange dawgStatesSpec)

/-- ITS FALSE NEIGHBOUR: 'it returns false'. Refute it at one input. -/
def dawgStatesWrong : ChangeSpec := { name := "dawgStates", fn := fun _ => fun
  | [d1, d2, d3] => { results := [.lit (.bool false)], args := [d1, d2, d3] }
  | _ => none }
def DawgStatesWrongFalsely : Prop := dawgStatesRow.holds Tryd.pinned (OpenSpec.ofChange dawgStatesWrong)

/-- 'erratalaw10.DawgLeast': WHATEVER THE INPUT: true; the input reads as it did. -/
def dawgLeastSpec : ChangeSpec := { name := "dawgLeast", fn := fun _ => fun
  | [d] => { results := [.lit (.bool true)], args := [d] }
  | _ => none }
def dawgLeastRow : OpenClaim := { program := "ytpgjilomblpcpaadoor", sum := "24b56796c40528ec3c9a30d395cd8a9b4f9405081895e02526df07f328b45deb", func := "errata/erratalaw10.DawgLeast", spec := "dawgLeast", unfollowed := true, recurses := true, named := ["unicode/utf8.first", "unicode/utf8.acceptRanges"], apart := false, laid := [("unicode/utf8.acceptRanges", laid_unicode_utf8_acceptRanges), ("unicode/utf8.first", laid_unicode_utf8_first)] }
def DawgLeastSaid : Prop := dawgLeastRow.holds Tryd.pinned (OpenSpec.ofChange dawgLeastSpec)

/-- ITS FALSE NEIGHBOUR: 'it returns false'. Refute it at one input. -/
def dawgLeastWrong : ChangeSpec := { name := "dawgLeast", fn := fun _ => fun
  | [d] => { results := [.lit (.bool false)], args := [d] }
  | _ => none }
def DawgLeastWrongFalsely : Prop := dawgLeastRow.holds Tryd.pinned (OpenSpec.ofChange dawgLeastWrong)

/-- 'erratalaw10.DawgMore': WHATEVER THE INPUT: true; the input reads as it did. -/
def dawgMoreSpec : ChangeSpec := { name := "dawgMore", fn := fun _ => fun
  | [d1, d2] => { results := [.lit (.bool true)], args := [d1, d2] }
  | _ => none }
def dawgMoreRow : OpenClaim := { program := "ytpgjilomblpcpaadoor", sum := "24b56796c40528ec3c9a30d395cd8a9b4f9405081895e02526df07f328b45deb", func := "errata/erratalaw10.DawgMore", spec := "dawgMore", unfollowed := true, recurses := true, named := ["unicode/utf8.first", "unicode/utf8.acceptRanges"], apart := false, laid := [("unicode/utf8.acceptRanges", laid_unicode_utf8_acceptRanges), ("unicode/utf8.first", laid_unicode_utf8_first)] }
def DawgMoreSaid : Prop := dawgMoreRow.holds Tryd.pinned (OpenSpec.ofChange dawgMoreSpec)

/-- ITS FALSE NEIGHBOUR: 'it returns false'. Refute it at one input. -/
def dawgMoreWrong : ChangeSpec := { name := "dawgMore", fn := fun _ => fun
  | [d1, d2] => { results := [.lit (.bool false)], args := [d1, d2] }
  | _ => none }
def DawgMoreWrongFalsely : Prop := dawgMoreRow.holds Tryd.pinned (OpenSpec.ofChange dawgMoreWrong)

/-- 'erratalaw09.LexiconIs': WHATEVER THE INPUT: true; the input reads as it did. -/
def lexiconIsSpec : ChangeSpec := { name := "lexiconIs", fn := fun _ => fun
  | [d1, d2] => { results := [.lit (.bool true)], args := [d1, d2] }
  | _ => none }
def lexiconIsRow : OpenClaim := { program := "ytpgjilomblpcpaadoor", sum := "24b56796c40528ec3c9a30d395cd8a9b4f9405081895e02526df07f328b45deb", func := "errata/erratalaw09.LexiconIs", spec := "lexiconIs", unfollowed := true, recurses := true, named := ["unicode/utf8.first", "unicode/utf8.acceptRanges"], apart := false, laid := [("unicode/utf8.acceptRanges", laid_unicode_utf8_acceptRanges), ("unicode/utf8.first", laid_unicode_utf8_first)] }
def LexiconIsSaid : Prop := lexiconIsRow.holds Tryd.pinned (OpenSpec.ofChange lexiconIsSpec)

/-- ITS FALSE NEIGHBOUR: 'it returns false'. Refute it at one input. -/
def lexiconIsWrong : ChangeSpec := { name := "lexiconIs", fn := fun _ => fun
  | [d1, d2] => { results := [.lit (.bool false)], args := [d1, d2] }
  | _ => none }
def LexiconIsWrongFalsely : Prop := lexiconIsRow.holds Tryd.pinned (OpenSpec.ofChange lexiconIsWrong)

/-- 'erratalaw09.LexiconOnce': WHATEVER THE INPUT: true; the input reads as it did. -/
def lexiconOnceSpec : ChangeSpec := { name := "lexiconOnce", fn := fun _ => fun
  | [d1, d2] => { results := [.lit (.bool true)], args := [d1, d2] }
  | _ => none }
def lexiconOnceRow : OpenClaim := { program := "ytpgjilomblpcpaadoor", sum := "24b56796c40528ec3c9a30d395cd8a9b4f9405081895e02526df07f328b45deb", func := "errata/erratalaw09.LexiconOnce", spec := "lexiconOnce", unfollowed := true, recurses := true, named := ["unicode/utf8.first", "unicode/utf8.acceptRanges"], apart := false, laid := [("unicode/utf8.acceptRanges", laid_unicode_utf8_acceptRanges), ("unicode/utf8.first", laid_unicode_utf8_first)] }
def LexiconOnceSaid : Prop := lexiconOnceRow.holds Tryd.pinned (OpenSpec.ofChange lexiconOnceSpec)

/-- ITS FALSE NEIGHBOUR: 'it returns false'. Refute it at one input. -/
def lexiconOnceWrong : ChangeSpec := { name := "lexiconOnce", fn := fun _ => fun
  | [d1, d2] => { results := [.lit (.bool false)], args := [d1, d2] }
  | _ => none }
def LexiconOnceWrongFalsely : Prop := lexiconOnceRow.holds Tryd.pinned (OpenSpec.ofChange lexiconOnceWrong)

/-- 'erratalaw10.DawgAll': WHATEVER THE INPUT: true; the input reads as it did. -/
def dawgAllSpec : ChangeSpec := { name := "dawgAll", fn := fun _ => fun
  | [d1, d2] => { results := [.lit (.bool true)], args := [d1, d2] }
  | _ => none }
def dawgAllRow : OpenClaim := { program := "ytpgjilomblpcpaadoor", sum := "24b56796c40528ec3c9a30d395cd8a9b4f9405081895e02526df07f328b45deb", func := "errata/erratalaw10.DawgAll", spec := "dawgAll", unfollowed := true, recurses := true, named := ["unicode/utf8.first", "unicode/utf8.acceptRanges"], apart := false, laid := [("unicode/utf8.acceptRanges", laid_unicode_utf8_acceptRanges), ("unicode/utf8.first", laid_unicode_utf8_first)] }
def DawgAllSaid : Prop := dawgAllRow.holds Tryd.pinned (OpenSpec.ofChange dawgAllSpec)

/-- ITS FALSE NEIGHBOUR: 'it returns false'. Refute it at one input. -/
def dawgAllWrong : ChangeSpec := { name := "dawgAll", fn := fun _ => fun
  | [d1, d2] => { results := [.lit (.bool false)], args := [d1, d2] }
  | _ => none }
def DawgAllWrongFalsely : Prop := dawgAllRow.holds Tryd.pinned (OpenSpec.ofChange dawgAllWrong)

/-- 'erratalaw10.DawgFreqs': WHATEVER THE INPUT: true; the input reads as it did. -/
def dawgFreqsSpec : ChangeSpec := { name := "dawgFreqs", fn := fun _ => fun
  | [d1, d2] => { results := [.lit (.bool true)], args := [d1, d2] }
  | _ => none }
def dawgFreqsRow : OpenClaim := { program := "ytpgjilomblpcpaadoor", sum := "24b56796c40528ec3c9a30d395cd8a9b4f9405081895e02526df07f328b45deb", func := "errata/erratalaw10.DawgFreqs", spec := "dawgFreqs", unfollowed := true, recurses := true, named := ["unicode/utf8.first", "unicode/utf8.acceptRanges"], apart := false, laid := [("unicode/utf8.acceptRanges", laid_unicode_utf8_acceptRanges), ("unicode/utf8.first", laid_unicode_utf8_first)] }
def DawgFreqsSaid : Prop := dawgFreqsRow.holds Tryd.pinned (OpenSpec.ofChange dawgFreqsSpec)

/-- ITS FALSE NEIGHBOUR: 'it returns false'. Refute it at one input. -/
def dawgFreqsWrong : ChangeSpec := { name := "dawgFreqs", fn := fun _ => fun
  | [d1, d2] => { results := [.lit (.bool false)], args := [d1, d2] }
  | _ => none }
def DawgFreqsWrongFalsely : Prop := dawgFreqsRow.holds Tryd.pinned (OpenSpec.ofChange dawgFreqsWrong)

/-- 'erratalaw09.LexiconAll': WHATEVER THE INPUT: true; the input reads as it did. -/
def lexiconAllSpec : ChangeSpec := { name := "lexiconAll", fn := fun _ => fun
  | [d1, d2] => { results := [.lit (.bool true)], args := [d1, d2] }
  | _ => none }
def lexiconAllRow : OpenClaim := { program := "ytpgjilomblpcpaadoor", sum := "24b56796c40528ec3c9a30d395cd8a9b4f9405081895e02526df07f328b45deb", func := "errata/erratalaw09.LexiconAll", spec := "lexiconAll", unfollowed := true, recurses := true, named := ["unicode/utf8.first", "unicode/utf8.acceptRanges"], apart := false, laid := [("unicode/utf8.acceptRanges", laid_unicode_utf8_acceptRanges), ("unicode/utf8.first", laid_unicode_utf8_first)] }
def LexiconAllSaid : Prop := lexiconAllRow.holds Tryd.pinned (OpenSpec.ofChange lexiconAllSpec)

/-- ITS FALSE NEIGHBOUR: 'it returns false'. Refute it at one input. -/
def lexiconAllWrong : ChangeSpec := { name := "lexiconAll", fn := fun _ => fun
  | [d1, d2] => { results := [.lit (.bool false)], args := [d1, d2] }
  | _ => none }
def LexiconAllWrongFalsely : Prop := lexiconAllRow.holds Tryd.pinned (OpenSpec.ofChange lexiconAllWrong)

/-- 'erratalaw10.DawgEnds': WHATEVER THE INPUT: true; the input reads as it did. -/
def dawgEndsSpec : ChangeSpec := { name := "dawgEnds", fn := fun _ => fun
  | [d1, d2] => { results := [.lit (.bool true)], args := [d1, d2] }
  | _ => none }
def dawgEndsRow : OpenClaim := { program := "ytpgjilomblpcpaadoor", sum := "24b56796c40528ec3c9a30d395cd8a9b4f9405081895e02526df07f328b45deb", func := "errata/erratalaw10.DawgEnds", spec := "dawgEnds", unfollowed := true, recurses := true, named := ["unicode/utf8.first", "unicode/utf8.acceptRanges"], apart := false, laid := [("unicode/utf8.acceptRanges", laid_unicode_utf8_acceptRanges), ("unicode/utf8.first", laid_unicode_utf8_first)] }
def DawgEndsSaid : Prop := dawgEndsRow.holds Tryd.pinned (OpenSpec.ofChange dawgEndsSpec)

/-- ITS FALSE NEIGHBOUR: 'it returns false'. Refute it at one input. -/
def dawgEndsWrong : ChangeSpec := { name := "dawgEnds", fn := fun _ => fun
  | [d1, d2] => { results := [.lit (.bool false)], args := [d1, d2] }
  | _ => none }
def DawgEndsWrongFalsely : Prop := dawgEndsRow.holds Tryd.pinned (OpenSpec.ofChange dawgEndsWrong)

/-- 'erratalaw09.LexiconBegins': WHATEVER THE INPUT: true; the input reads as it did. -/
def lexiconBeginsSpec : ChangeSpec := { name := "lexiconBegins", fn := fun _ => fun
  | [d1, d2, d3] => { results := [.lit (.bool true)], args := [d1, d2, d3] }
  | _ => none }
def lexiconBeginsRow : OpenClaim := { program := "ytpgjilomblpcpaadoor", sum := "24b56796c40528ec3c9a30d395cd8a9b4f9405081895e02526df07f328b45deb", func := "errata/erratalaw09.LexiconBegins", spec := "lexiconBegins", unfollowed := true, recurses := true, named := ["unicode/utf8.first", "unicode/utf8.acceptRanges"], apart := false, laid := [("unicode/utf8.acceptRanges", laid_unicode_utf8_acceptRanges), ("unicode/utf8.first", laid_unicode_utf8_first)] }
def LexiconBeginsSaid : Prop := lexiconBeginsRow.holds Tryd.pinned (OpenSpec.ofChange lexiconBeginsSpec)

/-- ITS FALSE NEIGHBOUR: 'it returns false'. Refute it at one input. -/
def lexiconBeginsWrong : ChangeSpec := { name := "lexiconBegins", fn := fun _ => fun
  | [d1, d2, d3] => { results := [.lit (.bool false)], args := [d1, d2, d3] }
  | _ => none }
def LexiconBeginsWrongFalsely : Prop := lexiconBeginsRow.holds Tryd.pinned (OpenSpec.ofChange lexiconBeginsWrong)

/-- 'erratalaw10.DawgWords': WHATEVER THE INPUT: true; the input reads as it did. -/
def dawgWordsSpec : ChangeSpec := { name := "dawgWords", fn := fun _ => fun
  | [d1, d2, d3] => { results := [.lit (.bool true)], args := [d1, d2, d3] }
  | _ => none }
def dawgWordsRow : OpenClaim := { program := "ytpgjilomblpcpaadoor", sum := "24b56796c40528ec3c9a30d395cd8a9b4f9405081895e02526df07f328b45deb", func := "errata/erratalaw10.DawgWords", spec := "dawgWords", unfollowed := true, recurses := true, named := ["unicode/utf8.first", "unicode/utf8.acceptRanges"], apart := false, laid := [("unicode/utf8.acceptRanges", laid_unicode_utf8_acceptRanges), ("unicode/utf8.first", laid_unicode_utf8_first)] }
def DawgWordsSaid : Prop := dawgWordsRow.holds Tryd.pinned (OpenSpec.ofChange dawgWordsSpec)

/-- ITS FALSE NEIGHBOUR: 'it returns false'. Refute it at one input. -/
def dawgWordsWrong : ChangeSpec := { name := "dawgWords", fn := fun _ => fun
  | [d1, d2, d3] => { results := [.lit (.bool false)], args := [d1, d2, d3] }
  | _ => none }
def DawgWordsWrongFalsely : Prop := dawgWordsRow.holds Tryd.pinned (OpenSpec.ofChange dawgWordsWrong)

/-- 'erratalaw09.LexiconBest': WHATEVER THE INPUT: true; the input reads as it did. -/
def lexiconBestSpec : ChangeSpec := { name := "lexiconBest", fn := fun _ => fun
  | [d1, d2] => { results := [.lit (.bool true)], args := [d1, d2] }
  | _ => none }
def lexiconBestRow : OpenClaim := { program := "ytpgjilomblpcpaadoor", sum := "24b56796c40528ec3c9a30d395cd8a9b4f9405081895e02526df07f328b45deb", func := "errata/erratalaw09.LexiconBest", spec := "lexiconBest", unfollowed := true, recurses := true, named := ["unicode/utf8.first", "unicode/utf8.acceptRanges"], apart := false, laid := [("unicode/utf8.acceptRanges", laid_unicode_utf8_acceptRanges), ("unicode/utf8.first", laid_unicode_utf8_first)] }
def LexiconBestSaid : Prop := lexiconBestRow.holds Tryd.pinned (OpenSpec.ofChange lexiconBestSpec)

/-- ITS FALSE NEIGHBOUR: 'it returns false'. Refute it at one input. -/
def lexiconBestWrong : ChangeSpec := { name := "lexiconBest", fn := fun _ => fun
  | [d1, d2] => { results := [.lit (.bool false)], args := [d1, d2] }
  | _ => none }
def LexiconBestWrongFalsely : Prop := lexiconBestRow.holds Tryd.pinned (OpenSpec.ofChange lexiconBestWrong)

/-- 'erratalaw09.LexiconFinds': WHATEVER THE INPUT: true; the input reads as it did. -/
def lexiconFindsSpec : ChangeSpec := { name := "lexiconFinds", fn := fun _ => fun
  | [d] => { results := [.lit (.bool true)], args := [d] }
  | _ => none }
def lexiconFindsRow : OpenClaim := { program := "ytpgjilomblpcpaadoor", sum := "24b56796c40528ec3c9a30d395cd8a9b4f9405081895e02526df07f328b45deb", func := "errata/erratalaw09.LexiconFinds", spec := "lexiconFinds", unfollowed := true, recurses := true, named := ["unicode/utf8.first", "unicode/utf8.acceptRanges"], apart := false, laid := [("unicode/utf8.acceptRanges", laid_unicode_utf8_acceptRanges), ("unicode/utf8.first", laid_unicode_utf8_first)] }
def LexiconFindsSaid : Prop := lexiconFindsRow.holds Tryd.pinned (OpenSpec.ofChange lexiconFindsSpec)

/-- ITS FALSE NEIGHBOUR: 'it returns false'. Refute it at one input. -/
def lexiconFindsWrong : ChangeSpec := { name := "lexiconFinds", fn := fun _ => fun
  | [d] => { results := [.lit (.bool false)], args := [d] }
  | _ => none }
def LexiconFindsWrongFalsely : Prop := lexiconFindsRow.holds Tryd.pinned (OpenSpec.ofChange lexiconFindsWrong)

/- THE SECOND FORM. 'bulk': how many values and letters a reading holds, each counted each time it is reached (what is shared counts as often as it is met; a slice's spare places count too). A statement '..UptoSaid' is the law's where the arguments, and the package variables that the reading takes, are together of bulk at most 1048576: NARROWER than '..Said'. Prove '..Said' where nothing that the law and all that it calls make is longer than what came in: it says more and counts as full. Else prove '..UptoSaid'. A law counts once. -/
mutual
def uptoBulk {H : Type} : DataW H → Nat
  | .lit (.string bytes) => bytes.length + 1
  | .lit _ => 1
  | .nil => 1
  | .ptr d => uptoBulk d + 1
  | .slice elems spare => uptoBulkAll elems + uptoBulkAll spare + 1
  | .agg parts => uptoBulkAll parts + 1
  | .iface _ d => uptoBulk d + 1
  | .map entries => uptoBulkEntries entries + 1
  | .held _ => 1
def uptoBulkAll {H : Type} : List (DataW H) → Nat
  | [] => 0
  | d :: r => uptoBulk d + uptoBulkAll r
def uptoBulkEntries {H : Type} : List (Lit × DataW H) → Nat
  | [] => 0
  | x :: r => uptoBulkEntry x + uptoBulkEntries r
def uptoBulkEntry {H : Type} : Lit × DataW H → Nat
  | (.string bytes, d) => bytes.length + uptoBulk d + 1
  | (_, d) => uptoBulk d + 1
 end
def uptoSmall : (H : Type) → List (DataW H) → Bool := fun _ ds => decide (uptoBulkAll ds ≤ 1048576)
def OpenSpec.upto (s : _root_.Go.ChangeSpec) : _root_.Go.OpenSpec := { _root_.Go.OpenSpec.ofChange s with cond := some uptoSmall }

/-- 'erratalaw10.DawgStates', WHERE WHAT IT READS IS OF BULK AT MOST 1048576: true; the input reads as it did. -/
def dawgStatesUptoRow : OpenClaim := { program := "ytpgjilomblpcpaadoor", sum := "24b56796c40528ec3c9a30d395cd8a9b4f9405081895e02526df07f328b45deb", func := "errata/erratalaw10.DawgStates", spec := "dawgStates", unfollowed := true, recurses := true, named := ["unicode/utf8.first", "unicode/utf8.acceptRanges"], apart := false, laid := [("unicode/utf8.acceptRanges", laid_unicode_utf8_acceptRanges), ("unicode/utf8.first", laid_unicode_utf8_first)], narrowed := true }
def DawgStatesUptoSaid : Prop := dawgStatesUptoRow.holds Tryd.pinned (OpenSpec.upto dawgStatesSpec)

/-- 'erratalaw10.DawgLeast', WHERE WHAT IT READS IS OF BULK AT MOST 1048576: true; the input reads as it did. -/
def dawgLeastUptoRow : OpenClaim := { program := "ytpgjilomblpcpaadoor", sum := "24b56796c40528ec3c9a30d395cd8a9b4f9405081895e02526df07f328b45deb", func := "errata/erratalaw10.DawgLeast", spec := "dawgLeast", unfollowed := true, recurses := true, named := ["unicode/utf8.first", "unicode/utf8.acceptRanges"], apart := false, laid := [("unicode/utf8.acceptRanges", laid_unicode_utf8_acceptRanges), ("unicode/utf8.first", laid_unicode_utf8_first)], narrowed := true }
def DawgLeastUptoSaid : Prop := dawgLeastUptoRow.holds Tryd.pinned (OpenSpec.upto dawgLeastSpec)

/-- 'erratalaw10.DawgMore', WHERE WHAT IT READS IS OF BULK AT MOST 1048576: true; the input reads as it did. -/
def dawgMoreUptoRow : OpenClaim := { program := "ytpgjilomblpcpaadoor", sum := "24b56796c40528ec3c9a30d395cd8a9b4f9405081895e02526df07f328b45deb", func := "errata/erratalaw10.DawgMore", spec := "dawgMore", unfollowed := true, recurses := true, named := ["unicode/utf8.first", "unicode/utf8.acceptRanges"], apart := false, laid := [("unicode/utf8.acceptRanges", laid_unicode_utf8_acceptRanges), ("unicode/utf8.first", laid_unicode_utf8_first)], narrowed := true }
def DawgMoreUptoSaid : Prop := dawgMoreUptoRow.holds Tryd.pinned (OpenSpec.upto dawgMoreSpec)

/-- 'erratalaw09.LexiconIs', WHERE WHAT IT READS IS OF BULK AT MOST 1048576: true; the input reads as it did. -/
def lexiconIsUptoRow : OpenClaim := { program := "ytpgjilomblpcpaadoor", sum := "24b56796c40528ec3c9a30d395cd8a9b4f9405081895e02526df07f328b45deb", func := "errata/erratalaw09.LexiconIs", spec := "lexiconIs", unfollowed := true, recurses := true, named := ["unicode/utf8.first", "unicode/utf8.acceptRanges"], apart := false, laid := [("unicode/utf8.acceptRanges", laid_unicode_utf8_acceptRanges), ("unicode/utf8.first", laid_unicode_utf8_first)], narrowed := true }
def LexiconIsUptoSaid : Prop := lexiconIsUptoRow.holds Tryd.pinned (OpenSpec.upto lexiconIsSpec)

/-- 'erratalaw09.LexiconOnce', WHERE WHAT IT READS IS OF BULK AT MOST 1048576: true; the input reads as it did. -/
def lexiconOnceUptoRow : OpenClaim := { program := "ytpgjilomblpcpaadoor", sum := "24b56796c40528ec3c9a30d395cd8a9b4f9405081895e02526df07f328b45deb", func := "errata/erratalaw09.LexiconOnce", spec := "lexiconOnce", unfollowed := true, recurses := true, named := ["unicode/utf8.first", "unicode/utf8.acceptRanges"], apart := false, laid := [("unicode/utf8.acceptRanges", laid_unicode_utf8_acceptRanges), ("unicode/utf8.first", laid_unicode_utf8_first)], narrowed := true }
def LexiconOnceUptoSaid : Prop := lexiconOnceUptoRow.holds Tryd.pinned (OpenSpec.upto lexiconOnceSpec)

/-- 'erratalaw10.DawgAll', WHERE WHAT IT READS IS OF BULK AT MOST 1048576: true; the input reads as it did. -/
def dawgAllUptoRow : OpenClaim := { program := "ytpgjilomblpcpaadoor", sum := "24b56796c40528ec3c9a30d395cd8a9b4f9405081895e02526df07f328b45deb", func := "errata/erratalaw10.DawgAll", spec := "dawgAll", unfollowed := true, recurses := true, named := ["unicode/utf8.first", "unicode/utf8.acceptRanges"], apart := false, laid := [("unicode/utf8.acceptRanges", laid_unicode_utf8_acceptRanges), ("unicode/utf8.first", laid_unicode_utf8_first)], narrowed := true }
def DawgAllUptoSaid : Prop := dawgAllUptoRow.holds Tryd.pinned (OpenSpec.upto dawgAllSpec)

/-- 'erratalaw10.DawgFreqs', WHERE WHAT IT READS IS OF BULK AT MOST 1048576: true; the input reads as it did. -/
def dawgFreqsUptoRow : OpenClaim := { program := "ytpgjilomblpcpaadoor", sum := "24b56796c40528ec3c9a30d395cd8a9b4f9405081895e02526df07f328b45deb", func := "errata/erratalaw10.DawgFreqs", spec := "dawgFreqs", unfollowed := true, recurses := true, named := ["unicode/utf8.first", "unicode/utf8.acceptRanges"], apart := false, laid := [("unicode/utf8.acceptRanges", laid_unicode_utf8_acceptRanges), ("unicode/utf8.first", laid_unicode_utf8_first)], narrowed := true }
def DawgFreqsUptoSaid : Prop := dawgFreqsUptoRow.holds Tryd.pinned (OpenSpec.upto dawgFreqsSpec)

/-- 'erratalaw09.LexiconAll', WHERE WHAT IT READS IS OF BULK AT MOST 1048576: true; the input reads as it did. -/
def lexiconAllUptoRow : OpenClaim := { program := "ytpgjilomblpcpaadoor", sum := "24b56796c40528ec3c9a30d395cd8a9b4f9405081895e02526df07f328b45deb", func := "errata/erratalaw09.LexiconAll", spec := "lexiconAll", unfollowed := true, recurses := true, named := ["unicode/utf8.first", "unicode/utf8.acceptRanges"], apart := false, laid := [("unicode/utf8.acceptRanges", laid_unicode_utf8_acceptRanges), ("unicode/utf8.first", laid_unicode_utf8_first)], narrowed := true }
def LexiconAllUptoSaid : Prop := lexiconAllUptoRow.holds Tryd.pinned (OpenSpec.upto lexiconAllSpec)

/-- 'erratalaw10.DawgEnds', WHERE WHAT IT READS IS OF BULK AT MOST 1048576: true; the input reads as it did. -/
def dawgEndsUptoRow : OpenClaim := { program := "ytpgjilomblpcpaadoor", sum := "24b56796c40528ec3c9a30d395cd8a9b4f9405081895e02526df07f328b45deb", func := "errata/erratalaw10.DawgEnds", spec := "dawgEnds", unfollowed := true, recurses := true, named := ["unicode/utf8.first", "unicode/utf8.acceptRanges"], apart := false, laid := [("unicode/utf8.acceptRanges", laid_unicode_utf8_acceptRanges), ("unicode/utf8.first", laid_unicode_utf8_first)], narrowed := true }
def DawgEndsUptoSaid : Prop := dawgEndsUptoRow.holds Tryd.pinned (OpenSpec.upto dawgEndsSpec)

/-- 'erratalaw09.LexiconBegins', WHERE WHAT IT READS IS OF BULK AT MOST 1048576: true; the input reads as it did. -/
def lexiconBeginsUptoRow : OpenClaim := { program := "ytpgjilomblpcpaadoor", sum := "24b56796c40528ec3c9a30d395cd8a9b4f9405081895e02526df07f328b45deb", func := "errata/erratalaw09.LexiconBegins", spec := "lexiconBegins", unfollowed := true, recurses := true, named := ["unicode/utf8.first", "unicode/utf8.acceptRanges"], apart := false, laid := [("unicode/utf8.acceptRanges", laid_unicode_utf8_acceptRanges), ("unicode/utf8.first", laid_unicode_utf8_first)], narrowed := true }
def LexiconBeginsUptoSaid : Prop := lexiconBeginsUptoRow.holds Tryd.pinned (OpenSpec.upto lexiconBeginsSpec)

/-- 'erratalaw10.DawgWords', WHERE WHAT IT READS IS OF BULK AT MOST 1048576: true; the input reads as it did. -/
def dawgWordsUptoRow : OpenClaim := { program := "ytpgjilomblpcpaadoor", sum := "24b56796c40528ec3c9a30d395cd8a9b4f9405081895e02526df07f328b45deb", func := "errata/erratalaw10.DawgWords", spec := "dawgWords", unfollowed := true, recurses := true, named := ["unicode/utf8.first", "unicode/utf8.acceptRanges"], apart := false, laid := [("unicode/utf8.acceptRanges", laid_unicode_utf8_acceptRanges), ("unicode/utf8.first", laid_unicode_utf8_first)], narrowed := true }
def DawgWordsUptoSaid : Prop := dawgWordsUptoRow.holds Tryd.pinned (OpenSpec.upto dawgWordsSpec)

/-- 'erratalaw09.LexiconBest', WHERE WHAT IT READS IS OF BULK AT MOST 1048576: true; the input reads as it did. -/
def lexiconBestUptoRow : OpenClaim := { program := "ytpgjilomblpcpaadoor", sum := "24b56796c40528ec3c9a30d395cd8a9b4f9405081895e02526df07f328b45deb", func := "errata/erratalaw09.LexiconBest", spec := "lexiconBest", unfollowed := true, recurses := true, named := ["unicode/utf8.first", "unicode/utf8.acceptRanges"], apart := false, laid := [("unicode/utf8.acceptRanges", laid_unicode_utf8_acceptRanges), ("unicode/utf8.first", laid_unicode_utf8_first)], narrowed := true }
def LexiconBestUptoSaid : Prop := lexiconBestUptoRow.holds Tryd.pinned (OpenSpec.upto lexiconBestSpec)

/-- 'erratalaw09.LexiconFinds', WHERE WHAT IT READS IS OF BULK AT MOST 1048576: true; the input reads as it did. -/
def lexiconFindsUptoRow : OpenClaim := { program := "ytpgjilomblpcpaadoor", sum := "24b56796c40528ec3c9a30d395cd8a9b4f9405081895e02526df07f328b45deb", func := "errata/erratalaw09.LexiconFinds", spec := "lexiconFinds", unfollowed := true, recurses := true, named := ["unicode/utf8.first", "unicode/utf8.acceptRanges"], apart := false, laid := [("unicode/utf8.acceptRanges", laid_unicode_utf8_acceptRanges), ("unicode/utf8.first", laid_unicode_utf8_first)], narrowed := true }
def LexiconFindsUptoSaid : Prop := lexiconFindsUptoRow.holds Tryd.pinned (OpenSpec.upto lexiconFindsSpec)

end Rows
end Go.Proofs.YtpgjilomblpcpaaDoor
