/-
  NARROWER THAN 'FOR EVERY INPUT', by the rows' own cells (each row's printed sentence says how): WalkStates: laid · WalkCompletes: laid · WalkMore: laid · WalkLongest: laid · WalkCounts: laid · WalkSplits: laid.
  DERIVED. THE GIVEN ROWS OF THIS SEAT. 6 by the template 'for every input the law returns true; each argument reads behind the call as it read before'; 0 by the template 'total and deterministic' (their statements: YtgkhohpekfjlmaaDoorTotals.lean).
  GIVEN WITH THE SEED: the statements are not yours to turn. If you find one false, say at which input.
  Laid BY PROGRAM, IN A SANDBOX (cutbox-rows.mjs): the forced cells as the released guide's own fill.sh prints them over the translation 91798c5592c5f63b… (all of the seat's roots in one cut). By AI agents, Wed Nov 11 2026. No macro, syntax, notation, axiom, sorry.
-/
import Derived.Test.YtgkhohpekfjlmaaDoorChecked
import GoSem.PinnedTables
import GoSem.Claim
import GoSem.ClaimJoined
import GoSem.ClaimMapViews
import Derived.JoinedTies
import Derived.KernelRfl
namespace Go.Proofs.YtgkhohpekfjlmaaDoor
/- THE CELL 'sum', in the pinned program and in every row, IS THE sha256 OF THE DUMP (.gsa) THAT YtgkhohpekfjlmaaDoorProg.lean LOADS. Nothing in Lean hashes anything: it is a label: what it is worth is what the hold of that sum in a sandbox is worth. -/
noncomputable def Tryd.pinned : Pinned := { name := "ytgkhohpekfjlmaadoor", sum := "91798c5592c5f63bd2b5a43db70cede6e456a4bae51d5eb7651d4e1f1d5bdebc", checked := Tryd.checked }
namespace Rows
def none {H : Type} : Left H := { results := [], args := [] }

/- WHAT THE LISTED PACKAGE-LEVEL VARIABLES READ AS WHEN THE CALL BEGINS. Each datum BY PROGRAM (the guide's laid-datum.mjs) off the statement by which the dump's own 'gosem.cut.vars' lays the variable. In a bare row this is a premise. The card (YtgkhohpekfjlmaaDoorCards.lean) ties it to the program's text. -/
def laid_unicode_utf8_acceptRanges {H : Type} : DataW H := .agg [.agg [.lit (.int .u8 128), .lit (.int .u8 191)], .agg [.lit (.int .u8 160), .lit (.int .u8 191)], .agg [.lit (.int .u8 128), .lit (.int .u8 159)], .agg [.lit (.int .u8 144), .lit (.int .u8 191)], .agg [.lit (.int .u8 128), .lit (.int .u8 143)], .agg [.lit (.int .u8 0), .lit (.int .u8 0)], .agg [.lit (.int .u8 0), .lit (.int .u8 0)], .agg [.lit (.int .u8 0), .lit (.int .u8 0)], .agg [.lit (.int .u8 0), .lit (.int .u8 0)], .agg [.lit (.int .u8 0), .lit (.int .u8 0)], .agg [.lit (.int .u8 0), .lit (.int .u8 0)], .agg [.lit (.int .u8 0), .lit (.int .u8 0)], .agg [.lit (.int .u8 0), .lit (.int .u8 0)], .agg [.lit (.int .u8 0), .lit (.int .u8 0)], .agg [.lit (.int .u8 0), .lit (.int .u8 0)], .agg [.lit (.int .u8 0), .lit (.int .u8 0)]]
/-- One of Go's own tables, pinned by name: the form's constant. -/
def laid_unicode_utf8_first : DataW Unit := Go.Pinned.utf8First

/-- 'erratalaw11.WalkStates': WHATEVER THE INPUT: true; the input reads as it did. -/
def walkStatesSpec : ChangeSpec := { name := "walkStates", fn := fun _ => fun
  | [d1, d2] => { results := [.lit (.bool true)], args := [d1, d2] }
  | _ => none }
def walkStatesRow : OpenClaim := { program := "ytgkhohpekfjlmaadoor", sum := "91798c5592c5f63bd2b5a43db70cede6e456a4bae51d5eb7651d4e1f1d5bdebc", func := "errata/erratalaw11.WalkStates", spec := "walkStates", unfollowed := true, recurses := true, named := ["unicode/utf8.first", "unicode/utf8.acceptRanges"], apart := false, laid := [("unicode/utf8.acceptRanges", laid_unicode_utf8_acceptRanges), ("unicode/utf8.first", laid_unicode_utf8_first)] }
def WalkStatesSaid : Prop := walkStatesRow.holds Tryd.pinned (OpenSpec.ofChange walkStatesSpec)

/-- ITS FALSE NEIGHBOUR: 'it returns false'. Refute it at one input. -/
def walkStatesWrong : ChangeSpec := { name := "walkStates", fn := fun _ => fun
  | [d1, d2] => { results := [.lit (.bool false)], args := [d1, d2] }
  | _ => none }
def WalkStatesWrongFalsely : Prop := walkStatesRow.holds Tryd.pinned (OpenSpec.ofChange walkStatesWrong)

/-- 'erratalaw11.WalkCompletes': WHATEVER THE INPUT: true; the input reads as it did. -/
def walkCompletesSpec : ChangeSpec := { name := "walkCompletes", fn := fun _ => fun
  | [d1, d2, d3] => { results := [.lit (.bool true)], args := [d1, d2, d3] }
  | _ => none }
def walkCompletesRow : OpenClaim := { program := "ytgkhohpekfjlmaadoor", sum := "91798c5592c5f63bd2b5a43db70cede6e456a4bae51d5eb7651d4e1f1d5bdebc", func := "errata/erratalaw11.WalkCompletes", spec := "walkCompletes", unfollowed := true, recurses := true, named := ["unicode/utf8.first", "unicode/utf8.acceptRanges"], apart := false, laid := [("unicode/utf8.acceptRanges", laid_unicode_utf8_acceptRanges), ("unicode/utf8.first", laid_unicode_utf8_first)] }
def WalkCompletesSaid : Prop := walkCompletesRow.holds Tryd.pinned (OpenSpec.ofChange walkCompletesSpec)

/-- ITS FALSE NEIGHBOUR: 'it returns false'. Refute it at one input. -/
def walkCompletesWrong : ChangeSpec := { name := "walkCompletes", fn := fun _ => fun
  | [d1, d2, d3] => { results := [.lit (.bool false)], args := [d1, d2, d3] }
  | _ => none }
def WalkCompletesWrongFalsely : Prop := walkCompletesRow.holds Tryd.pinned (OpenSpec.ofChange walkCompletesWrong)

/-- 'erratalaw11.WalkMore': WHATEVER THE INPUT: true; the input reads as it did. -/
def walkMoreSpec : ChangeSpec := { name := "walkMore", fn := fun _ => fun
  | [d] => { results := [.lit (.bool true)], args := [d] }
  | _ => none }
def walkMoreRow : OpenClaim := { program := "ytgkhohpekfjlmaadoor", sum := "91798c5592c5f63bd2b5a43db70cede6e456a4bae51d5eb7651d4e1f1d5bdebc", func := "errata/erratalaw11.WalkMore", spec := "walkMore", unfollowed := true, recurses := true, named := ["unicode/utf8.first", "unicode/utf8.acceptRanges"], apart := false, laid := [("unicode/utf8.acceptRanges", laid_unicode_utf8_acceptRanges), ("unicode/utf8.first", laid_unicode_utf8_first)] }
def WalkMoreSaid : Prop := walkMoreRow.holds Tryd.pinned (OpenSpec.ofChange walkMoreSpec)

/-- ITS FALSE NEIGHBOUR: 'it returns false'. Refute it at one input. -/
def walkMoreWrong : ChangeSpec := { name := "walkMore", fn := fun _ => fun
  | [d] => { results := [.lit (.bool false)], args := [d] }
  | _ => none }
def WalkMoreWrongFalsely : Prop := walkMoreRow.holds Tryd.pinned (OpenSpec.ofChange walkMoreWrong)

/-- 'erratalaw11.WalkLongest': WHATEVER THE INPUT: true; the input reads as it did. -/
def walkLongestSpec : ChangeSpec := { name := "walkLongest", fn := fun _ => fun
  | [d1, d2] => { results := [.lit (.bool true)], args := [d1, d2] }
  | _ => none }
def walkLongestRow : OpenClaim := { program := "ytgkhohpekfjlmaadoor", sum := "91798c5592c5f63bd2b5a43db70cede6e456a4bae51d5eb7651d4e1f1d5bdebc", func := "errata/erratalaw11.WalkLongest", spec := "walkLongest", unfollowed := true, recurses := true, named := ["unicode/utf8.first", "unicode/utf8.acceptRanges"], apart := false, laid := [("unicode/utf8.acceptRanges", laid_unicode_utf8_acceptRanges), ("unicode/utf8.first", laid_unicode_utf8_first)] }
def WalkLongestSaid : Prop := walkLongestRow.holds Tryd.pinned (OpenSpec.ofChange walkLongestSpec)

/-- ITS FALSE NEIGHBOUR: 'it returns false'. Refute it at one input. -/
def walkLongestWrong : ChangeSpec := { name := "walkLongest", fn := fun _ => fun
  | [d1, d2] => { results := [.lit (.bool false)], args := [d1, d2] }
  | _ => none }
def WalkLongestWrongFalsely : Prop := walkLongestRow.holds Tryd.pinned (OpenSpec.ofChange walkLongestWrong)

/-- 'erratalaw11.WalkCounts': WHATEVER THE INPUT: true; the input reads as it did. -/
def walkCountsSpec : ChangeSpec := { name := "walkCounts", fn := fun _ => fun
  | [d1, d2] => { results := [.lit (.bool true)], args := [d1, d2] }
  | _ => none }
def walkCountsRow : OpenClaim := { program := "ytgkhohpekfjlmaadoor", sum := "91798c5592c5f63bd2b5a43db70cede6e456a4bae51d5eb7651d4e1f1d5bdebc", func := "errata/erratalaw11.WalkCounts", spec := "walkCounts", unfollowed := true, recurses := true, named := ["unicode/utf8.first", "unicode/utf8.acceptRanges"], apart := false, laid := [("unicode/utf8.acceptRanges", laid_unicode_utf8_acceptRanges), ("unicode/utf8.first", laid_unicode_utf8_first)] }
def WalkCountsSaid : Prop := walkCountsRow.holds Tryd.pinned (OpenSpec.ofChange walkCountsSpec)

/-- ITS FALSE NEIGHBOUR: 'it returns false'. Refute it at one input. -/
def walkCountsWrong : ChangeSpec := { name := "walkCounts", fn := fun _ => fun
  | [d1, d2] => { results := [.lit (.bool false)], args := [d1, d2] }
  | _ => none }
def WalkCountsWrongFalsely : Prop := walkCountsRow.holds Tryd.pinned (OpenSpec.ofChange walkCountsWrong)

/-- 'erratalaw11.WalkSplits': WHATEVER THE INPUT: true; the input reads as it did. -/
def walkSplitsSpec : ChangeSpec := { name := "walkSplits", fn := fun _ => fun
  | [d1, d2, d3] => { results := [.lit (.bool true)], args := [d1, d2, d3] }
  | _ => none }
def walkSplitsRow : OpenClaim := { program := "ytgkhohpekfjlmaadoor", sum := "91798c5592c5f63bd2b5a43db70cede6e456a4bae51d5eb7651d4e1f1d5bdebc", func := "errata/erratalaw11.WalkSplits", spec := "walkSplits", inPlace := ["internal/abi.NoEscape", "internal/bytealg.MakeNoZero"], unfollowed := true, recurses := true, named := ["unicode/utf8.first", "unicode/utf8.acceptRanges"], apart := false, laid := [("unicode/utf8.acceptRanges", laid_unicode_utf8_acceptRanges), ("unicode/utf8.first", laid_unicode_utf8_first)] }
def WalkSplitsSaid : Prop := walkSplitsRow.holds Tryd.pinned (OpenSpec.ofChange walkSplitsSpec)

/-- ITS FALSE NEIGHBOUR: 'it returns false'. Refute it at one input. -/
def walkSplitsWrong : ChangeSpec := { name := "walkSplits", fn := fun _ => fun
  | [d1, d2, d3] => { results := [.lit (.bool false)], args := [d1, d2, d3] }
  | _ => none }
def WalkSplitsWrongFalsely : Prop := walkSplitsRow.holds Tryd.pinned (OpenSpec.ofChange walkSplitsWrong)

/- THE SECOND FORM. 'bulk': how many values and letters a reading holds, each counted each time it is reached (what is shared counts as often as it is met; a slice's spare places count too). A statement '..UptoSaid' is the law's where the arguments, and the package variables that the reading takes, are together of bulk at most 1048576: NARROWER than '..Said'. Prove '..Said' where nothing that the law and all that it calls make is longer than what came in: it says more and counts as full. Else prove '..UptoSaid'. A law counts once. -/
mutual
def uptoBulk {H : Type} : DataW H → Nat
  | .lit (.string bytes) => bytes.length + 1
  | .lit _ => 1
  | .nil => 1
  | .ptr d => uptoBulk d + 1
  | .slice elems spare => uptoBulkAll elems + uptoBulkAll spare + 1
  | .agg parts => uptoBulkAll parts + 1
  | .iface _ d => uptoBulk d + 1
  | .map entries => uptoBulkEntries entries + 1
  | .held _ => 1
def uptoBulkAll {H : Type} : List (DataW H) → Nat
  | [] => 0
  | d :: r => uptoBulk d + uptoBulkAll r
def uptoBulkEntries {H : Type} : List (Lit × DataW H) → Nat
  | [] => 0
  | x :: r => uptoBulkEntry x + uptoBulkEntries r
def uptoBulkEntry {H : Type} : Lit × DataW H → Nat
  | (.string bytes, d) => bytes.length + uptoBulk d + 1
  | (_, d) => uptoBulk d + 1
 end
def uptoSmall : (H : Type) → List (DataW H) → Bool := fun _ ds => decide (uptoBulkAll ds ≤ 1048576)
def OpenSpec.upto (s : _root_.Go.ChangeSpec) : _root_.Go.OpenSpec := { _root_.Go.OpenSpec.ofChange s with cond := some uptoSmall }

/-- 'erratalaw11.WalkStates', WHERE WHAT IT READS IS OF BULK AT MOST 1048576: true; the input reads as it did. -/
def walkStatesUptoRow : OpenClaim := { program := "ytgkhohpekfjlmaadoor", sum := "91798c5592c5f63bd2b5a43db70cede6e456a4bae51d5eb7651d4e1f1d5bdebc", func := "errata/erratalaw11.WalkStates", spec := "walkStates", unfollowed := true, recurses := true, named := ["unicode/utf8.first", "unicode/utf8.acceptRanges"], apart := false, laid := [("unicode/utf8.acceptRanges", laid_unicode_utf8_acceptRanges), ("unicode/utf8.first", laid_unicode_utf8_first)], narrowed := true }
def WalkStatesUptoSaid : Prop := walkStatesUptoRow.holds Tryd.pinned (OpenSpec.upto walkStatesSpec)

/-- 'erratalaw11.WalkCompletes', WHERE WHAT IT READS IS OF BULK AT MOST 1048576: true; the input reads as it did. -/
def walkCompletesUptoRow : OpenClaim := { program := "ytgkhohpekfjlmaadoor", sum := "91798c5592c5f63bd2b5a43db70cede6e456a4bae51d5eb7651d4e1f1d5bdebc", func := "errata/erratalaw11.WalkCompletes", spec := "walkCompletes", unfollowed := true, recurses := true, named := ["unicode/utf8.first", "unicode/utf8.acceptRanges"], apart := false, laid := [("unicode/utf8.acceptRanges", laid_unicode_utf8_acceptRanges), ("unicode/utf8.first", laid_unicode_utf8_first)], narrowed := true }
def WalkCompletesUptoSaid : Prop := walkCompletesUptoRow.holds Tryd.pinned (OpenSpec.upto walkCompletesSpec)

/-- 'erratalaw11.WalkMore', WHERE WHAT IT READS IS OF BULK AT MOST 1048576: true; the input reads as it did. -/
def walkMoreUptoRow : OpenClaim := { program := "ytgkhohpekfjlmaadoor", sum := "91798c5592c5f63bd2b5a43db70cede6e456a4bae51d5eb7651d4e1f1d5bdebc", func := "errata/erratalaw11.WalkMore", spec := "walkMore", unfollowed := true, recurses := true, named := ["unicode/utf8.first", "unicode/utf8.acceptRanges"], apart := false, laid := [("unicode/utf8.acceptRanges", laid_unicode_utf8_acceptRanges), ("unicode/utf8.first", laid_unicode_utf8_first)], narrowed := true }
def WalkMoreUptoSaid : Prop := walkMoreUptoRow.holds Tryd.pinned (OpenSpec.upto walkMoreSpec)

/-- 'erratalaw11.WalkLongest', WHERE WHAT IT READS IS OF BULK AT MOST 1048576: true; the input reads as it did. -/
def walkLongestUptoRow : OpenClaim := { program := "ytgkhohpekfjlmaadoor", sum := "91798c5592c5f63bd2b5a43db70cede6e456a4bae51d5eb7651d4e1f1d5bdebc", func := "errata/erratalaw11.WalkLongest", spec := "walkLongest", unfollowed := true, recurses := true, named := ["unicode/utf8.first", "unicode/utf8.acceptRanges"], apart := false, laid := [("unicode/utf8.acceptRanges", laid_unicode_utf8_acceptRanges), ("unicode/utf8.first", laid_unicode_utf8_first)], narrowed := true }
def WalkLongestUptoSaid : Prop := walkLongestUptoRow.holds Tryd.pinned (OpenSpec.upto walkLongestSpec)

/-- 'erratalaw11.WalkCounts', WHERE WHAT IT READS IS OF BULK AT MOST 1048576: true; the input reads as it did. -/
def walkCountsUptoRow : OpenClaim := { program := "ytgkhohpekfjlmaadoor", sum := "91798c5592c5f63bd2b5a43db70cede6e456a4bae51d5eb7651d4e1f1d5bdebc", func := "errata/erratalaw11.WalkCounts", spec := "walkCounts", unfollowed := true, recurses := true, named := ["unicode/utf8.first", "unicode/utf8.acceptRanges"], apart := false, laid := [("unicode/utf8.acceptRanges", laid_unicode_utf8_acceptRanges), ("unicode/utf8.first", laid_unicode_utf8_first)], narrowed := true }
def WalkCountsUptoSaid : Prop := walkCountsUptoRow.holds Tryd.pinned (OpenSpec.upto walkCountsSpec)

/-- 'erratalaw11.WalkSplits', WHERE WHAT IT READS IS OF BULK AT MOST 1048576: true; the input reads as it did. -/
def walkSplitsUptoRow : OpenClaim := { program := "ytgkhohpekfjlmaadoor", sum := "91798c5592c5f63bd2b5a43db70cede6e456a4bae51d5eb7651d4e1f1d5bdebc", func := "errata/erratalaw11.WalkSplits", spec := "walkSplits", inPlace := ["internal/abi.NoEscape", "internal/bytealg.MakeNoZero"], unfollowed := true, recurses := true, named := ["unicode/utf8.first", "unicode/utf8.acceptRanges"], apart := false, laid := [("unicode/utf8.acceptRanges", laid_unicode_utf8_acceptRanges), ("unicode/utf8.first", laid_unicode_utf8_first)], narrowed := true }
def WalkSplitsUptoSaid : Prop := walkSplitsUptoRow.holds Tryd.pinned (OpenSpec.upto walkSplitsSpec)

end Rows
end Go.Proofs.YtgkhohpekfjlmaaDoor
