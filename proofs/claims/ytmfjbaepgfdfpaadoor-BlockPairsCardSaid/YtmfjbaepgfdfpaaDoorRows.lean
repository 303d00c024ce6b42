/-
  NARROWER THAN 'FOR EVERY INPUT', by the rows' own cells (each row's printed sentence says how): AlignSteps: laid · AlignWays: laid · AlignEnds: laid · AlignPrefers: laid · AlignReads: laid · AlignBack: laid · BlockPairs: laid · BlockParts: laid · BlockOrders: laid · BlockLone: laid · BlockSteps: laid · BlockChecks: laid · BlockMay: laid.
  DERIVED. THE GIVEN ROWS OF THIS SEAT. 13 by the template 'for every input the law returns true; each argument reads behind the call as it read before'; 0 by the template 'total and deterministic' (their statements: YtmfjbaepgfdfpaaDoorTotals.lean).
  GIVEN WITH THE SEED: the statements are not yours to turn. If you find one false, say at which input.
  Laid BY PROGRAM, IN A SANDBOX (cutbox-rows.mjs): the forced cells as the released guide's own fill.sh prints them over the translation bac26752a23de3c9… (all of the seat's roots in one cut). By AI agents, Wed Nov 11 2026. No macro, syntax, notation, axiom, sorry.
-/
import Derived.Test.YtmfjbaepgfdfpaaDoorChecked
import GoSem.PinnedTables
import GoSem.Claim
import GoSem.ClaimJoined
import GoSem.ClaimMapViews
import Derived.JoinedTies
import Derived.KernelRfl
namespace Go.Proofs.YtmfjbaepgfdfpaaDoor
/- THE CELL 'sum', in the pinned program and in every row, IS THE sha256 OF THE DUMP (.gsa) THAT YtmfjbaepgfdfpaaDoorProg.lean LOADS. Nothing in Lean hashes anything: it is a label: what it is worth is what the hold of that sum in a sandbox is worth. -/
noncomputable def Tryd.pinned : Pinned := { name := "ytmfjbaepgfdfpaadoor", sum := "bac26752a23de3c9e9c05bbfab74e94e8fa4d0a210cb1e9ed5ca4d8302541504", checked := Tryd.checked }
namespace Rows
def none {H : Type} : Left H := { results := [], args := [] }

/- WHAT THE LISTED PACKAGE-LEVEL VARIABLES READ AS WHEN THE CALL BEGINS. Each datum BY PROGRAM (the guide's laid-datum.mjs) off the statement by which the dump's own 'gosem.cut.vars' lays the variable. In a bare row this is a premise. The card (YtmfjbaepgfdfpaaDoorCards.lean) ties it to the program's text. -/
def laid_unicode_utf8_acceptRanges {H : Type} : DataW H := .agg [.agg [.lit (.int .u8 128), .lit (.int .u8 191)], .agg [.lit (.int .u8 160), .lit (.int .u8 191)], .agg [.lit (.int .u8 128), .lit (.int .u8 159)], .agg [.lit (.int .u8 144), .lit (.int .u8 191)], .agg [.lit (.int .u8 128), .lit (.int .u8 143)], .agg [.lit (.int .u8 0), .lit (.int .u8 0)], .agg [.lit (.int .u8 0), .lit (.int .u8 0)], .agg [.lit (.int .u8 0), .lit (.int .u8 0)], .agg [.lit (.int .u8 0), .lit (.int .u8 0)], .agg [.lit (.int .u8 0), .lit (.int .u8 0)], .agg [.lit (.int .u8 0), .lit (.int .u8 0)], .agg [.lit (.int .u8 0), .lit (.int .u8 0)], .agg [.lit (.int .u8 0), .lit (.int .u8 0)], .agg [.lit (.int .u8 0), .lit (.int .u8 0)], .agg [.lit (.int .u8 0), .lit (.int .u8 0)], .agg [.lit (.int .u8 0), .lit (.int .u8 0)]]
/-- One of Go's own tables, pinned by name: the form's constant. -/
def laid_unicode_utf8_first : DataW Unit := Go.Pinned.utf8First

/-- 'erratalaw04.AlignSteps': WHATEVER THE INPUT: true; the input reads as it did. -/
def alignStepsSpec : ChangeSpec := { name := "alignSteps", fn := fun _ => fun
  | [d1, d2] => { results := [.lit (.bool true)], args := [d1, d2] }
  | _ => none }
def alignStepsRow : OpenClaim := { program := "ytmfjbaepgfdfpaadoor", sum := "bac26752a23de3c9e9c05bbfab74e94e8fa4d0a210cb1e9ed5ca4d8302541504", func := "errata/erratalaw04.AlignSteps", spec := "alignSteps", unfollowed := true, recurses := true, named := ["unicode/utf8.first", "unicode/utf8.acceptRanges"], apart := false, laid := [("unicode/utf8.acceptRanges", laid_unicode_utf8_acceptRanges), ("unicode/utf8.first", laid_unicode_utf8_first)] }
def AlignStepsSaid : Prop := alignStepsRow.holds Tryd.pinned (OpenSpec.ofChange alignStepsSpec)

/-- ITS FALSE NEIGHBOUR: 'it returns false'. Refute it at one input. -/
def alignStepsWrong : ChangeSpec := { name := "alignSteps", fn := fun _ => fun
  | [d1, d2] => { results := [.lit (.bool false)], args := [d1, d2] }
  | _ => none }
def AlignStepsWrongFalsely : Prop := alignStepsRow.holds Tryd.pinned (OpenSpec.ofChange alignStepsWrong)

/-- 'erratalaw04.AlignWays': WHATEVER THE INPUT: true; the input reads as it did. -/
def alignWaysSpec : ChangeSpec := { name := "alignWays", fn := fun _ => fun
  | [d1, d2, d3] => { results := [.lit (.bool true)], args := [d1, d2, d3] }
  | _ => none }
def alignWaysRow : OpenClaim := { program := "ytmfjbaepgfdfpaadoor", sum := "bac26752a23de3c9e9c05bbfab74e94e8fa4d0a210cb1e9ed5ca4d8302541504", func := "errata/erratalaw04.AlignWays", spec := "alignWays", unfollowed := true, recurses := true, named := ["unicode/utf8.first", "unicode/utf8.acceptRanges"], apart := false, laid := [("unicode/utf8.acceptRanges", laid_unicode_utf8_acceptRanges), ("unicode/utf8.first", laid_unicode_utf8_first)] }
def AlignWaysSaid : Prop := alignWaysRow.holds Tryd.pinned (OpenSpec.ofChange alignWaysSpec)

/-- ITS FALSE NEIGHBOUR: 'it returns false'. Refute it at one input. -/
def alignWaysWrong : ChangeSpec := { name := "alignWays", fn := fun _ => fun
  | [d1, d2, d3] => { results := [.lit (.bool false)], args := [d1, d2, d3] }
  | _ => none }
def AlignWaysWrongFalsely : Prop := alignWaysRow.holds Tryd.pinned (OpenSpec.ofChange alignWaysWrong)

/-- 'erratalaw04.AlignEnds': WHATEVER THE INPUT: true; the input reads as it did. -/
def alignEndsSpec : ChangeSpec := { name := "alignEnds", fn := fun _ => fun
  | [d1, d2, d3] => { results := [.lit (.bool true)], args := [d1, d2, d3] }
  | _ => none }
def alignEndsRow : OpenClaim := { program := "ytmfjbaepgfdfpaadoor", sum := "bac26752a23de3c9e9c05bbfab74e94e8fa4d0a210cb1e9ed5ca4d8302541504", func := "errata/erratalaw04.AlignEnds", spec := "alignEnds", unfollowed := true, recurses := true, named := ["unicode/utf8.first", "unicode/utf8.acceptRanges"], apart := false, laid := [("unicode/utf8.acceptRanges", laid_unicode_utf8_acceptRanges), ("unicode/utf8.first", laid_unicode_utf8_first)] }
def AlignEndsSaid : Prop := alignEndsRow.holds Tryd.pinned (OpenSpec.ofChange alignEndsSpec)

/-- ITS FALSE NEIGHBOUR: 'it returns false'. Refute it at one input. -/
def alignEndsWrong : ChangeSpec := { name := "alignEnds", fn := fun _ => fun
  | [d1, d2, d3] => { results := [.lit (.bool false)], args := [d1, d2, d3] }
  | _ => none }
def AlignEndsWrongFalsely : Prop := alignEndsRow.holds Tryd.pinned (OpenSpec.ofChange alignEndsWrong)

/-- 'erratalaw04.AlignPrefers': WHATEVER THE INPUT: true; the input reads as it did. -/
def alignPrefersSpec : ChangeSpec := { name := "alignPrefers", fn := fun _ => fun
  | [d1, d2] => { results := [.lit (.bool true)], args := [d1, d2] }
  | _ => none }
def alignPrefersRow : OpenClaim := { program := "ytmfjbaepgfdfpaadoor", sum := "bac26752a23de3c9e9c05bbfab74e94e8fa4d0a210cb1e9ed5ca4d8302541504", func := "errata/erratalaw04.AlignPrefers", spec := "alignPrefers", unfollowed := true, recurses := true, named := ["unicode/utf8.first", "unicode/utf8.acceptRanges"], apart := false, laid := [("unicode/utf8.acceptRanges", laid_unicode_utf8_acceptRanges), ("unicode/utf8.first", laid_unicode_utf8_first)] }
def AlignPrefersSaid : Prop := alignPrefersRow.holds Tryd.pinned (OpenSpec.ofChange alignPrefersSpec)

/-- ITS FALSE NEIGHBOUR: 'it returns false'. Refute it at one input. -/
def alignPrefersWrong : ChangeSpec := { name := "alignPrefers", fn := fun _ => fun
  | [d1, d2] => { results := [.lit (.bool false)], args := [d1, d2] }
  | _ => none }
def AlignPrefersWrongFalsely : Prop := alignPrefersRow.holds Tryd.pinned (OpenSpec.ofChange alignPrefersWrong)

/-- 'erratalaw04.AlignReads': WHATEVER THE INPUT: true; the input reads as it did. -/
def alignReadsSpec : ChangeSpec := { name := "alignReads", fn := fun _ => fun
  | [d] => { results := [.lit (.bool true)], args := [d] }
  | _ => none }
def alignReadsRow : OpenClaim := { program := "ytmfjbaepgfdfpaadoor", sum := "bac26752a23de3c9e9c05bbfab74e94e8fa4d0a210cb1e9ed5ca4d8302541504", func := "errata/erratalaw04.AlignReads", spec := "alignReads", unfollowed := true, recurses := true, named := ["unicode/utf8.first", "unicode/utf8.acceptRanges"], apart := false, laid := [("unicode/utf8.acceptRanges", laid_unicode_utf8_acceptRanges), ("unicode/utf8.first", laid_unicode_utf8_first)] }
def AlignReadsSaid : Prop := alignReadsRow.holds Tryd.pinned (OpenSpec.ofChange alignReadsSpec)

/-- ITS FALSE NEIGHBOUR: 'it returns false'. Refute it at one input. -/
def alignReadsWrong : ChangeSpec := { name := "alignReads", fn := fun _ => fun
  | [d] => { results := [.lit (.bool false)], args := [d] }
  | _ => none }
def AlignReadsWrongFalsely : Prop := alignReadsRow.holds Tryd.pinned (OpenSpec.ofChange alignReadsWrong)

/-- 'erratalaw04.AlignBack': WHATEVER THE INPUT: true; the input reads as it did. -/
def alignBackSpec : ChangeSpec := { name := "alignBack", fn := fun _ => fun
  | [d1, d2, d3] => { results := [.lit (.bool true)], args := [d1, d2, d3] }
  | _ => none }
def alignBackRow : OpenClaim := { program := "ytmfjbaepgfdfpaadoor", sum := "bac26752a23de3c9e9c05bbfab74e94e8fa4d0a210cb1e9ed5ca4d8302541504", func := "errata/erratalaw04.AlignBack", spec := "alignBack", unfollowed := true, recurses := true, named := ["unicode/utf8.first", "unicode/utf8.acceptRanges"], apart := false, laid := [("unicode/utf8.acceptRanges", laid_unicode_utf8_acceptRanges), ("unicode/utf8.first", laid_unicode_utf8_first)] }
def AlignBackSaid : Prop := alignBackRow.holds Tryd.pinned (OpenSpec.ofChange alignBackSpec)

/-- ITS FALSE NEIGHBOUR: 'it returns false'. Refute it at one input. -/
def alignBackWrong : ChangeSpec := { name := "alignBack", fn := fun _ => fun
  | [d1, d2, d3] => { results := [.lit (.bool false)], args := [d1, d2, d3] }
  | _ => none }
def AlignBackWrongFalsely : Prop := alignBackRow.holds Tryd.pinned (OpenSpec.ofChange alignBackWrong)

/-- 'erratalaw05.BlockPairs': WHATEVER THE INPUT: true; the input reads as it did. -/
def blockPairsSpec : ChangeSpec := { name := "blockPairs", fn := fun _ => fun
  | [d1, d2] => { results := [.lit (.bool true)], args := [d1, d2] }
  | _ => none }
def blockPairsRow : OpenClaim := { program := "ytmfjbaepgfdfpaadoor", sum := "bac26752a23de3c9e9c05bbfab74e94e8fa4d0a210cb1e9ed5ca4d8302541504", func := "errata/erratalaw05.BlockPairs", spec := "blockPairs", unfollowed := true, recurses := true, named := ["unicode/utf8.first", "unicode/utf8.acceptRanges"], apart := false, laid := [("unicode/utf8.acceptRanges", laid_unicode_utf8_acceptRanges), ("unicode/utf8.first", laid_unicode_utf8_first)] }
def BlockPairsSaid : Prop := blockPairsRow.holds Tryd.pinned (OpenSpec.ofChange blockPairsSpec)

/-- ITS FALSE NEIGHBOUR: 'it returns false'. Refute it at one input. -/
def blockPairsWrong : ChangeSpec := { name := "blockPairs", fn := fun _ => fun
  | [d1, d2] => { results := [.lit (.bool false)], args := [d1, d2] }
  | _ => none }
def BlockPairsWrongFalsely : Prop := blockPairsRow.holds Tryd.pinned (OpenSpec.ofChange blockPairsWrong)

/-- 'erratalaw05.BlockParts': WHATEVER THE INPUT: true; the input reads as it did. -/
def blockPartsSpec : ChangeSpec := { name := "blockParts", fn := fun _ => fun
  | [d1, d2] => { results := [.lit (.bool true)], args := [d1, d2] }
  | _ => none }
def blockPartsRow : OpenClaim := { program := "ytmfjbaepgfdfpaadoor", sum := "bac26752a23de3c9e9c05bbfab74e94e8fa4d0a210cb1e9ed5ca4d8302541504", func := "errata/erratalaw05.BlockParts", spec := "blockParts", unfollowed := true, recurses := true, named := ["unicode/utf8.first", "unicode/utf8.acceptRanges"], apart := false, laid := [("unicode/utf8.acceptRanges", laid_unicode_utf8_acceptRanges), ("unicode/utf8.first", laid_unicode_utf8_first)] }
def BlockPartsSaid : Prop := blockPartsRow.holds Tryd.pinned (OpenSpec.ofChange blockPartsSpec)

/-- ITS FALSE NEIGHBOUR: 'it returns false'. Refute it at one input. -/
def blockPartsWrong : ChangeSpec := { name := "blockParts", fn := fun _ => fun
  | [d1, d2] => { results := [.lit (.bool false)], args := [d1, d2] }
  | _ => none }
def BlockPartsWrongFalsely : Prop := blockPartsRow.holds Tryd.pinned (OpenSpec.ofChange blockPartsWrong)

/-- 'erratalaw05.BlockOrders': WHATEVER THE INPUT: true; the input reads as it did. -/
def blockOrdersSpec : ChangeSpec := { name := "blockOrders", fn := fun _ => fun
  | [d1, d2, d3] => { results := [.lit (.bool true)], args := [d1, d2, d3] }
  | _ => none }
def blockOrdersRow : OpenClaim := { program := "ytmfjbaepgfdfpaadoor", sum := "bac26752a23de3c9e9c05bbfab74e94e8fa4d0a210cb1e9ed5ca4d8302541504", func := "errata/erratalaw05.BlockOrders", spec := "blockOrders", unfollowed := true, recurses := true, named := ["unicode/utf8.first", "unicode/utf8.acceptRanges"], apart := false, laid := [("unicode/utf8.acceptRanges", laid_unicode_utf8_acceptRanges), ("unicode/utf8.first", laid_unicode_utf8_first)] }
def BlockOrdersSaid : Prop := blockOrdersRow.holds Tryd.pinned (OpenSpec.ofChange blockOrdersSpec)

/-- ITS FALSE NEIGHBOUR: 'it returns false'. Refute it at one input. -/
def blockOrdersWrong : ChangeSpec := { name := "blockOrders", fn := fun _ => fun
  | [d1, d2, d3] => { results := [.lit (.bool false)], args := [d1, d2, d3] }
  | _ => none }
def BlockOrdersWrongFalsely : Prop := blockOrdersRow.holds Tryd.pinned (OpenSpec.ofChange blockOrdersWrong)

/-- 'erratalaw05.BlockLone': WHATEVER THE INPUT: true; the input reads as it did. -/
def blockLoneSpec : ChangeSpec := { name := "blockLone", fn := fun _ => fun
  | [d1, d2] => { results := [.lit (.bool true)], args := [d1, d2] }
  | _ => none }
def blockLoneRow : OpenClaim := { program := "ytmfjbaepgfdfpaadoor", sum := "bac26752a23de3c9e9c05bbfab74e94e8fa4d0a210cb1e9ed5ca4d8302541504", func := "errata/erratalaw05.BlockLone", spec := "blockLone", unfollowed := true, recurses := true, named := ["unicode/utf8.first", "unicode/utf8.acceptRanges"], apart := false, laid := [("unicode/utf8.acceptRanges", laid_unicode_utf8_acceptRanges), ("unicode/utf8.first", laid_unicode_utf8_first)] }
def BlockLoneSaid : Prop := blockLoneRow.holds Tryd.pinned (OpenSpec.ofChange blockLoneSpec)

/-- ITS FALSE NEIGHBOUR: 'it returns false'. Refute it at one input. -/
def blockLoneWrong : ChangeSpec := { name := "blockLone", fn := fun _ => fun
  | [d1, d2] => { results := [.lit (.bool false)], args := [d1, d2] }
  | _ => none }
def BlockLoneWrongFalsely : Prop := blockLoneRow.holds Tryd.pinned (OpenSpec.ofChange blockLoneWrong)

/-- 'erratalaw05.BlockSteps': WHATEVER THE INPUT: true; the input reads as it did. -/
def blockStepsSpec : ChangeSpec := { name := "blockSteps", fn := fun _ => fun
  | [d] => { results := [.lit (.bool true)], args := [d] }
  | _ => none }
def blockStepsRow : OpenClaim := { program := "ytmfjbaepgfdfpaadoor", sum := "bac26752a23de3c9e9c05bbfab74e94e8fa4d0a210cb1e9ed5ca4d8302541504", func := "errata/erratalaw05.BlockSteps", spec := "blockSteps", unfollowed := true, recurses := true, named := ["unicode/utf8.first", "unicode/utf8.acceptRanges"], apart := false, laid := [("unicode/utf8.acceptRanges", laid_unicode_utf8_acceptRanges), ("unicode/utf8.first", laid_unicode_utf8_first)] }
def BlockStepsSaid : Prop := blockStepsRow.holds Tryd.pinned (OpenSpec.ofChange blockStepsSpec)

/-- ITS FALSE NEIGHBOUR: 'it returns false'. Refute it at one input. -/
def blockStepsWrong : ChangeSpec := { name := "blockSteps", fn := fun _ => fun
  | [d] => { results := [.lit (.bool false)], args := [d] }
  | _ => none }
def BlockStepsWrongFalsely : Prop := blockStepsRow.holds Tryd.pinned (OpenSpec.ofChange blockStepsWrong)

/-- 'erratalaw05.BlockChecks': WHATEVER THE INPUT: true; the input reads as it did. -/
def blockChecksSpec : ChangeSpec := { name := "blockChecks", fn := fun _ => fun
  | [d1, d2] => { results := [.lit (.bool true)], args := [d1, d2] }
  | _ => none }
def blockChecksRow : OpenClaim := { program := "ytmfjbaepgfdfpaadoor", sum := "bac26752a23de3c9e9c05bbfab74e94e8fa4d0a210cb1e9ed5ca4d8302541504", func := "errata/erratalaw05.BlockChecks", spec := "blockChecks", unfollowed := true, recurses := true, named := ["unicode/utf8.first", "unicode/utf8.acceptRanges"], apart := false, laid := [("unicode/utf8.acceptRanges", laid_unicode_utf8_acceptRanges), ("unicode/utf8.first", laid_unicode_utf8_first)] }
def BlockChecksSaid : Prop := blockChecksRow.holds Tryd.pinned (OpenSpec.ofChange blockChecksSpec)

/-- ITS FALSE NEIGHBOUR: 'it returns false'. Refute it at one input. -/
def blockChecksWrong : ChangeSpec := { name := "blockChecks", fn := fun _ => fun
  | [d1, d2] => { results := [.lit (.bool false)], args := [d1, d2] }
  | _ => none }
def BlockChecksWrongFalsely : Prop := blockChecksRow.holds Tryd.pinned (OpenSpec.ofChange blockChecksWrong)

/-- 'erratalaw05.BlockMay': WHATEVER THE INPUT: true; the input reads as it did. -/
def blockMaySpec : ChangeSpec := { name := "blockMay", fn := fun _ => fun
  | [d1, d2] => { results := [.lit (.bool true)], args := [d1, d2] }
  | _ => none }
def blockMayRow : OpenClaim := { program := "ytmfjbaepgfdfpaadoor", sum := "bac26752a23de3c9e9c05bbfab74e94e8fa4d0a210cb1e9ed5ca4d8302541504", func := "errata/erratalaw05.BlockMay", spec := "blockMay", unfollowed := true, recurses := true, named := ["unicode/utf8.first", "unicode/utf8.acceptRanges"], apart := false, laid := [("unicode/utf8.acceptRanges", laid_unicode_utf8_acceptRanges), ("unicode/utf8.first", laid_unicode_utf8_first)] }
def BlockMaySaid : Prop := blockMayRow.holds Tryd.pinned (OpenSpec.ofChange blockMaySpec)

/-- ITS FALSE NEIGHBOUR: 'it returns false'. Refute it at one input. -/
def blockMayWrong : ChangeSpec := { name := "blockMay", fn := fun _ => fun
  | [d1, d2] => { results := [.lit (.bool false)], args := [d1, d2] }
  | _ => none }
def BlockMayWrongFalsely : Prop := blockMayRow.holds Tryd.pinned (OpenSpec.ofChange blockMayWrong)

/- THE SECOND FORM. 'bulk': how many values and letters a reading holds, each counted each time it is reached (what is shared counts as often as it is met; a slice's spare places count too). A statement '..UptoSaid' is the law's where the arguments, and the package variables that the reading takes, are together of bulk at most 1048576: NARROWER than '..Said'. Prove '..Said' where nothing that the law and all that it calls make is longer than what came in: it says more and counts as full. Else prove '..UptoSaid'. A law counts once. -/
mutual
def uptoBulk {H : Type} : DataW H → Nat
  | .lit (.string bytes) => bytes.length + 1
  | .lit _ => 1
  | .nil => 1
  | .ptr d => uptoBulk d + 1
  | .slice elems spare => uptoBulkAll elems + uptoBulkAll spare + 1
  | .agg parts => uptoBulkAll parts + 1
  | .iface _ d => uptoBulk d + 1
  | .map entries => uptoBulkEntries entries + 1
  | .held _ => 1
def uptoBulkAll {H : Type} : List (DataW H) → Nat
  | [] => 0
  | d :: r => uptoBulk d + uptoBulkAll r
def uptoBulkEntries {H : Type} : List (Lit × DataW H) → Nat
  | [] => 0
  | x :: r => uptoBulkEntry x + uptoBulkEntries r
def uptoBulkEntry {H : Type} : Lit × DataW H → Nat
  | (.string bytes, d) => bytes.length + uptoBulk d + 1
  | (_, d) => uptoBulk d + 1
 end
def uptoSmall : (H : Type) → List (DataW H) → Bool := fun _ ds => decide (uptoBulkAll ds ≤ 1048576)
def OpenSpec.upto (s : _root_.Go.ChangeSpec) : _root_.Go.OpenSpec := { _root_.Go.OpenSpec.ofChange s with cond := some uptoSmall }

/-- 'erratalaw04.AlignSteps', WHERE WHAT IT READS IS OF BULK AT MOST 1048576: true; the input reads as it did. -/
def alignStepsUptoRow : OpenClaim := { program := "ytmfjbaepgfdfpaadoor", sum := "bac26752a23de3c9e9c05bbfab74e94e8fa4d0a210cb1e9ed5ca4d8302541504", func := "errata/erratalaw04.AlignSteps", spec := "alignSteps", unfollowed := true, recurses := true, named := ["unicode/utf8.first", "unicode/utf8.acceptRanges"], apart := false, laid := [("unicode/utf8.acceptRanges", laid_unicode_utf8_acceptRanges), ("unicode/utf8.first", laid_unicode_utf8_first)], narrowed := true }
def AlignStepsUptoSaid : Prop := alignStepsUptoRow.holds Tryd.pinned (OpenSpec.upto alignStepsSpec)

/-- 'erratalaw04.AlignWays', WHERE WHAT IT READS IS OF BULK AT MOST 1048576: true; the input reads as it did. -/
def alignWaysUptoRow : OpenClaim := { program := "ytmfjbaepgfdfpaadoor", sum := "bac26752a23de3c9e9c05bbfab74e94e8fa4d0a210cb1e9ed5ca4d8302541504", func := "errata/erratalaw04.AlignWays", spec := "alignWays", unfollowed := true, recurses := true, named := ["unicode/utf8.first", "unicode/utf8.acceptRanges"], apart := false, laid := [("unicode/utf8.acceptRanges", laid_unicode_utf8_acceptRanges), ("unicode/utf8.first", laid_unicode_utf8_first)], narrowed := true }
def AlignWaysUptoSaid : Prop := alignWaysUptoRow.holds Tryd.pinned (OpenSpec.upto alignWaysSpec)

/-- 'erratalaw04.AlignEnds', WHERE WHAT IT READS IS OF BULK AT MOST 1048576: true; the input reads as it did. -/
def alignEndsUptoRow : OpenClaim := { program := "ytmfjbaepgfdfpaadoor", sum := "bac26752a23de3c9e9c05bbfab74e94e8fa4d0a210cb1e9ed5ca4d8302541504", func := "errata/erratalaw04.AlignEnds", spec := "alignEnds", unfollowed := true, recurses := true, named := ["unicode/utf8.first", "unicode/utf8.acceptRanges"], apart := false, laid := [("unicode/utf8.acceptRanges", laid_unicode_utf8_acceptRanges), ("unicode/utf8.first", laid_unicode_utf8_first)], narrowed := true }
def AlignEndsUptoSaid : Prop := alignEndsUptoRow.holds Tryd.pinned (OpenSpec.upto alignEndsSpec)

/-- 'erratalaw04.AlignPrefers', WHERE WHAT IT READS IS OF BULK AT MOST 1048576: true; the input reads as it did. -/
def alignPrefersUptoRow : OpenClaim := { program := "ytmfjbaepgfdfpaadoor", sum := "bac26752a23de3c9e9c05bbfab74e94e8fa4d0a210cb1e9ed5ca4d8302541504", func := "errata/erratalaw04.AlignPrefers", spec := "alignPrefers", unfollowed := true, recurses := true, named := ["unicode/utf8.first", "unicode/utf8.acceptRanges"], apart := false, laid := [("unicode/utf8.acceptRanges", laid_unicode_utf8_acceptRanges), ("unicode/utf8.first", laid_unicode_utf8_first)], narrowed := true }
def AlignPrefersUptoSaid : Prop := alignPrefersUptoRow.holds Tryd.pinned (OpenSpec.upto alignPrefersSpec)

/-- 'erratalaw04.AlignReads', WHERE WHAT IT READS IS OF BULK AT MOST 1048576: true; the input reads as it did. -/
def alignReadsUptoRow : OpenClaim := { program := "ytmfjbaepgfdfpaadoor", sum := "bac26752a23de3c9e9c05bbfab74e94e8fa4d0a210cb1e9ed5ca4d8302541504", func := "errata/erratalaw04.AlignReads", spec := "alignReads", unfollowed := true, recurses := true, named := ["unicode/utf8.first", "unicode/utf8.acceptRanges"], apart := false, laid := [("unicode/utf8.acceptRanges", laid_unicode_utf8_acceptRanges), ("unicode/utf8.first", laid_unicode_utf8_first)], narrowed := true }
def AlignReadsUptoSaid : Prop := alignReadsUptoRow.holds Tryd.pinned (OpenSpec.upto alignReadsSpec)

/-- 'erratalaw04.AlignBack', WHERE WHAT IT READS IS OF BULK AT MOST 1048576: true; the input reads as it did. -/
def alignBackUptoRow : OpenClaim := { program := "ytmfjbaepgfdfpaadoor", sum := "bac26752a23de3c9e9c05bbfab74e94e8fa4d0a210cb1e9ed5ca4d8302541504", func := "errata/erratalaw04.AlignBack", spec := "alignBack", unfollowed := true, recurses := true, named := ["unicode/utf8.first", "unicode/utf8.acceptRanges"], apart := false, laid := [("unicode/utf8.acceptRanges", laid_unicode_utf8_acceptRanges), ("unicode/utf8.first", laid_unicode_utf8_first)], narrowed := true }
def AlignBackUptoSaid : Prop := alignBackUptoRow.holds Tryd.pinned (OpenSpec.upto alignBackSpec)

/-- 'erratalaw05.BlockPairs', WHERE WHAT IT READS IS OF BULK AT MOST 1048576: true; the input reads as it did. -/
def blockPairsUptoRow : OpenClaim := { program := "ytmfjbaepgfdfpaadoor", sum := "bac26752a23de3c9e9c05bbfab74e94e8fa4d0a210cb1e9ed5ca4d8302541504", func := "errata/erratalaw05.BlockPairs", spec := "blockPairs", unfollowed := true, recurses := true, named := ["unicode/utf8.first", "unicode/utf8.acceptRanges"], apart := false, laid := [("unicode/utf8.acceptRanges", laid_unicode_utf8_acceptRanges), ("unicode/utf8.first", laid_unicode_utf8_first)], narrowed := true }
def BlockPairsUptoSaid : Prop := blockPairsUptoRow.holds Tryd.pinned (OpenSpec.upto blockPairsSpec)

/-- 'erratalaw05.BlockParts', WHERE WHAT IT READS IS OF BULK AT MOST 1048576: true; the input reads as it did. -/
def blockPartsUptoRow : OpenClaim := { program := "ytmfjbaepgfdfpaadoor", sum := "bac26752a23de3c9e9c05bbfab74e94e8fa4d0a210cb1e9ed5ca4d8302541504", func := "errata/erratalaw05.BlockParts", spec := "blockParts", unfollowed := true, recurses := true, named := ["unicode/utf8.first", "unicode/utf8.acceptRanges"], apart := false, laid := [("unicode/utf8.acceptRanges", laid_unicode_utf8_acceptRanges), ("unicode/utf8.first", laid_unicode_utf8_first)], narrowed := true }
def BlockPartsUptoSaid : Prop := blockPartsUptoRow.holds Tryd.pinned (OpenSpec.upto blockPartsSpec)

/-- 'erratalaw05.BlockOrders', WHERE WHAT IT READS IS OF BULK AT MOST 1048576: true; the input reads as it did. -/
def blockOrdersUptoRow : OpenClaim := { program := "ytmfjbaepgfdfpaadoor", sum := "bac26752a23de3c9e9c05bbfab74e94e8fa4d0a210cb1e9ed5ca4d8302541504", func := "errata/erratalaw05.BlockOrders", spec := "blockOrders", unfollowed := true, recurses := true, named := ["unicode/utf8.first", "unicode/utf8.acceptRanges"], apart := false, laid := [("unicode/utf8.acceptRanges", laid_unicode_utf8_acceptRanges), ("unicode/utf8.first", laid_unicode_utf8_first)], narrowed := true }
def BlockOrdersUptoSaid : Prop := blockOrdersUptoRow.holds Tryd.pinned (OpenSpec.upto blockOrdersSpec)

/-- 'erratalaw05.BlockLone', WHERE WHAT IT READS IS OF BULK AT MOST 1048576: true; the input reads as it did. -/
def blockLoneUptoRow : OpenClaim := { program := "ytmfjbaepgfdfpaadoor", sum := "bac26752a23de3c9e9c05bbfab74e94e8fa4d0a210cb1e9ed5ca4d8302541504", func := "errata/erratalaw05.BlockLone", spec := "blockLone", unfollowed := true, recurses := true, named := ["unicode/utf8.first", "unicode/utf8.acceptRanges"], apart := false, laid := [("unicode/utf8.acceptRanges", laid_unicode_utf8_acceptRanges), ("unicode/utf8.first", laid_unicode_utf8_first)], narrowed := true }
def BlockLoneUptoSaid : Prop := blockLoneUptoRow.holds Tryd.pinned (OpenSpec.upto blockLoneSpec)

/-- 'erratalaw05.BlockSteps', WHERE WHAT IT READS IS OF BULK AT MOST 1048576: true; the input reads as it did. -/
def blockStepsUptoRow : OpenClaim := { program := "ytmfjbaepgfdfpaadoor", sum := "bac26752a23de3c9e9c05bbfab74e94e8fa4d0a210cb1e9ed5ca4d8302541504", func := "errata/erratalaw05.BlockSteps", spec := "blockSteps", unfollowed := true, recurses := true, named := ["unicode/utf8.first", "unicode/utf8.acceptRanges"], apart := false, laid := [("unicode/utf8.acceptRanges", laid_unicode_utf8_acceptRanges), ("unicode/utf8.first", laid_unicode_utf8_first)], narrowed := true }
def BlockStepsUptoSaid : Prop := blockStepsUptoRow.holds Tryd.pinned (OpenSpec.upto blockStepsSpec)

/-- 'erratalaw05.BlockChecks', WHERE WHAT IT READS IS OF BULK AT MOST 1048576: true; the input reads as it did. -/
def blockChecksUptoRow : OpenClaim := { program := "ytmfjbaepgfdfpaadoor", sum := "bac26752a23de3c9e9c05bbfab74e94e8fa4d0a210cb1e9ed5ca4d8302541504", func := "errata/erratalaw05.BlockChecks", spec := "blockChecks", unfollowed := true, recurses := true, named := ["unicode/utf8.first", "unicode/utf8.acceptRanges"], apart := false, laid := [("unicode/utf8.acceptRanges", laid_unicode_utf8_acceptRanges), ("unicode/utf8.first", laid_unicode_utf8_first)], narrowed := true }
def BlockChecksUptoSaid : Prop := blockChecksUptoRow.holds Tryd.pinned (OpenSpec.upto blockChecksSpec)

/-- 'erratalaw05.BlockMay', WHERE WHAT IT READS IS OF BULK AT MOST 1048576: true; the input reads as it did. -/
def blockMayUptoRow : OpenClaim := { program := "ytmfjbaepgfdfpaadoor", sum := "bac26752a23de3c9e9c05bbfab74e94e8fa4d0a210cb1e9ed5ca4d8302541504", func := "errata/erratalaw05.BlockMay", spec := "blockMay", unfollowed := true, recurses := true, named := ["unicode/utf8.first", "unicode/utf8.acceptRanges"], apart := false, laid := [("unicode/utf8.acceptRanges", laid_unicode_utf8_acceptRanges), ("unicode/utf8.first", laid_unicode_utf8_first)], narrowed := true }
def BlockMayUptoSaid : Prop := blockMayUptoRow.holds Tryd.pinned (OpenSpec.upto blockMaySpec)

end Rows
end Go.Proofs.YtmfjbaepgfdfpaaDoor
