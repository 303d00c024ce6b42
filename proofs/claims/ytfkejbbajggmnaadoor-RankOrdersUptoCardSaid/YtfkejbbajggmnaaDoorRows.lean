/-
  NARROWER THAN 'FOR EVERY INPUT', by the rows' own cells (each row's printed sentence says how): RankOrders: laid · RankLess: laid · RankPlaces: laid · RankStands: laid · RankParts: laid · RankTops: laid · RankNone: laid.
  DERIVED. THE GIVEN ROWS OF THIS SEAT. 7 by the template 'for every input the law returns true; each argument reads behind the call as it read before'; 0 by the template 'total and deterministic' (their statements: YtfkejbbajggmnaaDoorTotals.lean).
  GIVEN WITH THE SEED: the statements are not yours to turn. If you find one false, say at which input.
  Laid BY PROGRAM, IN A SANDBOX (cutbox-rows.mjs): the forced cells as the released guide's own fill.sh prints them over the translation 2bb4ac6130f803c1… (all of the seat's roots in one cut). By AI agents, Wed Nov 11 2026. No macro, syntax, notation, axiom, sorry.
-/
import Derived.Test.YtfkejbbajggmnaaDoorChecked
import GoSem.PinnedTables
import GoSem.Claim
import GoSem.ClaimJoined
import GoSem.ClaimMapViews
import Derived.JoinedTies
import Derived.KernelRfl
namespace Go.Proofs.YtfkejbbajggmnaaDoor
/- THE CELL 'sum', in the pinned program and in every row, IS THE sha256 OF THE DUMP (.gsa) THAT YtfkejbbajggmnaaDoorProg.lean LOADS. Nothing in Lean hashes anything: it is a label: what it is worth is what the hold of that sum in a sandbox is worth. -/
noncomputable def Tryd.pinned : Pinned := { name := "ytfkejbbajggmnaadoor", sum := "2bb4ac6130f803c1f10daebb05cb755ae705df3f2924ab0267c167e3b7d3df9f", checked := Tryd.checked }
namespace Rows
def none {H : Type} : Left H := { results := [], args := [] }

/- WHAT THE LISTED PACKAGE-LEVEL VARIABLES READ AS WHEN THE CALL BEGINS. Each datum BY PROGRAM (the guide's laid-datum.mjs) off the statement by which the dump's own 'gosem.cut.vars' lays the variable. In a bare row this is a premise. The card (YtfkejbbajggmnaaDoorCards.lean) ties it to the program's text. -/
def laid_unicode_utf8_acceptRanges {H : Type} : DataW H := .agg [.agg [.lit (.int .u8 128), .lit (.int .u8 191)], .agg [.lit (.int .u8 160), .lit (.int .u8 191)], .agg [.lit (.int .u8 128), .lit (.int .u8 159)], .agg [.lit (.int .u8 144), .lit (.int .u8 191)], .agg [.lit (.int .u8 128), .lit (.int .u8 143)], .agg [.lit (.int .u8 0), .lit (.int .u8 0)], .agg [.lit (.int .u8 0), .lit (.int .u8 0)], .agg [.lit (.int .u8 0), .lit (.int .u8 0)], .agg [.lit (.int .u8 0), .lit (.int .u8 0)], .agg [.lit (.int .u8 0), .lit (.int .u8 0)], .agg [.lit (.int .u8 0), .lit (.int .u8 0)], .agg [.lit (.int .u8 0), .lit (.int .u8 0)], .agg [.lit (.int .u8 0), .lit (.int .u8 0)], .agg [.lit (.int .u8 0), .lit (.int .u8 0)], .agg [.lit (.int .u8 0), .lit (.int .u8 0)], .agg [.lit (.int .u8 0), .lit (.int .u8 0)]]
/-- One of Go's own tables, pinned by name: the form's constant. -/
def laid_unicode_utf8_first : DataW Unit := Go.Pinned.utf8First

/-- 'erratalaw15.RankOrders': WHATEVER THE INPUT: true; the input reads as it did. -/
def rankOrdersSpec : ChangeSpec := { name := "rankOrders", fn := fun _ => fun
  | [d1, d2, d3] => { results := [.lit (.bool true)], args := [d1, d2, d3] }
  | _ => none }
def rankOrdersRow : OpenClaim := { program := "ytfkejbbajggmnaadoor", sum := "2bb4ac6130f803c1f10daebb05cb755ae705df3f2924ab0267c167e3b7d3df9f", func := "errata/erratalaw15.RankOrders", spec := "rankOrders", unfollowed := true, recurses := true, named := ["unicode/utf8.first", "unicode/utf8.acceptRanges"], apart := false, laid := [("unicode/utf8.acceptRanges", laid_unicode_utf8_acceptRanges), ("unicode/utf8.first", laid_unicode_utf8_first)] }
def RankOrdersSaid : Prop := rankOrdersRow.holds Tryd.pinned (OpenSpec.ofChange rankOrdersSpec)

/-- ITS FALSE NEIGHBOUR: 'it returns false'. Refute it at one input. -/
def rankOrdersWrong : ChangeSpec := { name := "rankOrders", fn := fun _ => fun
  | [d1, d2, d3] => { results := [.lit (.bool false)], args := [d1, d2, d3] }
  | _ => none }
def RankOrdersWrongFalsely : Prop := rankOrdersRow.holds Tryd.pinned (OpenSpec.ofChange rankOrdersWrong)

/-- 'erratalaw15.RankLess': WHATEVER THE INPUT: true; the input reads as it did. -/
def rankLessSpec : ChangeSpec := { name := "rankLess", fn := fun _ => fun
  | [d1, d2, d3] => { results := [.lit (.bool true)], args := [d1, d2, d3] }
  | _ => none }
def rankLessRow : OpenClaim := { program := "ytfkejbbajggmnaadoor", sum := "2bb4ac6130f803c1f10daebb05cb755ae705df3f2924ab0267c167e3b7d3df9f", func := "errata/erratalaw15.RankLess", spec := "rankLess", unfollowed := true, recurses := true, named := ["unicode/utf8.first", "unicode/utf8.acceptRanges"], apart := false, laid := [("unicode/utf8.acceptRanges", laid_unicode_utf8_acceptRanges), ("unicode/utf8.first", laid_unicode_utf8_first)] }
def RankLessSaid : Prop := rankLessRow.holds Tryd.pinned (OpenSpec.ofChange rankLessSpec)

/-- ITS FALSE NEIGHBOUR: 'it returns false'. Refute it at one input. -/
def rankLessWrong : ChangeSpec := { name := "rankLess", fn := fun _ => fun
  | [d1, d2, d3] => { results := [.lit (.bool false)], args := [d1, d2, d3] }
  | _ => none }
def RankLessWrongFalsely : Prop := rankLessRow.holds Tryd.pinned (OpenSpec.ofChange rankLessWrong)

/-- 'erratalaw15.RankPlaces': WHATEVER THE INPUT: true; the input reads as it did. -/
def rankPlacesSpec : ChangeSpec := { name := "rankPlaces", fn := fun _ => fun
  | [d1, d2] => { results := [.lit (.bool true)], args := [d1, d2] }
  | _ => none }
def rankPlacesRow : OpenClaim := { program := "ytfkejbbajggmnaadoor", sum := "2bb4ac6130f803c1f10daebb05cb755ae705df3f2924ab0267c167e3b7d3df9f", func := "errata/erratalaw15.RankPlaces", spec := "rankPlaces", unfollowed := true, recurses := true, named := ["unicode/utf8.first", "unicode/utf8.acceptRanges"], apart := false, laid := [("unicode/utf8.acceptRanges", laid_unicode_utf8_acceptRanges), ("unicode/utf8.first", laid_unicode_utf8_first)] }
def RankPlacesSaid : Prop := rankPlacesRow.holds Tryd.pinned (OpenSpec.ofChange rankPlacesSpec)

/-- ITS FALSE NEIGHBOUR: 'it returns false'. Refute it at one input. -/
def rankPlacesWrong : ChangeSpec := { name := "rankPlaces", fn := fun _ => fun
  | [d1, d2] => { results := [.lit (.bool false)], args := [d1, d2] }
  | _ => none }
def RankPlacesWrongFalsely : Prop := rankPlacesRow.holds Tryd.pinned (OpenSpec.ofChange rankPlacesWrong)

/-- 'erratalaw15.RankStands': WHATEVER THE INPUT: true; the input reads as it did. -/
def rankStandsSpec : ChangeSpec := { name := "rankStands", fn := fun _ => fun
  | [d1, d2] => { results := [.lit (.bool true)], args := [d1, d2] }
  | _ => none }
def rankStandsRow : OpenClaim := { program := "ytfkejbbajggmnaadoor", sum := "2bb4ac6130f803c1f10daebb05cb755ae705df3f2924ab0267c167e3b7d3df9f", func := "errata/erratalaw15.RankStands", spec := "rankStands", unfollowed := true, recurses := true, named := ["unicode/utf8.first", "unicode/utf8.acceptRanges"], apart := false, laid := [("unicode/utf8.acceptRanges", laid_unicode_utf8_acceptRanges), ("unicode/utf8.first", laid_unicode_utf8_first)] }
def RankStandsSaid : Prop := rankStandsRow.holds Tryd.pinned (OpenSpec.ofChange rankStandsSpec)

/-- ITS FALSE NEIGHBOUR: 'it returns false'. Refute it at one input. -/
def rankStandsWrong : ChangeSpec := { name := "rankStands", fn := fun _ => fun
  | [d1, d2] => { results := [.lit (.bool false)], args := [d1, d2] }
  | _ => none }
def RankStandsWrongFalsely : Prop := rankStandsRow.holds Tryd.pinned (OpenSpec.ofChange rankStandsWrong)

/-- 'erratalaw15.RankParts': WHATEVER THE INPUT: true; the input reads as it did. -/
def rankPartsSpec : ChangeSpec := { name := "rankParts", fn := fun _ => fun
  | [d] => { results := [.lit (.bool true)], args := [d] }
  | _ => none }
def rankPartsRow : OpenClaim := { program := "ytfkejbbajggmnaadoor", sum := "2bb4ac6130f803c1f10daebb05cb755ae705df3f2924ab0267c167e3b7d3df9f", func := "errata/erratalaw15.RankParts", spec := "rankParts", unfollowed := true, recurses := true, named := ["unicode/utf8.first", "unicode/utf8.acceptRanges"], apart := false, laid := [("unicode/utf8.acceptRanges", laid_unicode_utf8_acceptRanges), ("unicode/utf8.first", laid_unicode_utf8_first)] }
def RankPartsSaid : Prop := rankPartsRow.holds Tryd.pinned (OpenSpec.ofChange rankPartsSpec)

/-- ITS FALSE NEIGHBOUR: 'it returns false'. Refute it at one input. -/
def rankPartsWrong : ChangeSpec := { name := "rankParts", fn := fun _ => fun
  | [d] => { results := [.lit (.bool false)], args := [d] }
  | _ => none }
def RankPartsWrongFalsely : Prop := rankPartsRow.holds Tryd.pinned (OpenSpec.ofChange rankPartsWrong)

/-- 'erratalaw15.RankTops': WHATEVER THE INPUT: true; the input reads as it did. -/
def rankTopsSpec : ChangeSpec := { name := "rankTops", fn := fun _ => fun
  | [d1, d2, d3] => { results := [.lit (.bool true)], args := [d1, d2, d3] }
  | _ => none }
def rankTopsRow : OpenClaim := { program := "ytfkejbbajggmnaadoor", sum := "2bb4ac6130f803c1f10daebb05cb755ae705df3f2924ab0267c167e3b7d3df9f", func := "errata/erratalaw15.RankTops", spec := "rankTops", unfollowed := true, recurses := true, named := ["unicode/utf8.first", "unicode/utf8.acceptRanges"], apart := false, laid := [("unicode/utf8.acceptRanges", laid_unicode_utf8_acceptRanges), ("unicode/utf8.first", laid_unicode_utf8_first)] }
def RankTopsSaid : Prop := rankTopsRow.holds Tryd.pinned (OpenSpec.ofChange rankTopsSpec)

/-- ITS FALSE NEIGHBOUR: 'it returns false'. Refute it at one input. -/
def rankTopsWrong : ChangeSpec := { name := "rankTops", fn := fun _ => fun
  | [d1, d2, d3] => { results := [.lit (.bool false)], args := [d1, d2, d3] }
  | _ => none }
def RankTopsWrongFalsely : Prop := rankTopsRow.holds Tryd.pinned (OpenSpec.ofChange rankTopsWrong)

/-- 'erratalaw15.RankNone': WHATEVER THE INPUT: true; the input reads as it did. -/
def rankNoneSpec : ChangeSpec := { name := "rankNone", fn := fun _ => fun
  | [d1, d2, d3] => { results := [.lit (.bool true)], args := [d1, d2, d3] }
  | _ => none }
def rankNoneRow : OpenClaim := { program := "ytfkejbbajggmnaadoor", sum := "2bb4ac6130f803c1f10daebb05cb755ae705df3f2924ab0267c167e3b7d3df9f", func := "errata/erratalaw15.RankNone", spec := "rankNone", unfollowed := true, recurses := true, named := ["unicode/utf8.first", "unicode/utf8.acceptRanges"], apart := false, laid := [("unicode/utf8.acceptRanges", laid_unicode_utf8_acceptRanges), ("unicode/utf8.first", laid_unicode_utf8_first)] }
def RankNoneSaid : Prop := rankNoneRow.holds Tryd.pinned (OpenSpec.ofChange rankNoneSpec)

/-- ITS FALSE NEIGHBOUR: 'it returns false'. Refute it at one input. -/
def rankNoneWrong : ChangeSpec := { name := "rankNone", fn := fun _ => fun
  | [d1, d2, d3] => { results := [.lit (.bool false)], args := [d1, d2, d3] }
  | _ => none }
def RankNoneWrongFalsely : Prop := rankNoneRow.holds Tryd.pinned (OpenSpec.ofChange rankNoneWrong)

/- THE SECOND FORM. 'bulk': how many values and letters a reading holds, each counted each time it is reached (what is shared counts as often as it is met; a slice's spare places count too). A statement '..UptoSaid' is the law's where the arguments, and the package variables that the reading takes, are together of bulk at most 1048576: NARROWER than '..Said'. Prove '..Said' where nothing that the law and all that it calls make is longer than what came in: it says more and counts as full. Else prove '..UptoSaid'. A law counts once. -/
mutual
def uptoBulk {H : Type} : DataW H → Nat
  | .lit (.string bytes) => bytes.length + 1
  | .lit _ => 1
  | .nil => 1
  | .ptr d => uptoBulk d + 1
  | .slice elems spare => uptoBulkAll elems + uptoBulkAll spare + 1
  | .agg parts => uptoBulkAll parts + 1
  | .iface _ d => uptoBulk d + 1
  | .map entries => uptoBulkEntries entries + 1
  | .held _ => 1
def uptoBulkAll {H : Type} : List (DataW H) → Nat
  | [] => 0
  | d :: r => uptoBulk d + uptoBulkAll r
def uptoBulkEntries {H : Type} : List (Lit × DataW H) → Nat
  | [] => 0
  | x :: r => uptoBulkEntry x + uptoBulkEntries r
def uptoBulkEntry {H : Type} : Lit × DataW H → Nat
  | (.string bytes, d) => bytes.length + uptoBulk d + 1
  | (_, d) => uptoBulk d + 1
 end
def uptoSmall : (H : Type) → List (DataW H) → Bool := fun _ ds => decide (uptoBulkAll ds ≤ 1048576)
def OpenSpec.upto (s : _root_.Go.ChangeSpec) : _root_.Go.OpenSpec := { _root_.Go.OpenSpec.ofChange s with cond := some uptoSmall }

/-- 'erratalaw15.RankOrders', WHERE WHAT IT READS IS OF BULK AT MOST 1048576: true; the input reads as it did. -/
def rankOrdersUptoRow : OpenClaim := { program := "ytfkejbbajggmnaadoor", sum := "2bb4ac6130f803c1f10daebb05cb755ae705df3f2924ab0267c167e3b7d3df9f", func := "errata/erratalaw15.RankOrders", spec := "rankOrders", unfollowed := true, recurses := true, named := ["unicode/utf8.first", "unicode/utf8.acceptRanges"], apart := false, laid := [("unicode/utf8.acceptRanges", laid_unicode_utf8_acceptRanges), ("unicode/utf8.first", laid_unicode_utf8_first)], narrowed := true }
def RankOrdersUptoSaid : Prop := rankOrdersUptoRow.holds Tryd.pinned (OpenSpec.upto rankOrdersSpec)

/-- 'erratalaw15.RankLess', WHERE WHAT IT READS IS OF BULK AT MOST 1048576: true; the input reads as it did. -/
def rankLessUptoRow : OpenClaim := { program := "ytfkejbbajggmnaadoor", sum := "2bb4ac6130f803c1f10daebb05cb755ae705df3f2924ab0267c167e3b7d3df9f", func := "errata/erratalaw15.RankLess", spec := "rankLess", unfollowed := true, recurses := true, named := ["unicode/utf8.first", "unicode/utf8.acceptRanges"], apart := false, laid := [("unicode/utf8.acceptRanges", laid_unicode_utf8_acceptRanges), ("unicode/utf8.first", laid_unicode_utf8_first)], narrowed := true }
def RankLessUptoSaid : Prop := rankLessUptoRow.holds Tryd.pinned (OpenSpec.upto rankLessSpec)

/-- 'erratalaw15.RankPlaces', WHERE WHAT IT READS IS OF BULK AT MOST 1048576: true; the input reads as it did. -/
def rankPlacesUptoRow : OpenClaim := { program := "ytfkejbbajggmnaadoor", sum := "2bb4ac6130f803c1f10daebb05cb755ae705df3f2924ab0267c167e3b7d3df9f", func := "errata/erratalaw15.RankPlaces", spec := "rankPlaces", unfollowed := true, recurses := true, named := ["unicode/utf8.first", "unicode/utf8.acceptRanges"], apart := false, laid := [("unicode/utf8.acceptRanges", laid_unicode_utf8_acceptRanges), ("unicode/utf8.first", laid_unicode_utf8_first)], narrowed := true }
def RankPlacesUptoSaid : Prop := rankPlacesUptoRow.holds Tryd.pinned (OpenSpec.upto rankPlacesSpec)

/-- 'erratalaw15.RankStands', WHERE WHAT IT READS IS OF BULK AT MOST 1048576: true; the input reads as it did. -/
def rankStandsUptoRow : OpenClaim := { program := "ytfkejbbajggmnaadoor", sum := "2bb4ac6130f803c1f10daebb05cb755ae705df3f2924ab0267c167e3b7d3df9f", func := "errata/erratalaw15.RankStands", spec := "rankStands", unfollowed := true, recurses := true, named := ["unicode/utf8.first", "unicode/utf8.acceptRanges"], apart := false, laid := [("unicode/utf8.acceptRanges", laid_unicode_utf8_acceptRanges), ("unicode/utf8.first", laid_unicode_utf8_first)], narrowed := true }
def RankStandsUptoSaid : Prop := rankStandsUptoRow.holds Tryd.pinned (OpenSpec.upto rankStandsSpec)

/-- 'erratalaw15.RankParts', WHERE WHAT IT READS IS OF BULK AT MOST 1048576: true; the input reads as it did. -/
def rankPartsUptoRow : OpenClaim := { program := "ytfkejbbajggmnaadoor", sum := "2bb4ac6130f803c1f10daebb05cb755ae705df3f2924ab0267c167e3b7d3df9f", func := "errata/erratalaw15.RankParts", spec := "rankParts", unfollowed := true, recurses := true, named := ["unicode/utf8.first", "unicode/utf8.acceptRanges"], apart := false, laid := [("unicode/utf8.acceptRanges", laid_unicode_utf8_acceptRanges), ("unicode/utf8.first", laid_unicode_utf8_first)], narrowed := true }
def RankPartsUptoSaid : Prop := rankPartsUptoRow.holds Tryd.pinned (OpenSpec.upto rankPartsSpec)

/-- 'erratalaw15.RankTops', WHERE WHAT IT READS IS OF BULK AT MOST 1048576: true; the input reads as it did. -/
def rankTopsUptoRow : OpenClaim := { program := "ytfkejbbajggmnaadoor", sum := "2bb4ac6130f803c1f10daebb05cb755ae705df3f2924ab0267c167e3b7d3df9f", func := "errata/erratalaw15.RankTops", spec := "rankTops", unfollowed := true, recurses := true, named := ["unicode/utf8.first", "unicode/utf8.acceptRanges"], apart := false, laid := [("unicode/utf8.acceptRanges", laid_unicode_utf8_acceptRanges), ("unicode/utf8.first", laid_unicode_utf8_first)], narrowed := true }
def RankTopsUptoSaid : Prop := rankTopsUptoRow.holds Tryd.pinned (OpenSpec.upto rankTopsSpec)

/-- 'erratalaw15.RankNone', WHERE WHAT IT READS IS OF BULK AT MOST 1048576: true; the input reads as it did. -/
def rankNoneUptoRow : OpenClaim := { program := "ytfkejbbajggmnaadoor", sum := "2bb4ac6130f803c1f10daebb05cb755ae705df3f2924ab0267c167e3b7d3df9f", func := "errata/erratalaw15.RankNone", spec := "rankNone", unfollowed := true, recurses := true, named := ["unicode/utf8.first", "unicode/utf8.acceptRanges"], apart := false, laid := [("unicode/utf8.acceptRanges", laid_unicode_utf8_acceptRanges), ("unicode/utf8.first", laid_unicode_utf8_first)], narrowed := true }
def RankNoneUptoSaid : Prop := rankNoneUptoRow.holds Tryd.pinned (OpenSpec.upto rankNoneSpec)

end Rows
end Go.Proofs.YtfkejbbajggmnaaDoor
