/-
  DERIVED. GIVEN WITH THE SEED: THE CARDS: each row of YtngcpifknomecaaDoorRows.lean that lists a variable, with what it lists TIED to the program's text (the seventh form; the later family's looks); each row that meets fmt, with fmt's text TOLD by the authors' own Lean function (tested against real Go, not proved from fmt's source: count such statements apart). THE CARD IS WHAT COUNTS. Prove the row's statement (the work); the ties are given (YtngcpifknomecaaDoorTie.lean); close each card by the builder's one call (the guide's Derived/Test/ToyasCard.lean, 'card_holds'). Laid BY PROGRAM, IN A SANDBOX (cutbox-door.mjs). By AI agents, Wed Nov 11 2026. No macro, syntax, notation, axiom, sorry.
-/
import Derived.Test.YtngcpifknomecaaDoorRows
import GoSem.ClaimSeven
namespace Go.Proofs.YtngcpifknomecaaDoor
namespace Rows

/-- THE TIED CARD OF 'erratalaw01.RunesJoin'. -/
def runesJoinCard : Claim7 := { stood := { row := runesJoinRow, standIns := [], harness := (true, "89f9a94cac649d9ddbd3fad9f9908c3d5a168737eaa0d49fff93c86488b2ab4a"), looks := false }, kinds := [], alts := [], laidByText := true, laidKinds := [.data, .pinned], laidTests := true, laidLooks := .later }
def RunesJoinCardSaid : Prop := Claim7.holds Tryd.pinned (.plain (OpenSpec.ofChange runesJoinSpec)) runesJoinCard

/-- THE TIED CARD OF 'erratalaw01.RunesDecode'. -/
def runesDecodeCard : Claim7 := { stood := { row := runesDecodeRow, standIns := [], harness := (true, "89f9a94cac649d9ddbd3fad9f9908c3d5a168737eaa0d49fff93c86488b2ab4a"), looks := false }, kinds := [], alts := [], laidByText := true, laidKinds := [.data, .pinned], laidTests := true, laidLooks := .later }
def RunesDecodeCardSaid : Prop := Claim7.holds Tryd.pinned (.plain (OpenSpec.ofChange runesDecodeSpec)) runesDecodeCard

/-- THE TIED CARD OF 'erratalaw01.RunesOrder'. -/
def runesOrderCard : Claim7 := { stood := { row := runesOrderRow, standIns := [], harness := (true, "89f9a94cac649d9ddbd3fad9f9908c3d5a168737eaa0d49fff93c86488b2ab4a"), looks := false }, kinds := [], alts := [], laidByText := true, laidKinds := [.data, .pinned], laidTests := true, laidLooks := .later }
def RunesOrderCardSaid : Prop := Claim7.holds Tryd.pinned (.plain (OpenSpec.ofChange runesOrderSpec)) runesOrderCard

/-- THE TIED CARD OF 'erratalaw02.TextSpans'. -/
def textSpansCard : Claim7 := { stood := { row := textSpansRow, standIns := [], harness := (true, "89f9a94cac649d9ddbd3fad9f9908c3d5a168737eaa0d49fff93c86488b2ab4a"), looks := false }, kinds := [], alts := [], laidByText := true, laidKinds := [.data, .pinned], laidTests := true, laidLooks := .later }
def TextSpansCardSaid : Prop := Claim7.holds Tryd.pinned (.plain (OpenSpec.ofChange textSpansSpec)) textSpansCard

/-- THE TIED CARD OF 'erratalaw02.TextBetween'. -/
def textBetweenCard : Claim7 := { stood := { row := textBetweenRow, standIns := [], harness := (true, "89f9a94cac649d9ddbd3fad9f9908c3d5a168737eaa0d49fff93c86488b2ab4a"), looks := false }, kinds := [], alts := [], laidByText := true, laidKinds := [.data, .pinned], laidTests := true, laidLooks := .later }
def TextBetweenCardSaid : Prop := Claim7.holds Tryd.pinned (.plain (OpenSpec.ofChange textBetweenSpec)) textBetweenCard

/-- THE TIED CARD OF 'erratalaw01.RunesEncode'. -/
def runesEncodeCard : Claim7 := { stood := { row := runesEncodeRow, standIns := [], harness := (true, "89f9a94cac649d9ddbd3fad9f9908c3d5a168737eaa0d49fff93c86488b2ab4a"), looks := false }, kinds := [], alts := [], laidByText := true, laidKinds := [.data, .pinned], laidTests := true, laidLooks := .later }
def RunesEncodeCardSaid : Prop := Claim7.holds Tryd.pinned (.plain (OpenSpec.ofChange runesEncodeSpec)) runesEncodeCard

/-- THE TIED CARD OF 'erratalaw01.RunesBack'. -/
def runesBackCard : Claim7 := { stood := { row := runesBackRow, standIns := [], harness := (true, "89f9a94cac649d9ddbd3fad9f9908c3d5a168737eaa0d49fff93c86488b2ab4a"), looks := false }, kinds := [], alts := [], laidByText := true, laidKinds := [.data, .pinned], laidTests := true, laidLooks := .later }
def RunesBackCardSaid : Prop := Claim7.holds Tryd.pinned (.plain (OpenSpec.ofChange runesBackSpec)) runesBackCard

/-- THE TIED CARD OF 'erratalaw02.TextJoins'. -/
def textJoinsCard : Claim7 := { stood := { row := textJoinsRow, standIns := [], harness := (true, "89f9a94cac649d9ddbd3fad9f9908c3d5a168737eaa0d49fff93c86488b2ab4a"), looks := false }, kinds := [], alts := [], laidByText := true, laidKinds := [.data, .pinned], laidTests := true, laidLooks := .later }
def TextJoinsCardSaid : Prop := Claim7.holds Tryd.pinned (.plain (OpenSpec.ofChange textJoinsSpec)) textJoinsCard

/-- THE TIED CARD OF 'erratalaw02.TextParts'. -/
def textPartsCard : Claim7 := { stood := { row := textPartsRow, standIns := [], harness := (true, "89f9a94cac649d9ddbd3fad9f9908c3d5a168737eaa0d49fff93c86488b2ab4a"), looks := false }, kinds := [], alts := [], laidByText := true, laidKinds := [.data, .pinned], laidTests := true, laidLooks := .later }
def TextPartsCardSaid : Prop := Claim7.holds Tryd.pinned (.plain (OpenSpec.ofChange textPartsSpec)) textPartsCard

/-- THE TIED CARD OF 'erratalaw01.RunesTokens'. -/
def runesTokensCard : Claim7 := { stood := { row := runesTokensRow, standIns := [], harness := (true, "89f9a94cac649d9ddbd3fad9f9908c3d5a168737eaa0d49fff93c86488b2ab4a"), looks := false }, kinds := [], alts := [], laidByText := true, laidKinds := [.data, .pinned], laidTests := true, laidLooks := .later }
def RunesTokensCardSaid : Prop := Claim7.holds Tryd.pinned (.plain (OpenSpec.ofChange runesTokensSpec)) runesTokensCard

/-- THE TIED CARD OF 'erratalaw02.TextLetters'. -/
def textLettersCard : Claim7 := { stood := { row := textLettersRow, standIns := [], harness := (true, "89f9a94cac649d9ddbd3fad9f9908c3d5a168737eaa0d49fff93c86488b2ab4a"), looks := false }, kinds := [], alts := [], laidByText := true, laidKinds := [.data, .pinned], laidTests := true, laidLooks := .later }
def TextLettersCardSaid : Prop := Claim7.holds Tryd.pinned (.plain (OpenSpec.ofChange textLettersSpec)) textLettersCard

/-- THE TIED CARD OF 'erratalaw02.TextBack'. -/
def textBackCard : Claim7 := { stood := { row := textBackRow, standIns := [], harness := (true, "89f9a94cac649d9ddbd3fad9f9908c3d5a168737eaa0d49fff93c86488b2ab4a"), looks := false }, kinds := [], alts := [], laidByText := true, laidKinds := [.data, .pinned], laidTests := true, laidLooks := .later }
def TextBackCardSaid : Prop := Claim7.holds Tryd.pinned (.plain (OpenSpec.ofChange textBackSpec)) textBackCard

/-- THE TIED CARD OF 'erratalaw02.TextRefuses'. -/
def textRefusesCard : Claim7 := { stood := { row := textRefusesRow, standIns := [], harness := (true, "89f9a94cac649d9ddbd3fad9f9908c3d5a168737eaa0d49fff93c86488b2ab4a"), looks := false }, kinds := [], alts := [], laidByText := true, laidKinds := [.data, .pinned], laidTests := true, laidLooks := .later }
def TextRefusesCardSaid : Prop := Claim7.holds Tryd.pinned (.plain (OpenSpec.ofChange textRefusesSpec)) textRefusesCard

/-- THE SECOND FORM's CARD OF 'erratalaw01.RunesJoin'. -/
def runesJoinUptoCard : Claim7 := { stood := { row := runesJoinUptoRow, standIns := [], harness := (true, "89f9a94cac649d9ddbd3fad9f9908c3d5a168737eaa0d49fff93c86488b2ab4a"), looks := false }, kinds := [], alts := [], laidByText := true, laidKinds := [.data, .pinned], laidTests := true, laidLooks := .later }
def RunesJoinUptoCardSaid : Prop := Claim7.holds Tryd.pinned (.plain (OpenSpec.upto runesJoinSpec)) runesJoinUptoCard

/-- THE SECOND FORM's CARD OF 'erratalaw01.RunesDecode'. -/
def runesDecodeUptoCard : Claim7 := { stood := { row := runesDecodeUptoRow, standIns := [], harness := (true, "89f9a94cac649d9ddbd3fad9f9908c3d5a168737eaa0d49fff93c86488b2ab4a"), looks := false }, kinds := [], alts := [], laidByText := true, laidKinds := [.data, .pinned], laidTests := true, laidLooks := .later }
def RunesDecodeUptoCardSaid : Prop := Claim7.holds Tryd.pinned (.plain (OpenSpec.upto runesDecodeSpec)) runesDecodeUptoCard

/-- THE SECOND FORM's CARD OF 'erratalaw01.RunesOrder'. -/
def runesOrderUptoCard : Claim7 := { stood := { row := runesOrderUptoRow, standIns := [], harness := (true, "89f9a94cac649d9ddbd3fad9f9908c3d5a168737eaa0d49fff93c86488b2ab4a"), looks := false }, kinds := [], alts := [], laidByText := true, laidKinds := [.data, .pinned], laidTests := true, laidLooks := .later }
def RunesOrderUptoCardSaid : Prop := Claim7.holds Tryd.pinned (.plain (OpenSpec.upto runesOrderSpec)) runesOrderUptoCard

/-- THE SECOND FORM's CARD OF 'erratalaw02.TextSpans'. -/
def textSpansUptoCard : Claim7 := { stood := { row := textSpansUptoRow, standIns := [], harness := (true, "89f9a94cac649d9ddbd3fad9f9908c3d5a168737eaa0d49fff93c86488b2ab4a"), looks := false }, kinds := [], alts := [], laidByText := true, laidKinds := [.data, .pinned], laidTests := true, laidLooks := .later }
def TextSpansUptoCardSaid : Prop := Claim7.holds Tryd.pinned (.plain (OpenSpec.upto textSpansSpec)) textSpansUptoCard

/-- THE SECOND FORM's CARD OF 'erratalaw02.TextBetween'. -/
def textBetweenUptoCard : Claim7 := { stood := { row := textBetweenUptoRow, standIns := [], harness := (true, "89f9a94cac649d9ddbd3fad9f9908c3d5a168737eaa0d49fff93c86488b2ab4a"), looks := false }, kinds := [], alts := [], laidByText := true, laidKinds := [.data, .pinned], laidTests := true, laidLooks := .later }
def TextBetweenUptoCardSaid : Prop := Claim7.holds Tryd.pinned (.plain (OpenSpec.upto textBetweenSpec)) textBetweenUptoCard

/-- THE SECOND FORM's CARD OF 'erratalaw01.RunesEncode'. -/
def runesEncodeUptoCard : Claim7 := { stood := { row := runesEncodeUptoRow, standIns := [], harness := (true, "89f9a94cac649d9ddbd3fad9f9908c3d5a168737eaa0d49fff93c86488b2ab4a"), looks := false }, kinds := [], alts := [], laidByText := true, laidKinds := [.data, .pinned], laidTests := true, laidLooks := .later }
def RunesEncodeUptoCardSaid : Prop := Claim7.holds Tryd.pinned (.plain (OpenSpec.upto runesEncodeSpec)) runesEncodeUptoCard

/-- THE SECOND FORM's CARD OF 'erratalaw01.RunesBack'. -/
def runesBackUptoCard : Claim7 := { stood := { row := runesBackUptoRow, standIns := [], harness := (true, "89f9a94cac649d9ddbd3fad9f9908c3d5a168737eaa0d49fff93c86488b2ab4a"), looks := false }, kinds := [], alts := [], laidByText := true, laidKinds := [.data, .pinned], laidTests := true, laidLooks := .later }
def RunesBackUptoCardSaid : Prop := Claim7.holds Tryd.pinned (.plain (OpenSpec.upto runesBackSpec)) runesBackUptoCard

/-- THE SECOND FORM's CARD OF 'erratalaw02.TextJoins'. -/
def textJoinsUptoCard : Claim7 := { stood := { row := textJoinsUptoRow, standIns := [], harness := (true, "89f9a94cac649d9ddbd3fad9f9908c3d5a168737eaa0d49fff93c86488b2ab4a"), looks := false }, kinds := [], alts := [], laidByText := true, laidKinds := [.data, .pinned], laidTests := true, laidLooks := .later }
def TextJoinsUptoCardSaid : Prop := Claim7.holds Tryd.pinned (.plain (OpenSpec.upto textJoinsSpec)) textJoinsUptoCard

/-- THE SECOND FORM's CARD OF 'erratalaw02.TextParts'. -/
def textPartsUptoCard : Claim7 := { stood := { row := textPartsUptoRow, standIns := [], harness := (true, "89f9a94cac649d9ddbd3fad9f9908c3d5a168737eaa0d49fff93c86488b2ab4a"), looks := false }, kinds := [], alts := [], laidByText := true, laidKinds := [.data, .pinned], laidTests := true, laidLooks := .later }
def TextPartsUptoCardSaid : Prop := Claim7.holds Tryd.pinned (.plain (OpenSpec.upto textPartsSpec)) textPartsUptoCard

/-- THE SECOND FORM's CARD OF 'erratalaw01.RunesTokens'. -/
def runesTokensUptoCard : Claim7 := { stood := { row := runesTokensUptoRow, standIns := [], harness := (true, "89f9a94cac649d9ddbd3fad9f9908c3d5a168737eaa0d49fff93c86488b2ab4a"), looks := false }, kinds := [], alts := [], laidByText := true, laidKinds := [.data, .pinned], laidTests := true, laidLooks := .later }
def RunesTokensUptoCardSaid : Prop := Claim7.holds Tryd.pinned (.plain (OpenSpec.upto runesTokensSpec)) runesTokensUptoCard

/-- THE SECOND FORM's CARD OF 'erratalaw02.TextLetters'. -/
def textLettersUptoCard : Claim7 := { stood := { row := textLettersUptoRow, standIns := [], harness := (true, "89f9a94cac649d9ddbd3fad9f9908c3d5a168737eaa0d49fff93c86488b2ab4a"), looks := false }, kinds := [], alts := [], laidByText := true, laidKinds := [.data, .pinned], laidTests := true, laidLooks := .later }
def TextLettersUptoCardSaid : Prop := Claim7.holds Tryd.pinned (.plain (OpenSpec.upto textLettersSpec)) textLettersUptoCard

/-- THE SECOND FORM's CARD OF 'erratalaw02.TextBack'. -/
def textBackUptoCard : Claim7 := { stood := { row := textBackUptoRow, standIns := [], harness := (true, "89f9a94cac649d9ddbd3fad9f9908c3d5a168737eaa0d49fff93c86488b2ab4a"), looks := false }, kinds := [], alts := [], laidByText := true, laidKinds := [.data, .pinned], laidTests := true, laidLooks := .later }
def TextBackUptoCardSaid : Prop := Claim7.holds Tryd.pinned (.plain (OpenSpec.upto textBackSpec)) textBackUptoCard

/-- THE SECOND FORM's CARD OF 'erratalaw02.TextRefuses'. -/
def textRefusesUptoCard : Claim7 := { stood := { row := textRefusesUptoRow, standIns := [], harness := (true, "89f9a94cac649d9ddbd3fad9f9908c3d5a168737eaa0d49fff93c86488b2ab4a"), looks := false }, kinds := [], alts := [], laidByText := true, laidKinds := [.data, .pinned], laidTests := true, laidLooks := .later }
def TextRefusesUptoCardSaid : Prop := Claim7.holds Tryd.pinned (.plain (OpenSpec.upto textRefusesSpec)) textRefusesUptoCard
end Rows
end Go.Proofs.YtngcpifknomecaaDoor
