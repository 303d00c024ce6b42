/-
  DERIVED. GIVEN WITH THE SEED: THE CARDS: each row of YtmfjbaepgfdfpaaDoorRows.lean that lists a variable, with what it lists TIED to the program's text (the seventh form; the later family's looks); each row that meets fmt, with fmt's text TOLD by the authors' own Lean function (tested against real Go, not proved from fmt's source: count such statements apart). THE CARD IS WHAT COUNTS. Prove the row's statement (the work); the ties are given (YtmfjbaepgfdfpaaDoorTie.lean); close each card by the builder's one call (the guide's Derived/Test/ToyasCard.lean, 'card_holds'). Laid BY PROGRAM, IN A SANDBOX (cutbox-door.mjs). By AI agents, Wed Nov 11 2026. No macro, syntax, notation, axiom, sorry.
-/
import Derived.Test.YtmfjbaepgfdfpaaDoorRows
import GoSem.ClaimSeven
namespace Go.Proofs.YtmfjbaepgfdfpaaDoor
namespace Rows

/-- THE TIED CARD OF 'erratalaw04.AlignSteps'. -/
def alignStepsCard : Claim7 := { stood := { row := alignStepsRow, standIns := [], harness := (true, "433d3db5c80797030e242344549e4f282a6d7ed558d64f3c46304d1e8be17f89"), looks := false }, kinds := [], alts := [], laidByText := true, laidKinds := [.data, .pinned], laidTests := true, laidLooks := .later }
def AlignStepsCardSaid : Prop := Claim7.holds Tryd.pinned (.plain (OpenSpec.ofChange alignStepsSpec)) alignStepsCard

/-- THE TIED CARD OF 'erratalaw04.AlignWays'. -/
def alignWaysCard : Claim7 := { stood := { row := alignWaysRow, standIns := [], harness := (true, "433d3db5c80797030e242344549e4f282a6d7ed558d64f3c46304d1e8be17f89"), looks := false }, kinds := [], alts := [], laidByText := true, laidKinds := [.data, .pinned], laidTests := true, laidLooks := .later }
def AlignWaysCardSaid : Prop := Claim7.holds Tryd.pinned (.plain (OpenSpec.ofChange alignWaysSpec)) alignWaysCard

/-- THE TIED CARD OF 'erratalaw04.AlignEnds'. -/
def alignEndsCard : Claim7 := { stood := { row := alignEndsRow, standIns := [], harness := (true, "433d3db5c80797030e242344549e4f282a6d7ed558d64f3c46304d1e8be17f89"), looks := false }, kinds := [], alts := [], laidByText := true, laidKinds := [.data, .pinned], laidTests := true, laidLooks := .later }
def AlignEndsCardSaid : Prop := Claim7.holds Tryd.pinned (.plain (OpenSpec.ofChange alignEndsSpec)) alignEndsCard

/-- THE TIED CARD OF 'erratalaw04.AlignPrefers'. -/
def alignPrefersCard : Claim7 := { stood := { row := alignPrefersRow, standIns := [], harness := (true, "433d3db5c80797030e242344549e4f282a6d7ed558d64f3c46304d1e8be17f89"), looks := false }, kinds := [], alts := [], laidByText := true, laidKinds := [.data, .pinned], laidTests := true, laidLooks := .later }
def AlignPrefersCardSaid : Prop := Claim7.holds Tryd.pinned (.plain (OpenSpec.ofChange alignPrefersSpec)) alignPrefersCard

/-- THE TIED CARD OF 'erratalaw04.AlignReads'. -/
def alignReadsCard : Claim7 := { stood := { row := alignReadsRow, standIns := [], harness := (true, "433d3db5c80797030e242344549e4f282a6d7ed558d64f3c46304d1e8be17f89"), looks := false }, kinds := [], alts := [], laidByText := true, laidKinds := [.data, .pinned], laidTests := true, laidLooks := .later }
def AlignReadsCardSaid : Prop := Claim7.holds Tryd.pinned (.plain (OpenSpec.ofChange alignReadsSpec)) alignReadsCard

/-- THE TIED CARD OF 'erratalaw04.AlignBack'. -/
def alignBackCard : Claim7 := { stood := { row := alignBackRow, standIns := [], harness := (true, "433d3db5c80797030e242344549e4f282a6d7ed558d64f3c46304d1e8be17f89"), looks := false }, kinds := [], alts := [], laidByText := true, laidKinds := [.data, .pinned], laidTests := true, laidLooks := .later }
def AlignBackCardSaid : Prop := Claim7.holds Tryd.pinned (.plain (OpenSpec.ofChange alignBackSpec)) alignBackCard

/-- THE TIED CARD OF 'erratalaw05.BlockPairs'. -/
def blockPairsCard : Claim7 := { stood := { row := blockPairsRow, standIns := [], harness := (true, "433d3db5c80797030e242344549e4f282a6d7ed558d64f3c46304d1e8be17f89"), looks := false }, kinds := [], alts := [], laidByText := true, laidKinds := [.data, .pinned], laidTests := true, laidLooks := .later }
def BlockPairsCardSaid : Prop := Claim7.holds Tryd.pinned (.plain (OpenSpec.ofChange blockPairsSpec)) blockPairsCard

/-- THE TIED CARD OF 'erratalaw05.BlockParts'. -/
def blockPartsCard : Claim7 := { stood := { row := blockPartsRow, standIns := [], harness := (true, "433d3db5c80797030e242344549e4f282a6d7ed558d64f3c46304d1e8be17f89"), looks := false }, kinds := [], alts := [], laidByText := true, laidKinds := [.data, .pinned], laidTests := true, laidLooks := .later }
def BlockPartsCardSaid : Prop := Claim7.holds Tryd.pinned (.plain (OpenSpec.ofChange blockPartsSpec)) blockPartsCard

/-- THE TIED CARD OF 'erratalaw05.BlockOrders'. -/
def blockOrdersCard : Claim7 := { stood := { row := blockOrdersRow, standIns := [], harness := (true, "433d3db5c80797030e242344549e4f282a6d7ed558d64f3c46304d1e8be17f89"), looks := false }, kinds := [], alts := [], laidByText := true, laidKinds := [.data, .pinned], laidTests := true, laidLooks := .later }
def BlockOrdersCardSaid : Prop := Claim7.holds Tryd.pinned (.plain (OpenSpec.ofChange blockOrdersSpec)) blockOrdersCard

/-- THE TIED CARD OF 'erratalaw05.BlockLone'. -/
def blockLoneCard : Claim7 := { stood := { row := blockLoneRow, standIns := [], harness := (true, "433d3db5c80797030e242344549e4f282a6d7ed558d64f3c46304d1e8be17f89"), looks := false }, kinds := [], alts := [], laidByText := true, laidKinds := [.data, .pinned], laidTests := true, laidLooks := .later }
def BlockLoneCardSaid : Prop := Claim7.holds Tryd.pinned (.plain (OpenSpec.ofChange blockLoneSpec)) blockLoneCard

/-- THE TIED CARD OF 'erratalaw05.BlockSteps'. -/
def blockStepsCard : Claim7 := { stood := { row := blockStepsRow, standIns := [], harness := (true, "433d3db5c80797030e242344549e4f282a6d7ed558d64f3c46304d1e8be17f89"), looks := false }, kinds := [], alts := [], laidByText := true, laidKinds := [.data, .pinned], laidTests := true, laidLooks := .later }
def BlockStepsCardSaid : Prop := Claim7.holds Tryd.pinned (.plain (OpenSpec.ofChange blockStepsSpec)) blockStepsCard

/-- THE TIED CARD OF 'erratalaw05.BlockChecks'. -/
def blockChecksCard : Claim7 := { stood := { row := blockChecksRow, standIns := [], harness := (true, "433d3db5c80797030e242344549e4f282a6d7ed558d64f3c46304d1e8be17f89"), looks := false }, kinds := [], alts := [], laidByText := true, laidKinds := [.data, .pinned], laidTests := true, laidLooks := .later }
def BlockChecksCardSaid : Prop := Claim7.holds Tryd.pinned (.plain (OpenSpec.ofChange blockChecksSpec)) blockChecksCard

/-- THE TIED CARD OF 'erratalaw05.BlockMay'. -/
def blockMayCard : Claim7 := { stood := { row := blockMayRow, standIns := [], harness := (true, "433d3db5c80797030e242344549e4f282a6d7ed558d64f3c46304d1e8be17f89"), looks := false }, kinds := [], alts := [], laidByText := true, laidKinds := [.data, .pinned], laidTests := true, laidLooks := .later }
def BlockMayCardSaid : Prop := Claim7.holds Tryd.pinned (.plain (OpenSpec.ofChange blockMaySpec)) blockMayCard

/-- THE SECOND FORM's CARD OF 'erratalaw04.AlignSteps'. -/
def alignStepsUptoCard : Claim7 := { stood := { row := alignStepsUptoRow, standIns := [], harness := (true, "433d3db5c80797030e242344549e4f282a6d7ed558d64f3c46304d1e8be17f89"), looks := false }, kinds := [], alts := [], laidByText := true, laidKinds := [.data, .pinned], laidTests := true, laidLooks := .later }
def AlignStepsUptoCardSaid : Prop := Claim7.holds Tryd.pinned (.plain (OpenSpec.upto alignStepsSpec)) alignStepsUptoCard

/-- THE SECOND FORM's CARD OF 'erratalaw04.AlignWays'. -/
def alignWaysUptoCard : Claim7 := { stood := { row := alignWaysUptoRow, standIns := [], harness := (true, "433d3db5c80797030e242344549e4f282a6d7ed558d64f3c46304d1e8be17f89"), looks := false }, kinds := [], alts := [], laidByText := true, laidKinds := [.data, .pinned], laidTests := true, laidLooks := .later }
def AlignWaysUptoCardSaid : Prop := Claim7.holds Tryd.pinned (.plain (OpenSpec.upto alignWaysSpec)) alignWaysUptoCard

/-- THE SECOND FORM's CARD OF 'erratalaw04.AlignEnds'. -/
def alignEndsUptoCard : Claim7 := { stood := { row := alignEndsUptoRow, standIns := [], harness := (true, "433d3db5c80797030e242344549e4f282a6d7ed558d64f3c46304d1e8be17f89"), looks := false }, kinds := [], alts := [], laidByText := true, laidKinds := [.data, .pinned], laidTests := true, laidLooks := .later }
def AlignEndsUptoCardSaid : Prop := Claim7.holds Tryd.pinned (.plain (OpenSpec.upto alignEndsSpec)) alignEndsUptoCard

/-- THE SECOND FORM's CARD OF 'erratalaw04.AlignPrefers'. -/
def alignPrefersUptoCard : Claim7 := { stood := { row := alignPrefersUptoRow, standIns := [], harness := (true, "433d3db5c80797030e242344549e4f282a6d7ed558d64f3c46304d1e8be17f89"), looks := false }, kinds := [], alts := [], laidByText := true, laidKinds := [.data, .pinned], laidTests := true, laidLooks := .later }
def AlignPrefersUptoCardSaid : Prop := Claim7.holds Tryd.pinned (.plain (OpenSpec.upto alignPrefersSpec)) alignPrefersUptoCard

/-- THE SECOND FORM's CARD OF 'erratalaw04.AlignReads'. -/
def alignReadsUptoCard : Claim7 := { stood := { row := alignReadsUptoRow, standIns := [], harness := (true, "433d3db5c80797030e242344549e4f282a6d7ed558d64f3c46304d1e8be17f89"), looks := false }, kinds := [], alts := [], laidByText := true, laidKinds := [.data, .pinned], laidTests := true, laidLooks := .later }
def AlignReadsUptoCardSaid : Prop := Claim7.holds Tryd.pinned (.plain (OpenSpec.upto alignReadsSpec)) alignReadsUptoCard

/-- THE SECOND FORM's CARD OF 'erratalaw04.AlignBack'. -/
def alignBackUptoCard : Claim7 := { stood := { row := alignBackUptoRow, standIns := [], harness := (true, "433d3db5c80797030e242344549e4f282a6d7ed558d64f3c46304d1e8be17f89"), looks := false }, kinds := [], alts := [], laidByText := true, laidKinds := [.data, .pinned], laidTests := true, laidLooks := .later }
def AlignBackUptoCardSaid : Prop := Claim7.holds Tryd.pinned (.plain (OpenSpec.upto alignBackSpec)) alignBackUptoCard

/-- THE SECOND FORM's CARD OF 'erratalaw05.BlockPairs'. -/
def blockPairsUptoCard : Claim7 := { stood := { row := blockPairsUptoRow, standIns := [], harness := (true, "433d3db5c80797030e242344549e4f282a6d7ed558d64f3c46304d1e8be17f89"), looks := false }, kinds := [], alts := [], laidByText := true, laidKinds := [.data, .pinned], laidTests := true, laidLooks := .later }
def BlockPairsUptoCardSaid : Prop := Claim7.holds Tryd.pinned (.plain (OpenSpec.upto blockPairsSpec)) blockPairsUptoCard

/-- THE SECOND FORM's CARD OF 'erratalaw05.BlockParts'. -/
def blockPartsUptoCard : Claim7 := { stood := { row := blockPartsUptoRow, standIns := [], harness := (true, "433d3db5c80797030e242344549e4f282a6d7ed558d64f3c46304d1e8be17f89"), looks := false }, kinds := [], alts := [], laidByText := true, laidKinds := [.data, .pinned], laidTests := true, laidLooks := .later }
def BlockPartsUptoCardSaid : Prop := Claim7.holds Tryd.pinned (.plain (OpenSpec.upto blockPartsSpec)) blockPartsUptoCard

/-- THE SECOND FORM's CARD OF 'erratalaw05.BlockOrders'. -/
def blockOrdersUptoCard : Claim7 := { stood := { row := blockOrdersUptoRow, standIns := [], harness := (true, "433d3db5c80797030e242344549e4f282a6d7ed558d64f3c46304d1e8be17f89"), looks := false }, kinds := [], alts := [], laidByText := true, laidKinds := [.data, .pinned], laidTests := true, laidLooks := .later }
def BlockOrdersUptoCardSaid : Prop := Claim7.holds Tryd.pinned (.plain (OpenSpec.upto blockOrdersSpec)) blockOrdersUptoCard

/-- THE SECOND FORM's CARD OF 'erratalaw05.BlockLone'. -/
def blockLoneUptoCard : Claim7 := { stood := { row := blockLoneUptoRow, standIns := [], harness := (true, "433d3db5c80797030e242344549e4f282a6d7ed558d64f3c46304d1e8be17f89"), looks := false }, kinds := [], alts := [], laidByText := true, laidKinds := [.data, .pinned], laidTests := true, laidLooks := .later }
def BlockLoneUptoCardSaid : Prop := Claim7.holds Tryd.pinned (.plain (OpenSpec.upto blockLoneSpec)) blockLoneUptoCard

/-- THE SECOND FORM's CARD OF 'erratalaw05.BlockSteps'. -/
def blockStepsUptoCard : Claim7 := { stood := { row := blockStepsUptoRow, standIns := [], harness := (true, "433d3db5c80797030e242344549e4f282a6d7ed558d64f3c46304d1e8be17f89"), looks := false }, kinds := [], alts := [], laidByText := true, laidKinds := [.data, .pinned], laidTests := true, laidLooks := .later }
def BlockStepsUptoCardSaid : Prop := Claim7.holds Tryd.pinned (.plain (OpenSpec.upto blockStepsSpec)) blockStepsUptoCard

/-- THE SECOND FORM's CARD OF 'erratalaw05.BlockChecks'. -/
def blockChecksUptoCard : Claim7 := { stood := { row := blockChecksUptoRow, standIns := [], harness := (true, "433d3db5c80797030e242344549e4f282a6d7ed558d64f3c46304d1e8be17f89"), looks := false }, kinds := [], alts := [], laidByText := true, laidKinds := [.data, .pinned], laidTests := true, laidLooks := .later }
def BlockChecksUptoCardSaid : Prop := Claim7.holds Tryd.pinned (.plain (OpenSpec.upto blockChecksSpec)) blockChecksUptoCard

/-- THE SECOND FORM's CARD OF 'erratalaw05.BlockMay'. -/
def blockMayUptoCard : Claim7 := { stood := { row := blockMayUptoRow, standIns := [], harness := (true, "433d3db5c80797030e242344549e4f282a6d7ed558d64f3c46304d1e8be17f89"), looks := false }, kinds := [], alts := [], laidByText := true, laidKinds := [.data, .pinned], laidTests := true, laidLooks := .later }
def BlockMayUptoCardSaid : Prop := Claim7.holds Tryd.pinned (.plain (OpenSpec.upto blockMaySpec)) blockMayUptoCard
end Rows
end Go.Proofs.YtmfjbaepgfdfpaaDoor
