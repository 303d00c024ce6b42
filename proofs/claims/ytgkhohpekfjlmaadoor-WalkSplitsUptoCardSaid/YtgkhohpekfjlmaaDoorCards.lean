/-
  DERIVED. GIVEN WITH THE SEED: THE CARDS: each row of YtgkhohpekfjlmaaDoorRows.lean that lists a variable, with what it lists TIED to the program's text (the seventh form; the later family's looks); each row that meets fmt, with fmt's text TOLD by the authors' own Lean function (tested against real Go, not proved from fmt's source: count such statements apart). THE CARD IS WHAT COUNTS. Prove the row's statement (the work); the ties are given (YtgkhohpekfjlmaaDoorTie.lean); close each card by the builder's one call (the guide's Derived/Test/ToyasCard.lean, 'card_holds'). Laid BY PROGRAM, IN A SANDBOX (cutbox-door.mjs). By AI agents, Wed Nov 11 2026. No macro, syntax, notation, axiom, sorry.
-/
import Derived.Test.YtgkhohpekfjlmaaDoorRows
import GoSem.ClaimSeven
namespace Go.Proofs.YtgkhohpekfjlmaaDoor
namespace Rows

/-- THE TIED CARD OF 'erratalaw11.WalkStates'. -/
def walkStatesCard : Claim7 := { stood := { row := walkStatesRow, standIns := [], harness := (true, "a0fe85a2824b5cce62e5900b218904cb902baf9c3a298a57ddf41379eb0a11d2"), looks := false }, kinds := [], alts := [], laidByText := true, laidKinds := [.data, .pinned], laidTests := true, laidLooks := .later }
def WalkStatesCardSaid : Prop := Claim7.holds Tryd.pinned (.plain (OpenSpec.ofChange walkStatesSpec)) walkStatesCard

/-- THE TIED CARD OF 'erratalaw11.WalkCompletes'. -/
def walkCompletesCard : Claim7 := { stood := { row := walkCompletesRow, standIns := [], harness := (true, "a0fe85a2824b5cce62e5900b218904cb902baf9c3a298a57ddf41379eb0a11d2"), looks := false }, kinds := [], alts := [], laidByText := true, laidKinds := [.data, .pinned], laidTests := true, laidLooks := .later }
def WalkCompletesCardSaid : Prop := Claim7.holds Tryd.pinned (.plain (OpenSpec.ofChange walkCompletesSpec)) walkCompletesCard

/-- THE TIED CARD OF 'erratalaw11.WalkMore'. -/
def walkMoreCard : Claim7 := { stood := { row := walkMoreRow, standIns := [], harness := (true, "a0fe85a2824b5cce62e5900b218904cb902baf9c3a298a57ddf41379eb0a11d2"), looks := false }, kinds := [], alts := [], laidByText := true, laidKinds := [.data, .pinned], laidTests := true, laidLooks := .later }
def WalkMoreCardSaid : Prop := Claim7.holds Tryd.pinned (.plain (OpenSpec.ofChange walkMoreSpec)) walkMoreCard

/-- THE TIED CARD OF 'erratalaw11.WalkLongest'. -/
def walkLongestCard : Claim7 := { stood := { row := walkLongestRow, standIns := [], harness := (true, "a0fe85a2824b5cce62e5900b218904cb902baf9c3a298a57ddf41379eb0a11d2"), looks := false }, kinds := [], alts := [], laidByText := true, laidKinds := [.data, .pinned], laidTests := true, laidLooks := .later }
def WalkLongestCardSaid : Prop := Claim7.holds Tryd.pinned (.plain (OpenSpec.ofChange walkLongestSpec)) walkLongestCard

/-- THE TIED CARD OF 'erratalaw11.WalkCounts'. -/
def walkCountsCard : Claim7 := { stood := { row := walkCountsRow, standIns := [], harness := (true, "a0fe85a2824b5cce62e5900b218904cb902baf9c3a298a57ddf41379eb0a11d2"), looks := false }, kinds := [], alts := [], laidByText := true, laidKinds := [.data, .pinned], laidTests := true, laidLooks := .later }
def WalkCountsCardSaid : Prop := Claim7.holds Tryd.pinned (.plain (OpenSpec.ofChange walkCountsSpec)) walkCountsCard

/-- THE TIED CARD OF 'erratalaw11.WalkSplits'. -/
def walkSplitsCard : Claim7 := { stood := { row := walkSplitsRow, standIns := [], harness := (true, "a0fe85a2824b5cce62e5900b218904cb902baf9c3a298a57ddf41379eb0a11d2"), looks := false }, kinds := [], alts := [], laidByText := true, laidKinds := [.data, .pinned], laidTests := true, laidLooks := .later }
def WalkSplitsCardSaid : Prop := Claim7.holds Tryd.pinned (.plain (OpenSpec.ofChange walkSplitsSpec)) walkSplitsCard

/-- THE SECOND FORM's CARD OF 'erratalaw11.WalkStates'. -/
def walkStatesUptoCard : Claim7 := { stood := { row := walkStatesUptoRow, standIns := [], harness := (true, "a0fe85a2824b5cce62e5900b218904cb902baf9c3a298a57ddf41379eb0a11d2"), looks := false }, kinds := [], alts := [], laidByText := true, laidKinds := [.data, .pinned], laidTests := true, laidLooks := .later }
def WalkStatesUptoCardSaid : Prop := Claim7.holds Tryd.pinned (.plain (OpenSpec.upto walkStatesSpec)) walkStatesUptoCard

/-- THE SECOND FORM's CARD OF 'erratalaw11.WalkCompletes'. -/
def walkCompletesUptoCard : Claim7 := { stood := { row := walkCompletesUptoRow, standIns := [], harness := (true, "a0fe85a2824b5cce62e5900b218904cb902baf9c3a298a57ddf41379eb0a11d2"), looks := false }, kinds := [], alts := [], laidByText := true, laidKinds := [.data, .pinned], laidTests := true, laidLooks := .later }
def WalkCompletesUptoCardSaid : Prop := Claim7.holds Tryd.pinned (.plain (OpenSpec.upto walkCompletesSpec)) walkCompletesUptoCard

/-- THE SECOND FORM's CARD OF 'erratalaw11.WalkMore'. -/
def walkMoreUptoCard : Claim7 := { stood := { row := walkMoreUptoRow, standIns := [], harness := (true, "a0fe85a2824b5cce62e5900b218904cb902baf9c3a298a57ddf41379eb0a11d2"), looks := false }, kinds := [], alts := [], laidByText := true, laidKinds := [.data, .pinned], laidTests := true, laidLooks := .later }
def WalkMoreUptoCardSaid : Prop := Claim7.holds Tryd.pinned (.plain (OpenSpec.upto walkMoreSpec)) walkMoreUptoCard

/-- THE SECOND FORM's CARD OF 'erratalaw11.WalkLongest'. -/
def walkLongestUptoCard : Claim7 := { stood := { row := walkLongestUptoRow, standIns := [], harness := (true, "a0fe85a2824b5cce62e5900b218904cb902baf9c3a298a57ddf41379eb0a11d2"), looks := false }, kinds := [], alts := [], laidByText := true, laidKinds := [.data, .pinned], laidTests := true, laidLooks := .later }
def WalkLongestUptoCardSaid : Prop := Claim7.holds Tryd.pinned (.plain (OpenSpec.upto walkLongestSpec)) walkLongestUptoCard

/-- THE SECOND FORM's CARD OF 'erratalaw11.WalkCounts'. -/
def walkCountsUptoCard : Claim7 := { stood := { row := walkCountsUptoRow, standIns := [], harness := (true, "a0fe85a2824b5cce62e5900b218904cb902baf9c3a298a57ddf41379eb0a11d2"), looks := false }, kinds := [], alts := [], laidByText := true, laidKinds := [.data, .pinned], laidTests := true, laidLooks := .later }
def WalkCountsUptoCardSaid : Prop := Claim7.holds Tryd.pinned (.plain (OpenSpec.upto walkCountsSpec)) walkCountsUptoCard

/-- THE SECOND FORM's CARD OF 'erratalaw11.WalkSplits'. -/
def walkSplitsUptoCard : Claim7 := { stood := { row := walkSplitsUptoRow, standIns := [], harness := (true, "a0fe85a2824b5cce62e5900b218904cb902baf9c3a298a57ddf41379eb0a11d2"), looks := false }, kinds := [], alts := [], laidByText := true, laidKinds := [.data, .pinned], laidTests := true, laidLooks := .later }
def WalkSplitsUptoCardSaid : Prop := Claim7.holds Tryd.pinned (.plain (OpenSpec.upto walkSplitsSpec)) walkSplitsUptoCard
end Rows
end Go.Proofs.YtgkhohpekfjlmaaDoor
