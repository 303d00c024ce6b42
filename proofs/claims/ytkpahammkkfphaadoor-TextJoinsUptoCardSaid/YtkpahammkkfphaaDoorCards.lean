/-
  DERIVED. GIVEN WITH THE SEED: THE CARDS: each row of YtkpahammkkfphaaDoorRows.lean that lists a variable, with what it lists TIED to the program's text (the seventh form; the later family's looks); each row that meets fmt, with fmt's text TOLD by the authors' own Lean function (tested against real Go, not proved from fmt's source: count such statements apart). THE CARD IS WHAT COUNTS. Prove the row's statement (the work); the ties are given (YtkpahammkkfphaaDoorTie.lean); close each card by the builder's one call (the guide's Derived/Test/ToyasCard.lean, 'card_holds'). Laid BY PROGRAM, IN A SANDBOX (cutbox-door.mjs). By AI agents, Wed Nov 11 2026. No macro, syntax, notation, axiom, sorry.
-/
import Derived.Test.YtkpahammkkfphaaDoorRows
import GoSem.ClaimSeven
namespace Go.Proofs.YtkpahammkkfphaaDoor
namespace Rows

/-- THE TIED CARD OF 'erratalaw02.TextJoins'. -/
def textJoinsCard : Claim7 := { stood := { row := textJoinsRow, standIns := [], harness := (true, "e46d0cfcaf388e5a8ecb149562e6addf1c010a0828b7978e856d78d696f90009"), looks := false }, kinds := [], alts := [], laidByText := true, laidKinds := [.data, .pinned], laidTests := true, laidLooks := .later }
def TextJoinsCardSaid : Prop := Claim7.holds Tryd.pinned (.plain (OpenSpec.ofChange textJoinsSpec)) textJoinsCard

/-- THE TIED CARD OF 'erratalaw02.TextBack'. -/
def textBackCard : Claim7 := { stood := { row := textBackRow, standIns := [], harness := (true, "e46d0cfcaf388e5a8ecb149562e6addf1c010a0828b7978e856d78d696f90009"), looks := false }, kinds := [], alts := [], laidByText := true, laidKinds := [.data, .pinned], laidTests := true, laidLooks := .later }
def TextBackCardSaid : Prop := Claim7.holds Tryd.pinned (.plain (OpenSpec.ofChange textBackSpec)) textBackCard

/-- THE TIED CARD OF 'erratalaw02.TextRefuses'. -/
def textRefusesCard : Claim7 := { stood := { row := textRefusesRow, standIns := [], harness := (true, "e46d0cfcaf388e5a8ecb149562e6addf1c010a0828b7978e856d78d696f90009"), looks := false }, kinds := [], alts := [], laidByText := true, laidKinds := [.data, .pinned], laidTests := true, laidLooks := .later }
def TextRefusesCardSaid : Prop := Claim7.holds Tryd.pinned (.plain (OpenSpec.ofChange textRefusesSpec)) textRefusesCard

/-- THE SECOND FORM's CARD OF 'erratalaw02.TextJoins'. -/
def textJoinsUptoCard : Claim7 := { stood := { row := textJoinsUptoRow, standIns := [], harness := (true, "e46d0cfcaf388e5a8ecb149562e6addf1c010a0828b7978e856d78d696f90009"), looks := false }, kinds := [], alts := [], laidByText := true, laidKinds := [.data, .pinned], laidTests := true, laidLooks := .later }
def TextJoinsUptoCardSaid : Prop := Claim7.holds Tryd.pinned (.plain (OpenSpec.upto textJoinsSpec)) textJoinsUptoCard

/-- THE SECOND FORM's CARD OF 'erratalaw02.TextBack'. -/
def textBackUptoCard : Claim7 := { stood := { row := textBackUptoRow, standIns := [], harness := (true, "e46d0cfcaf388e5a8ecb149562e6addf1c010a0828b7978e856d78d696f90009"), looks := false }, kinds := [], alts := [], laidByText := true, laidKinds := [.data, .pinned], laidTests := true, laidLooks := .later }
def TextBackUptoCardSaid : Prop := Claim7.holds Tryd.pinned (.plain (OpenSpec.upto textBackSpec)) textBackUptoCard

/-- THE SECOND FORM's CARD OF 'erratalaw02.TextRefuses'. -/
def textRefusesUptoCard : Claim7 := { stood := { row := textRefusesUptoRow, standIns := [], harness := (true, "e46d0cfcaf388e5a8ecb149562e6addf1c010a0828b7978e856d78d696f90009"), looks := false }, kinds := [], alts := [], laidByText := true, laidKinds := [.data, .pinned], laidTests := true, laidLooks := .later }
def TextRefusesUptoCardSaid : Prop := Claim7.holds Tryd.pinned (.plain (OpenSpec.upto textRefusesSpec)) textRefusesUptoCard
end Rows
end Go.Proofs.YtkpahammkkfphaaDoor
