/-
  DERIVED. GIVEN WITH THE SEED: THE CARDS: each row of YtfkejbbajggmnaaDoorRows.lean that lists a variable, with what it lists TIED to the program's text (the seventh form; the later family's looks); each row that meets fmt, with fmt's text TOLD by the authors' own Lean function (tested against real Go, not proved from fmt's source: count such statements apart). THE CARD IS WHAT COUNTS. Prove the row's statement (the work); the ties are given (YtfkejbbajggmnaaDoorTie.lean); close each card by the builder's one call (the guide's Derived/Test/ToyasCard.lean, 'card_holds'). Laid BY PROGRAM, IN A SANDBOX (cutbox-door.mjs). By AI agents, Wed Nov 11 2026. No macro, syntax, notation, axiom, sorry.
-/
import Derived.Test.YtfkejbbajggmnaaDoorRows
import GoSem.ClaimSeven
namespace Go.Proofs.YtfkejbbajggmnaaDoor
namespace Rows

/-- THE TIED CARD OF 'erratalaw15.RankOrders'. -/
def rankOrdersCard : Claim7 := { stood := { row := rankOrdersRow, standIns := [], harness := (true, "da2eb29901288c8ff4871f16f1890b0feaba13827afc25013069c1a92725010f"), looks := false }, kinds := [], alts := [], laidByText := true, laidKinds := [.data, .pinned], laidTests := true, laidLooks := .later }
def RankOrdersCardSaid : Prop := Claim7.holds Tryd.pinned (.plain (OpenSpec.ofChange rankOrdersSpec)) rankOrdersCard

/-- THE TIED CARD OF 'erratalaw15.RankLess'. -/
def rankLessCard : Claim7 := { stood := { row := rankLessRow, standIns := [], harness := (true, "da2eb29901288c8ff4871f16f1890b0feaba13827afc25013069c1a92725010f"), looks := false }, kinds := [], alts := [], laidByText := true, laidKinds := [.data, .pinned], laidTests := true, laidLooks := .later }
def RankLessCardSaid : Prop := Claim7.holds Tryd.pinned (.plain (OpenSpec.ofChange rankLessSpec)) rankLessCard

/-- THE TIED CARD OF 'erratalaw15.RankPlaces'. -/
def rankPlacesCard : Claim7 := { stood := { row := rankPlacesRow, standIns := [], harness := (true, "da2eb29901288c8ff4871f16f1890b0feaba13827afc25013069c1a92725010f"), looks := false }, kinds := [], alts := [], laidByText := true, laidKinds := [.data, .pinned], laidTests := true, laidLooks := .later }
def RankPlacesCardSaid : Prop := Claim7.holds Tryd.pinned (.plain (OpenSpec.ofChange rankPlacesSpec)) rankPlacesCard

/-- THE TIED CARD OF 'erratalaw15.RankStands'. -/
def rankStandsCard : Claim7 := { stood := { row := rankStandsRow, standIns := [], harness := (true, "da2eb29901288c8ff4871f16f1890b0feaba13827afc25013069c1a92725010f"), looks := false }, kinds := [], alts := [], laidByText := true, laidKinds := [.data, .pinned], laidTests := true, laidLooks := .later }
def RankStandsCardSaid : Prop := Claim7.holds Tryd.pinned (.plain (OpenSpec.ofChange rankStandsSpec)) rankStandsCard

/-- THE TIED CARD OF 'erratalaw15.RankParts'. -/
def rankPartsCard : Claim7 := { stood := { row := rankPartsRow, standIns := [], harness := (true, "da2eb29901288c8ff4871f16f1890b0feaba13827afc25013069c1a92725010f"), looks := false }, kinds := [], alts := [], laidByText := true, laidKinds := [.data, .pinned], laidTests := true, laidLooks := .later }
def RankPartsCardSaid : Prop := Claim7.holds Tryd.pinned (.plain (OpenSpec.ofChange rankPartsSpec)) rankPartsCard

/-- THE TIED CARD OF 'erratalaw15.RankTops'. -/
def rankTopsCard : Claim7 := { stood := { row := rankTopsRow, standIns := [], harness := (true, "da2eb29901288c8ff4871f16f1890b0feaba13827afc25013069c1a92725010f"), looks := false }, kinds := [], alts := [], laidByText := true, laidKinds := [.data, .pinned], laidTests := true, laidLooks := .later }
def RankTopsCardSaid : Prop := Claim7.holds Tryd.pinned (.plain (OpenSpec.ofChange rankTopsSpec)) rankTopsCard

/-- THE TIED CARD OF 'erratalaw15.RankNone'. -/
def rankNoneCard : Claim7 := { stood := { row := rankNoneRow, standIns := [], harness := (true, "da2eb29901288c8ff4871f16f1890b0feaba13827afc25013069c1a92725010f"), looks := false }, kinds := [], alts := [], laidByText := true, laidKinds := [.data, .pinned], laidTests := true, laidLooks := .later }
def RankNoneCardSaid : Prop := Claim7.holds Tryd.pinned (.plain (OpenSpec.ofChange rankNoneSpec)) rankNoneCard

/-- THE SECOND FORM's CARD OF 'erratalaw15.RankOrders'. -/
def rankOrdersUptoCard : Claim7 := { stood := { row := rankOrdersUptoRow, standIns := [], harness := (true, "da2eb29901288c8ff4871f16f1890b0feaba13827afc25013069c1a92725010f"), looks := false }, kinds := [], alts := [], laidByText := true, laidKinds := [.data, .pinned], laidTests := true, laidLooks := .later }
def RankOrdersUptoCardSaid : Prop := Claim7.holds Tryd.pinned (.plain (OpenSpec.upto rankOrdersSpec)) rankOrdersUptoCard

/-- THE SECOND FORM's CARD OF 'erratalaw15.RankLess'. -/
def rankLessUptoCard : Claim7 := { stood := { row := rankLessUptoRow, standIns := [], harness := (true, "da2eb29901288c8ff4871f16f1890b0feaba13827afc25013069c1a92725010f"), looks := false }, kinds := [], alts := [], laidByText := true, laidKinds := [.data, .pinned], laidTests := true, laidLooks := .later }
def RankLessUptoCardSaid : Prop := Claim7.holds Tryd.pinned (.plain (OpenSpec.upto rankLessSpec)) rankLessUptoCard

/-- THE SECOND FORM's CARD OF 'erratalaw15.RankPlaces'. -/
def rankPlacesUptoCard : Claim7 := { stood := { row := rankPlacesUptoRow, standIns := [], harness := (true, "da2eb29901288c8ff4871f16f1890b0feaba13827afc25013069c1a92725010f"), looks := false }, kinds := [], alts := [], laidByText := true, laidKinds := [.data, .pinned], laidTests := true, laidLooks := .later }
def RankPlacesUptoCardSaid : Prop := Claim7.holds Tryd.pinned (.plain (OpenSpec.upto rankPlacesSpec)) rankPlacesUptoCard

/-- THE SECOND FORM's CARD OF 'erratalaw15.RankStands'. -/
def rankStandsUptoCard : Claim7 := { stood := { row := rankStandsUptoRow, standIns := [], harness := (true, "da2eb29901288c8ff4871f16f1890b0feaba13827afc25013069c1a92725010f"), looks := false }, kinds := [], alts := [], laidByText := true, laidKinds := [.data, .pinned], laidTests := true, laidLooks := .later }
def RankStandsUptoCardSaid : Prop := Claim7.holds Tryd.pinned (.plain (OpenSpec.upto rankStandsSpec)) rankStandsUptoCard

/-- THE SECOND FORM's CARD OF 'erratalaw15.RankParts'. -/
def rankPartsUptoCard : Claim7 := { stood := { row := rankPartsUptoRow, standIns := [], harness := (true, "da2eb29901288c8ff4871f16f1890b0feaba13827afc25013069c1a92725010f"), looks := false }, kinds := [], alts := [], laidByText := true, laidKinds := [.data, .pinned], laidTests := true, laidLooks := .later }
def RankPartsUptoCardSaid : Prop := Claim7.holds Tryd.pinned (.plain (OpenSpec.upto rankPartsSpec)) rankPartsUptoCard

/-- THE SECOND FORM's CARD OF 'erratalaw15.RankTops'. -/
def rankTopsUptoCard : Claim7 := { stood := { row := rankTopsUptoRow, standIns := [], harness := (true, "da2eb29901288c8ff4871f16f1890b0feaba13827afc25013069c1a92725010f"), looks := false }, kinds := [], alts := [], laidByText := true, laidKinds := [.data, .pinned], laidTests := true, laidLooks := .later }
def RankTopsUptoCardSaid : Prop := Claim7.holds Tryd.pinned (.plain (OpenSpec.upto rankTopsSpec)) rankTopsUptoCard

/-- THE SECOND FORM's CARD OF 'erratalaw15.RankNone'. -/
def rankNoneUptoCard : Claim7 := { stood := { row := rankNoneUptoRow, standIns := [], harness := (true, "da2eb29901288c8ff4871f16f1890b0feaba13827afc25013069c1a92725010f"), looks := false }, kinds := [], alts := [], laidByText := true, laidKinds := [.data, .pinned], laidTests := true, laidLooks := .later }
def RankNoneUptoCardSaid : Prop := Claim7.holds Tryd.pinned (.plain (OpenSpec.upto rankNoneSpec)) rankNoneUptoCard
end Rows
end Go.Proofs.YtfkejbbajggmnaaDoor
