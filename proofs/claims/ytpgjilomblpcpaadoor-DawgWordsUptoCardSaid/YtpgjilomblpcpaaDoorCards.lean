/-
  DERIVED. GIVEN WITH THE SEED: THE CARDS: each row of YtpgjilomblpcpaaDoorRows.lean that lists a variable, with what it lists TIED to the program's text (the seventh form; the later family's looks); each row that meets fmt, with fmt's text TOLD by the authors' own Lean function (tested against real Go, not proved from fmt's source: count such statements apart). THE CARD IS WHAT COUNTS. Prove the row's statement (the work); the ties are given (YtpgjilomblpcpaaDoorTie.lean); close each card by the builder's one call (the guide's Derived/Test/ToyasCard.lean, 'card_holds'). Laid BY PROGRAM, IN A SANDBOX (cutbox-door.mjs). By AI agents, Wed Nov 11 2026. No macro, syntax, notation, axiom, sorry.
-/
import Derived.Test.YtpgjilomblpcpaaDoorRows
import GoSem.ClaimSeven
namespace Go.Proofs.YtpgjilomblpcpaaDoor
namespace Rows

/-- THE TIED CARD OF 'erratalaw10.DawgStates'. -/
def dawgStatesCard : Claim7 := { stood := { row := dawgStatesRow, standIns := [], harness := (true, "aa805e9d608c5277d3fa26af1f15b3b41d92cb308a51b86436afc5f53f30e3fe"), looks := false }, kinds := [], alts := [], laidByText := true, laidKinds := [.data, .pinned], laidTests := true, laidLooks := .later }
def DawgStatesCardSaid : Prop := Claim7.holds Tryd.pinned (.plain (OpenSpec.ofChange dawgStatesSpec)) dawgStatesCard

/-- THE TIED CARD OF 'erratalaw10.DawgLeast'. -/
def dawgLeastCard : Claim7 := { stood := { row := dawgLeastRow, standIns := [], harness := (true, "aa805e9d608c5277d3fa26af1f15b3b41d92cb308a51b86436afc5f53f30e3fe"), looks := false }, kinds := [], alts := [], laidByText := true, laidKinds := [.data, .pinned], laidTests := true, laidLooks := .later }
def DawgLeastCardSaid : Prop := Claim7.holds Tryd.pinned (.plain (OpenSpec.ofChange dawgLeastSpec)) dawgLeastCard

/-- THE TIED CARD OF 'erratalaw10.DawgMore'. -/
def dawgMoreCard : Claim7 := { stood := { row := dawgMoreRow, standIns := [], harness := (true, "aa805e9d608c5277d3fa26af1f15b3b41d92cb308a51b86436afc5f53f30e3fe"), looks := false }, kinds := [], alts := [], laidByText := true, laidKinds := [.data, .pinned], laidTests := true, laidLooks := .later }
def DawgMoreCardSaid : Prop := Claim7.holds Tryd.pinned (.plain (OpenSpec.ofChange dawgMoreSpec)) dawgMoreCard

/-- THE TIED CARD OF 'erratalaw09.LexiconIs'. -/
def lexiconIsCard : Claim7 := { stood := { row := lexiconIsRow, standIns := [], harness := (true, "aa805e9d608c5277d3fa26af1f15b3b41d92cb308a51b86436afc5f53f30e3fe"), looks := false }, kinds := [], alts := [], laidByText := true, laidKinds := [.data, .pinned], laidTests := true, laidLooks := .later }
def LexiconIsCardSaid : Prop := Claim7.holds Tryd.pinned (.plain (OpenSpec.ofChange lexiconIsSpec)) lexiconIsCard

/-- THE TIED CARD OF 'erratalaw09.LexiconOnce'. -/
def lexiconOnceCard : Claim7 := { stood := { row := lexiconOnceRow, standIns := [], harness := (true, "aa805e9d608c5277d3fa26af1f15b3b41d92cb308a51b86436afc5f53f30e3fe"), looks := false }, kinds := [], alts := [], laidByText := true, laidKinds := [.data, .pinned], laidTests := true, laidLooks := .later }
def LexiconOnceCardSaid : Prop := Claim7.holds Tryd.pinned (.plain (OpenSpec.ofChange lexiconOnceSpec)) lexiconOnceCard

/-- THE TIED CARD OF 'erratalaw10.DawgAll'. -/
def dawgAllCard : Claim7 := { stood := { row := dawgAllRow, standIns := [], harness := (true, "aa805e9d608c5277d3fa26af1f15b3b41d92cb308a51b86436afc5f53f30e3fe"), looks := false }, kinds := [], alts := [], laidByText := true, laidKinds := [.data, .pinned], laidTests := true, laidLooks := .later }
def DawgAllCardSaid : Prop := Claim7.holds Tryd.pinned (.plain (OpenSpec.ofChange dawgAllSpec)) dawgAllCard

/-- THE TIED CARD OF 'erratalaw10.DawgFreqs'. -/
def dawgFreqsCard : Claim7 := { stood := { row := dawgFreqsRow, standIns := [], harness := (true, "aa805e9d608c5277d3fa26af1f15b3b41d92cb308a51b86436afc5f53f30e3fe"), looks := false }, kinds := [], alts := [], laidByText := true, laidKinds := [.data, .pinned], laidTests := true, laidLooks := .later }
def DawgFreqsCardSaid : Prop := Claim7.holds Tryd.pinned (.plain (OpenSpec.ofChange dawgFreqsSpec)) dawgFreqsCard

/-- THE TIED CARD OF 'erratalaw09.LexiconAll'. -/
def lexiconAllCard : Claim7 := { stood := { row := lexiconAllRow, standIns := [], harness := (true, "aa805e9d608c5277d3fa26af1f15b3b41d92cb308a51b86436afc5f53f30e3fe"), looks := false }, kinds := [], alts := [], laidByText := true, laidKinds := [.data, .pinned], laidTests := true, laidLooks := .later }
def LexiconAllCardSaid : Prop := Claim7.holds Tryd.pinned (.plain (OpenSpec.ofChange lexiconAllSpec)) lexiconAllCard

/-- THE TIED CARD OF 'erratalaw10.DawgEnds'. -/
def dawgEndsCard : Claim7 := { stood := { row := dawgEndsRow, standIns := [], harness := (true, "aa805e9d608c5277d3fa26af1f15b3b41d92cb308a51b86436afc5f53f30e3fe"), looks := false }, kinds := [], alts := [], laidByText := true, laidKinds := [.data, .pinned], laidTests := true, laidLooks := .later }
def DawgEndsCardSaid : Prop := Claim7.holds Tryd.pinned (.plain (OpenSpec.ofChange dawgEndsSpec)) dawgEndsCard

/-- THE TIED CARD OF 'erratalaw09.LexiconBegins'. -/
def lexiconBeginsCard : Claim7 := { stood := { row := lexiconBeginsRow, standIns := [], harness := (true, "aa805e9d608c5277d3fa26af1f15b3b41d92cb308a51b86436afc5f53f30e3fe"), looks := false }, kinds := [], alts := [], laidByText := true, laidKinds := [.data, .pinned], laidTests := true, laidLooks := .later }
def LexiconBeginsCardSaid : Prop := Claim7.holds Tryd.pinned (.plain (OpenSpec.ofChange lexiconBeginsSpec)) lexiconBeginsCard

/-- THE TIED CARD OF 'erratalaw10.DawgWords'. -/
def dawgWordsCard : Claim7 := { stood := { row := dawgWordsRow, standIns := [], harness := (true, "aa805e9d608c5277d3fa26af1f15b3b41d92cb308a51b86436afc5f53f30e3fe"), looks := false }, kinds := [], alts := [], laidByText := true, laidKinds := [.data, .pinned], laidTests := true, laidLooks := .later }
def DawgWordsCardSaid : Prop := Claim7.holds Tryd.pinned (.plain (OpenSpec.ofChange dawgWordsSpec)) dawgWordsCard

/-- THE TIED CARD OF 'erratalaw09.LexiconBest'. -/
def lexiconBestCard : Claim7 := { stood := { row := lexiconBestRow, standIns := [], harness := (true, "aa805e9d608c5277d3fa26af1f15b3b41d92cb308a51b86436afc5f53f30e3fe"), looks := false }, kinds := [], alts := [], laidByText := true, laidKinds := [.data, .pinned], laidTests := true, laidLooks := .later }
def LexiconBestCardSaid : Prop := Claim7.holds Tryd.pinned (.plain (OpenSpec.ofChange lexiconBestSpec)) lexiconBestCard

/-- THE TIED CARD OF 'erratalaw09.LexiconFinds'. -/
def lexiconFindsCard : Claim7 := { stood := { row := lexiconFindsRow, standIns := [], harness := (true, "aa805e9d608c5277d3fa26af1f15b3b41d92cb308a51b86436afc5f53f30e3fe"), looks := false }, kinds := [], alts := [], laidByText := true, laidKinds := [.data, .pinned], laidTests := true, laidLooks := .later }
def LexiconFindsCardSaid : Prop := Claim7.holds Tryd.pinned (.plain (OpenSpec.ofChange lexiconFindsSpec)) lexiconFindsCard

/-- THE SECOND FORM's CARD OF 'erratalaw10.DawgStates'. -/
def dawgStatesUptoCard : Claim7 := { stood := { row := dawgStatesUptoRow, standIns := [], harness := (true, "aa805e9d608c5277d3fa26af1f15b3b41d92cb308a51b86436afc5f53f30e3fe"), looks := false }, kinds := [], alts := [], laidByText := true, laidKinds := [.data, .pinned], laidTests := true, laidLooks := .later }
def DawgStatesUptoCardSaid : Prop := Claim7.holds Tryd.pinned (.plain (OpenSpec.upto dawgStatesSpec)) dawgStatesUptoCard

/-- THE SECOND FORM's CARD OF 'erratalaw10.DawgLeast'. -/
def dawgLeastUptoCard : Claim7 := { stood := { row := dawgLeastUptoRow, standIns := [], harness := (true, "aa805e9d608c5277d3fa26af1f15b3b41d92cb308a51b86436afc5f53f30e3fe"), looks := false }, kinds := [], alts := [], laidByText := true, laidKinds := [.data, .pinned], laidTests := true, laidLooks := .later }
def DawgLeastUptoCardSaid : Prop := Claim7.holds Tryd.pinned (.plain (OpenSpec.upto dawgLeastSpec)) dawgLeastUptoCard

/-- THE SECOND FORM's CARD OF 'erratalaw10.DawgMore'. -/
def dawgMoreUptoCard : Claim7 := { stood := { row := dawgMoreUptoRow, standIns := [], harness := (true, "aa805e9d608c5277d3fa26af1f15b3b41d92cb308a51b86436afc5f53f30e3fe"), looks := false }, kinds := [], alts := [], laidByText := true, laidKinds := [.data, .pinned], laidTests := true, laidLooks := .later }
def DawgMoreUptoCardSaid : Prop := Claim7.holds Tryd.pinned (.plain (OpenSpec.upto dawgMoreSpec)) dawgMoreUptoCard

/-- THE SECOND FORM's CARD OF 'erratalaw09.LexiconIs'. -/
def lexiconIsUptoCard : Claim7 := { stood := { row := lexiconIsUptoRow, standIns := [], harness := (true, "aa805e9d608c5277d3fa26af1f15b3b41d92cb308a51b86436afc5f53f30e3fe"), looks := false }, kinds := [], alts := [], laidByText := true, laidKinds := [.data, .pinned], laidTests := true, laidLooks := .later }
def LexiconIsUptoCardSaid : Prop := Claim7.holds Tryd.pinned (.plain (OpenSpec.upto lexiconIsSpec)) lexiconIsUptoCard

/-- THE SECOND FORM's CARD OF 'erratalaw09.LexiconOnce'. -/
def lexiconOnceUptoCard : Claim7 := { stood := { row := lexiconOnceUptoRow, standIns := [], harness := (true, "aa805e9d608c5277d3fa26af1f15b3b41d92cb308a51b86436afc5f53f30e3fe"), looks := false }, kinds := [], alts := [], laidByText := true, laidKinds := [.data, .pinned], laidTests := true, laidLooks := .later }
def LexiconOnceUptoCardSaid : Prop := Claim7.holds Tryd.pinned (.plain (OpenSpec.upto lexiconOnceSpec)) lexiconOnceUptoCard

/-- THE SECOND FORM's CARD OF 'erratalaw10.DawgAll'. -/
def dawgAllUptoCard : Claim7 := { stood := { row := dawgAllUptoRow, standIns := [], harness := (true, "aa805e9d608c5277d3fa26af1f15b3b41d92cb308a51b86436afc5f53f30e3fe"), looks := false }, kinds := [], alts := [], laidByText := true, laidKinds := [.data, .pinned], laidTests := true, laidLooks := .later }
def DawgAllUptoCardSaid : Prop := Claim7.holds Tryd.pinned (.plain (OpenSpec.upto dawgAllSpec)) dawgAllUptoCard

/-- THE SECOND FORM's CARD OF 'erratalaw10.DawgFreqs'. -/
def dawgFreqsUptoCard : Claim7 := { stood := { row := dawgFreqsUptoRow, standIns := [], harness := (true, "aa805e9d608c5277d3fa26af1f15b3b41d92cb308a51b86436afc5f53f30e3fe"), looks := false }, kinds := [], alts := [], laidByText := true, laidKinds := [.data, .pinned], laidTests := true, laidLooks := .later }
def DawgFreqsUptoCardSaid : Prop := Claim7.holds Tryd.pinned (.plain (OpenSpec.upto dawgFreqsSpec)) dawgFreqsUptoCard

/-- THE SECOND FORM's CARD OF 'erratalaw09.LexiconAll'. -/
def lexiconAllUptoCard : Claim7 := { stood := { row := lexiconAllUptoRow, standIns := [], harness := (true, "aa805e9d608c5277d3fa26af1f15b3b41d92cb308a51b86436afc5f53f30e3fe"), looks := false }, kinds := [], alts := [], laidByText := true, laidKinds := [.data, .pinned], laidTests := true, laidLooks := .later }
def LexiconAllUptoCardSaid : Prop := Claim7.holds Tryd.pinned (.plain (OpenSpec.upto lexiconAllSpec)) lexiconAllUptoCard

/-- THE SECOND FORM's CARD OF 'erratalaw10.DawgEnds'. -/
def dawgEndsUptoCard : Claim7 := { stood := { row := dawgEndsUptoRow, standIns := [], harness := (true, "aa805e9d608c5277d3fa26af1f15b3b41d92cb308a51b86436afc5f53f30e3fe"), looks := false }, kinds := [], alts := [], laidByText := true, laidKinds := [.data, .pinned], laidTests := true, laidLooks := .later }
def DawgEndsUptoCardSaid : Prop := Claim7.holds Tryd.pinned (.plain (OpenSpec.upto dawgEndsSpec)) dawgEndsUptoCard

/-- THE SECOND FORM's CARD OF 'erratalaw09.LexiconBegins'. -/
def lexiconBeginsUptoCard : Claim7 := { stood := { row := lexiconBeginsUptoRow, standIns := [], harness := (true, "aa805e9d608c5277d3fa26af1f15b3b41d92cb308a51b86436afc5f53f30e3fe"), looks := false }, kinds := [], alts := [], laidByText := true, laidKinds := [.data, .pinned], laidTests := true, laidLooks := .later }
def LexiconBeginsUptoCardSaid : Prop := Claim7.holds Tryd.pinned (.plain (OpenSpec.upto lexiconBeginsSpec)) lexiconBeginsUptoCard

/-- THE SECOND FORM's CARD OF 'erratalaw10.DawgWords'. -/
def dawgWordsUptoCard : Claim7 := { stood := { row := dawgWordsUptoRow, standIns := [], harness := (true, "aa805e9d608c5277d3fa26af1f15b3b41d92cb308a51b86436afc5f53f30e3fe"), looks := false }, kinds := [], alts := [], laidByText := true, laidKinds := [.data, .pinned], laidTests := true, laidLooks := .later }
def DawgWordsUptoCardSaid : Prop := Claim7.holds Tryd.pinned (.plain (OpenSpec.upto dawgWordsSpec)) dawgWordsUptoCard

/-- THE SECOND FORM's CARD OF 'erratalaw09.LexiconBest'. -/
def lexiconBestUptoCard : Claim7 := { stood := { row := lexiconBestUptoRow, standIns := [], harness := (true, "aa805e9d608c5277d3fa26af1f15b3b41d92cb308a51b86436afc5f53f30e3fe"), looks := false }, kinds := [], alts := [], laidByText := true, laidKinds := [.data, .pinned], laidTests := true, laidLooks := .later }
def LexiconBestUptoCardSaid : Prop := Claim7.holds Tryd.pinned (.plain (OpenSpec.upto lexiconBestSpec)) lexiconBestUptoCard

/-- THE SECOND FORM's CARD OF 'erratalaw09.LexiconFinds'. -/
def lexiconFindsUptoCard : Claim7 := { stood := { row := lexiconFindsUptoRow, standIns := [], harness := (true, "aa805e9d608c5277d3fa26af1f15b3b41d92cb308a51b86436afc5f53f30e3fe"), looks := false }, kinds := [], alts := [], laidByText := true, laidKinds := [.data, .pinned], laidTests := true, laidLooks := .later }
def LexiconFindsUptoCardSaid : Prop := Claim7.holds Tryd.pinned (.plain (OpenSpec.upto lexiconFindsSpec)) lexiconFindsUptoCard
end Rows
end Go.Proofs.YtpgjilomblpcpaaDoor
