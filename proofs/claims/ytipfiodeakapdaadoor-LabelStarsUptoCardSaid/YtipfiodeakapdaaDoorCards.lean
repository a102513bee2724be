/-
  DERIVED. GIVEN WITH THE SEED: THE CARDS: each row of YtipfiodeakapdaaDoorRows.lean that lists a variable, with what it lists TIED to the program's text (the seventh form; the later family's looks); each row that meets fmt, with fmt's text TOLD by the authors' own Lean function (tested against real Go, not proved from fmt's source: count such statements apart). THE CARD IS WHAT COUNTS. Prove the row's statement (the work); the ties are given (YtipfiodeakapdaaDoorTie.lean); close each card by the builder's one call (the guide's Derived/Test/ToyasCard.lean, 'card_holds'). Laid BY PROGRAM, IN A SANDBOX (cutbox-door.mjs). By AI agents, Wed Nov 11 2026. No macro, syntax, notation, axiom, sorry.
-/
import Derived.Test.YtipfiodeakapdaaDoorRows
import GoSem.ClaimSeven
namespace Go.Proofs.YtipfiodeakapdaaDoor
namespace Rows

/-- THE TIED CARD OF 'bailiwicklaw02.LabelTells'. -/
def labelTellsCard : Claim7 := { stood := { row := labelTellsRow, standIns := [], harness := (true, "ae9a63210f8ed049d7daff965fad5acfc1965c2f2a82b05e01f42a0805a9b9b5"), looks := false }, kinds := [], alts := [], laidByText := true, laidKinds := [.data, .pinned], laidTests := true, laidLooks := .later }
def LabelTellsCardSaid : Prop := Claim7.holds Tryd.pinned (.plain (OpenSpec.ofChange labelTellsSpec)) labelTellsCard

/-- THE TIED CARD OF 'bailiwicklaw02.LabelMatches'. -/
def labelMatchesCard : Claim7 := { stood := { row := labelMatchesRow, standIns := [], harness := (true, "ae9a63210f8ed049d7daff965fad5acfc1965c2f2a82b05e01f42a0805a9b9b5"), looks := false }, kinds := [], alts := [], laidByText := true, laidKinds := [.data, .pinned], laidTests := true, laidLooks := .later }
def LabelMatchesCardSaid : Prop := Claim7.holds Tryd.pinned (.plain (OpenSpec.ofChange labelMatchesSpec)) labelMatchesCard

/-- THE TIED CARD OF 'bailiwicklaw02.LabelFolds'. -/
def labelFoldsCard : Claim7 := { stood := { row := labelFoldsRow, standIns := [], harness := (true, "ae9a63210f8ed049d7daff965fad5acfc1965c2f2a82b05e01f42a0805a9b9b5"), looks := false }, kinds := [], alts := [], laidByText := true, laidKinds := [.data, .pinned], laidTests := true, laidLooks := .later }
def LabelFoldsCardSaid : Prop := Claim7.holds Tryd.pinned (.plain (OpenSpec.ofChange labelFoldsSpec)) labelFoldsCard

/-- THE TIED CARD OF 'bailiwicklaw02.LabelParts'. -/
def labelPartsCard : Claim7 := { stood := { row := labelPartsRow, standIns := [], harness := (true, "ae9a63210f8ed049d7daff965fad5acfc1965c2f2a82b05e01f42a0805a9b9b5"), looks := false }, kinds := [], alts := [], laidByText := true, laidKinds := [.data, .pinned], laidTests := true, laidLooks := .later }
def LabelPartsCardSaid : Prop := Claim7.holds Tryd.pinned (.plain (OpenSpec.ofChange labelPartsSpec)) labelPartsCard

/-- THE TIED CARD OF 'bailiwicklaw02.LabelStars'. -/
def labelStarsCard : Claim7 := { stood := { row := labelStarsRow, standIns := [], harness := (true, "ae9a63210f8ed049d7daff965fad5acfc1965c2f2a82b05e01f42a0805a9b9b5"), looks := false }, kinds := [], alts := [], laidByText := true, laidKinds := [.data, .pinned], laidTests := true, laidLooks := .later }
def LabelStarsCardSaid : Prop := Claim7.holds Tryd.pinned (.plain (OpenSpec.ofChange labelStarsSpec)) labelStarsCard

/-- THE TIED CARD OF 'bailiwicklaw02.LabelCase'. -/
def labelCaseCard : Claim7 := { stood := { row := labelCaseRow, standIns := [], harness := (true, "ae9a63210f8ed049d7daff965fad5acfc1965c2f2a82b05e01f42a0805a9b9b5"), looks := false }, kinds := [], alts := [], laidByText := true, laidKinds := [.data, .pinned], laidTests := true, laidLooks := .later }
def LabelCaseCardSaid : Prop := Claim7.holds Tryd.pinned (.plain (OpenSpec.ofChange labelCaseSpec)) labelCaseCard

/-- THE TIED CARD OF 'bailiwicklaw02.LabelLong'. -/
def labelLongCard : Claim7 := { stood := { row := labelLongRow, standIns := [], harness := (true, "ae9a63210f8ed049d7daff965fad5acfc1965c2f2a82b05e01f42a0805a9b9b5"), looks := false }, kinds := [], alts := [], laidByText := true, laidKinds := [.data, .pinned], laidTests := true, laidLooks := .later }
def LabelLongCardSaid : Prop := Claim7.holds Tryd.pinned (.plain (OpenSpec.ofChange labelLongSpec)) labelLongCard

/-- THE SECOND FORM's CARD OF 'bailiwicklaw02.LabelTells'. -/
def labelTellsUptoCard : Claim7 := { stood := { row := labelTellsUptoRow, standIns := [], harness := (true, "ae9a63210f8ed049d7daff965fad5acfc1965c2f2a82b05e01f42a0805a9b9b5"), looks := false }, kinds := [], alts := [], laidByText := true, laidKinds := [.data, .pinned], laidTests := true, laidLooks := .later }
def LabelTellsUptoCardSaid : Prop := Claim7.holds Tryd.pinned (.plain (OpenSpec.upto labelTellsSpec)) labelTellsUptoCard

/-- THE SECOND FORM's CARD OF 'bailiwicklaw02.LabelMatches'. -/
def labelMatchesUptoCard : Claim7 := { stood := { row := labelMatchesUptoRow, standIns := [], harness := (true, "ae9a63210f8ed049d7daff965fad5acfc1965c2f2a82b05e01f42a0805a9b9b5"), looks := false }, kinds := [], alts := [], laidByText := true, laidKinds := [.data, .pinned], laidTests := true, laidLooks := .later }
def LabelMatchesUptoCardSaid : Prop := Claim7.holds Tryd.pinned (.plain (OpenSpec.upto labelMatchesSpec)) labelMatchesUptoCard

/-- THE SECOND FORM's CARD OF 'bailiwicklaw02.LabelFolds'. -/
def labelFoldsUptoCard : Claim7 := { stood := { row := labelFoldsUptoRow, standIns := [], harness := (true, "ae9a63210f8ed049d7daff965fad5acfc1965c2f2a82b05e01f42a0805a9b9b5"), looks := false }, kinds := [], alts := [], laidByText := true, laidKinds := [.data, .pinned], laidTests := true, laidLooks := .later }
def LabelFoldsUptoCardSaid : Prop := Claim7.holds Tryd.pinned (.plain (OpenSpec.upto labelFoldsSpec)) labelFoldsUptoCard

/-- THE SECOND FORM's CARD OF 'bailiwicklaw02.LabelParts'. -/
def labelPartsUptoCard : Claim7 := { stood := { row := labelPartsUptoRow, standIns := [], harness := (true, "ae9a63210f8ed049d7daff965fad5acfc1965c2f2a82b05e01f42a0805a9b9b5"), looks := false }, kinds := [], alts := [], laidByText := true, laidKinds := [.data, .pinned], laidTests := true, laidLooks := .later }
def LabelPartsUptoCardSaid : Prop := Claim7.holds Tryd.pinned (.plain (OpenSpec.upto labelPartsSpec)) labelPartsUptoCard

/-- THE SECOND FORM's CARD OF 'bailiwicklaw02.LabelStars'. -/
def labelStarsUptoCard : Claim7 := { stood := { row := labelStarsUptoRow, standIns := [], harness := (true, "ae9a63210f8ed049d7daff965fad5acfc1965c2f2a82b05e01f42a0805a9b9b5"), looks := false }, kinds := [], alts := [], laidByText := true, laidKinds := [.data, .pinned], laidTests := true, laidLooks := .later }
def LabelStarsUptoCardSaid : Prop := Claim7.holds Tryd.pinned (.plain (OpenSpec.upto labelStarsSpec)) labelStarsUptoCard

/-- THE SECOND FORM's CARD OF 'bailiwicklaw02.LabelCase'. -/
def labelCaseUptoCard : Claim7 := { stood := { row := labelCaseUptoRow, standIns := [], harness := (true, "ae9a63210f8ed049d7daff965fad5acfc1965c2f2a82b05e01f42a0805a9b9b5"), looks := false }, kinds := [], alts := [], laidByText := true, laidKinds := [.data, .pinned], laidTests := true, laidLooks := .later }
def LabelCaseUptoCardSaid : Prop := Claim7.holds Tryd.pinned (.plain (OpenSpec.upto labelCaseSpec)) labelCaseUptoCard

/-- THE SECOND FORM's CARD OF 'bailiwicklaw02.LabelLong'. -/
def labelLongUptoCard : Claim7 := { stood := { row := labelLongUptoRow, standIns := [], harness := (true, "ae9a63210f8ed049d7daff965fad5acfc1965c2f2a82b05e01f42a0805a9b9b5"), looks := false }, kinds := [], alts := [], laidByText := true, laidKinds := [.data, .pinned], laidTests := true, laidLooks := .later }
def LabelLongUptoCardSaid : Prop := Claim7.holds Tryd.pinned (.plain (OpenSpec.upto labelLongSpec)) labelLongUptoCard
end Rows
end Go.Proofs.YtipfiodeakapdaaDoor
