/-
  DERIVED. GIVEN WITH THE SEED: THE CARDS: each row of YtgeieocphgnipaaGreatDoorRows.lean that lists a variable, with what it lists TIED to the program's text (the seventh form; the later family's looks); each row that meets fmt, with fmt's text TOLD by the authors' own Lean function (tested against real Go, not proved from fmt's source: count such statements apart). THE CARD IS WHAT COUNTS. Prove the row's statement (the work); the ties are given (YtgeieocphgnipaaGreatDoorTie.lean); close each card by the builder's one call (the guide's Derived/Test/ToyasCard.lean, 'card_holds'). Laid BY PROGRAM, IN A SANDBOX (cutbox-door.mjs). By AI agents, Wed Nov 11 2026. No macro, syntax, notation, axiom, sorry.
-/
import Derived.Test.YtgeieocphgnipaaGreatDoorRows
import GoSem.ClaimSeven
namespace Go.Proofs.YtgeieocphgnipaaGreatDoor
namespace Rows

/-- THE TIED CARD OF 'couplantlaw02.LawFoci'. -/
def lawFociCard : Claim7 := { stood := { row := lawFociRow, standIns := [], harness := (true, "edf788bde7f01a595ced99d6932ef65afefc56abb95618b09f052ef0460feb4d"), looks := true }, kinds := [], alts := [], laidByText := true, laidKinds := [.data, .data, .data, .data, .sentinel, .sentinel, .pinned], laidTests := true, laidLooks := .later }
def LawFociCardSaid : Prop := Claim7.holds Tryz.pinned (.plain (OpenSpec.ofChange lawFociSpec)) lawFociCard

/-- THE TIED CARD OF 'couplantlaw02.LawArrives'. -/
def lawArrivesCard : Claim7 := { stood := { row := lawArrivesRow, standIns := [], harness := (true, "edf788bde7f01a595ced99d6932ef65afefc56abb95618b09f052ef0460feb4d"), looks := true }, kinds := [], alts := [], laidByText := true, laidKinds := [.data, .data, .data, .data, .sentinel, .sentinel, .pinned], laidTests := true, laidLooks := .later }
def LawArrivesCardSaid : Prop := Claim7.holds Tryz.pinned (.plain (OpenSpec.ofChange lawArrivesSpec)) lawArrivesCard

/-- THE TIED CARD OF 'couplantlaw02.LawLosses'. -/
def lawLossesCard : Claim7 := { stood := { row := lawLossesRow, standIns := [], harness := (true, "edf788bde7f01a595ced99d6932ef65afefc56abb95618b09f052ef0460feb4d"), looks := true }, kinds := [], alts := [], laidByText := true, laidKinds := [.data, .data, .data, .data, .sentinel, .sentinel, .pinned], laidTests := true, laidLooks := .later }
def LawLossesCardSaid : Prop := Claim7.holds Tryz.pinned (.plain (OpenSpec.ofChange lawLossesSpec)) lawLossesCard

/-- THE TIED CARD OF 'couplantlaw02.LawChecks'. -/
def lawChecksCard : Claim7 := { stood := { row := lawChecksRow, standIns := [], harness := (true, "edf788bde7f01a595ced99d6932ef65afefc56abb95618b09f052ef0460feb4d"), looks := true }, kinds := [], alts := [], laidByText := true, laidKinds := [.data, .data, .data, .data, .sentinel, .sentinel, .pinned], laidTests := true, laidLooks := .later }
def LawChecksCardSaid : Prop := Claim7.holds Tryz.pinned (.plain (OpenSpec.ofChange lawChecksSpec)) lawChecksCard

/-- THE TIED CARD OF 'couplantlaw02.LawMeets'. -/
def lawMeetsCard : Claim7 := { stood := { row := lawMeetsRow, standIns := [], harness := (true, "edf788bde7f01a595ced99d6932ef65afefc56abb95618b09f052ef0460feb4d"), looks := true }, kinds := [], alts := [], laidByText := true, laidKinds := [.data, .data, .data, .data, .sentinel, .sentinel, .pinned], laidTests := true, laidLooks := .later }
def LawMeetsCardSaid : Prop := Claim7.holds Tryz.pinned (.plain (OpenSpec.ofChange lawMeetsSpec)) lawMeetsCard

/-- THE TIED CARD OF 'couplantlaw02.LawBest'. -/
def lawBestCard : Claim7 := { stood := { row := lawBestRow, standIns := [], harness := (true, "edf788bde7f01a595ced99d6932ef65afefc56abb95618b09f052ef0460feb4d"), looks := true }, kinds := [], alts := [], laidByText := true, laidKinds := [.data, .data, .data, .data, .sentinel, .sentinel, .pinned], laidTests := true, laidLooks := .later }
def LawBestCardSaid : Prop := Claim7.holds Tryz.pinned (.plain (OpenSpec.ofChange lawBestSpec)) lawBestCard

/-- THE TIED CARD OF 'couplantlaw02.LawApertures'. -/
def lawAperturesCard : Claim7 := { stood := { row := lawAperturesRow, standIns := [], harness := (true, "edf788bde7f01a595ced99d6932ef65afefc56abb95618b09f052ef0460feb4d"), looks := true }, kinds := [], alts := [], laidByText := true, laidKinds := [.data, .data, .data, .data, .sentinel, .sentinel, .pinned], laidTests := true, laidLooks := .later }
def LawAperturesCardSaid : Prop := Claim7.holds Tryz.pinned (.plain (OpenSpec.ofChange lawAperturesSpec)) lawAperturesCard

/-- THE TIED CARD OF 'couplantlaw02.LawPlanes'. -/
def lawPlanesCard : Claim7 := { stood := { row := lawPlanesRow, standIns := [], harness := (true, "edf788bde7f01a595ced99d6932ef65afefc56abb95618b09f052ef0460feb4d"), looks := true }, kinds := [], alts := [], laidByText := true, laidKinds := [.data, .data, .data, .data, .sentinel, .sentinel, .pinned], laidTests := true, laidLooks := .later }
def LawPlanesCardSaid : Prop := Claim7.holds Tryz.pinned (.plain (OpenSpec.ofChange lawPlanesSpec)) lawPlanesCard

/-- THE TIED CARD OF 'couplantlaw02.LawLobes'. -/
def lawLobesCard : Claim7 := { stood := { row := lawLobesRow, standIns := [], harness := (true, "edf788bde7f01a595ced99d6932ef65afefc56abb95618b09f052ef0460feb4d"), looks := true }, kinds := [], alts := [], laidByText := true, laidKinds := [.data, .data, .data, .data, .sentinel, .sentinel, .pinned], laidTests := true, laidLooks := .later }
def LawLobesCardSaid : Prop := Claim7.holds Tryz.pinned (.plain (OpenSpec.ofChange lawLobesSpec)) lawLobesCard

/-- THE TIED CARD OF 'couplantlaw02.LawClocks'. -/
def lawClocksCard : Claim7 := { stood := { row := lawClocksRow, standIns := [], harness := (true, "edf788bde7f01a595ced99d6932ef65afefc56abb95618b09f052ef0460feb4d"), looks := true }, kinds := [], alts := [], laidByText := true, laidKinds := [.data, .data, .data, .data, .sentinel, .sentinel, .pinned], laidTests := true, laidLooks := .later }
def LawClocksCardSaid : Prop := Claim7.holds Tryz.pinned (.plain (OpenSpec.ofChange lawClocksSpec)) lawClocksCard

/-- THE TIED CARD OF 'couplantlaw02.LawSums'. -/
def lawSumsCard : Claim7 := { stood := { row := lawSumsRow, standIns := [], harness := (true, "edf788bde7f01a595ced99d6932ef65afefc56abb95618b09f052ef0460feb4d"), looks := true }, kinds := [], alts := [], laidByText := true, laidKinds := [.data, .data, .data, .data, .sentinel, .sentinel, .pinned], laidTests := true, laidLooks := .later }
def LawSumsCardSaid : Prop := Claim7.holds Tryz.pinned (.plain (OpenSpec.ofChange lawSumsSpec)) lawSumsCard

/-- THE TIED CARD OF 'couplantlaw02.LawShifts'. -/
def lawShiftsCard : Claim7 := { stood := { row := lawShiftsRow, standIns := [], harness := (true, "edf788bde7f01a595ced99d6932ef65afefc56abb95618b09f052ef0460feb4d"), looks := true }, kinds := [], alts := [], laidByText := true, laidKinds := [.data, .data, .data, .data, .sentinel, .sentinel, .pinned], laidTests := true, laidLooks := .later }
def LawShiftsCardSaid : Prop := Claim7.holds Tryz.pinned (.plain (OpenSpec.ofChange lawShiftsSpec)) lawShiftsCard

/-- THE TIED CARD OF 'couplantlaw02.LawChanges'. -/
def lawChangesCard : Claim7 := { stood := { row := lawChangesRow, standIns := [], harness := (true, "edf788bde7f01a595ced99d6932ef65afefc56abb95618b09f052ef0460feb4d"), looks := true }, kinds := [], alts := [], laidByText := true, laidKinds := [.data, .data, .data, .data, .sentinel, .sentinel, .pinned], laidTests := true, laidLooks := .later }
def LawChangesCardSaid : Prop := Claim7.holds Tryz.pinned (.plain (OpenSpec.ofChange lawChangesSpec)) lawChangesCard

/-- THE TIED CARD OF 'couplantlaw02.LawTexts'. -/
def lawTextsCard : Claim7 := { stood := { row := lawTextsRow, standIns := [], harness := (true, "edf788bde7f01a595ced99d6932ef65afefc56abb95618b09f052ef0460feb4d"), looks := true }, kinds := [], alts := [], laidByText := true, laidKinds := [.data, .data, .data, .data, .sentinel, .sentinel, .pinned], laidTests := true, laidLooks := .later }
def LawTextsCardSaid : Prop := Claim7.holds Tryz.pinned (.plain (OpenSpec.ofChange lawTextsSpec)) lawTextsCard

/-- THE SECOND FORM's CARD OF 'couplantlaw02.LawFoci'. -/
def lawFociUptoCard : Claim7 := { stood := { row := lawFociUptoRow, standIns := [], harness := (true, "edf788bde7f01a595ced99d6932ef65afefc56abb95618b09f052ef0460feb4d"), looks := true }, kinds := [], alts := [], laidByText := true, laidKinds := [.data, .data, .data, .data, .sentinel, .sentinel, .pinned], laidTests := true, laidLooks := .later }
def LawFociUptoCardSaid : Prop := Claim7.holds Tryz.pinned (.plain (OpenSpec.upto lawFociSpec)) lawFociUptoCard

/-- THE SECOND FORM's CARD OF 'couplantlaw02.LawArrives'. -/
def lawArrivesUptoCard : Claim7 := { stood := { row := lawArrivesUptoRow, standIns := [], harness := (true, "edf788bde7f01a595ced99d6932ef65afefc56abb95618b09f052ef0460feb4d"), looks := true }, kinds := [], alts := [], laidByText := true, laidKinds := [.data, .data, .data, .data, .sentinel, .sentinel, .pinned], laidTests := true, laidLooks := .later }
def LawArrivesUptoCardSaid : Prop := Claim7.holds Tryz.pinned (.plain (OpenSpec.upto lawArrivesSpec)) lawArrivesUptoCard

/-- THE SECOND FORM's CARD OF 'couplantlaw02.LawLosses'. -/
def lawLossesUptoCard : Claim7 := { stood := { row := lawLossesUptoRow, standIns := [], harness := (true, "edf788bde7f01a595ced99d6932ef65afefc56abb95618b09f052ef0460feb4d"), looks := true }, kinds := [], alts := [], laidByText := true, laidKinds := [.data, .data, .data, .data, .sentinel, .sentinel, .pinned], laidTests := true, laidLooks := .later }
def LawLossesUptoCardSaid : Prop := Claim7.holds Tryz.pinned (.plain (OpenSpec.upto lawLossesSpec)) lawLossesUptoCard

/-- THE SECOND FORM's CARD OF 'couplantlaw02.LawChecks'. -/
def lawChecksUptoCard : Claim7 := { stood := { row := lawChecksUptoRow, standIns := [], harness := (true, "edf788bde7f01a595ced99d6932ef65afefc56abb95618b09f052ef0460feb4d"), looks := true }, kinds := [], alts := [], laidByText := true, laidKinds := [.data, .data, .data, .data, .sentinel, .sentinel, .pinned], laidTests := true, laidLooks := .later }
def LawChecksUptoCardSaid : Prop := Claim7.holds Tryz.pinned (.plain (OpenSpec.upto lawChecksSpec)) lawChecksUptoCard

/-- THE SECOND FORM's CARD OF 'couplantlaw02.LawMeets'. -/
def lawMeetsUptoCard : Claim7 := { stood := { row := lawMeetsUptoRow, standIns := [], harness := (true, "edf788bde7f01a595ced99d6932ef65afefc56abb95618b09f052ef0460feb4d"), looks := true }, kinds := [], alts := [], laidByText := true, laidKinds := [.data, .data, .data, .data, .sentinel, .sentinel, .pinned], laidTests := true, laidLooks := .later }
def LawMeetsUptoCardSaid : Prop := Claim7.holds Tryz.pinned (.plain (OpenSpec.upto lawMeetsSpec)) lawMeetsUptoCard

/-- THE SECOND FORM's CARD OF 'couplantlaw02.LawBest'. -/
def lawBestUptoCard : Claim7 := { stood := { row := lawBestUptoRow, standIns := [], harness := (true, "edf788bde7f01a595ced99d6932ef65afefc56abb95618b09f052ef0460feb4d"), looks := true }, kinds := [], alts := [], laidByText := true, laidKinds := [.data, .data, .data, .data, .sentinel, .sentinel, .pinned], laidTests := true, laidLooks := .later }
def LawBestUptoCardSaid : Prop := Claim7.holds Tryz.pinned (.plain (OpenSpec.upto lawBestSpec)) lawBestUptoCard

/-- THE SECOND FORM's CARD OF 'couplantlaw02.LawApertures'. -/
def lawAperturesUptoCard : Claim7 := { stood := { row := lawAperturesUptoRow, standIns := [], harness := (true, "edf788bde7f01a595ced99d6932ef65afefc56abb95618b09f052ef0460feb4d"), looks := true }, kinds := [], alts := [], laidByText := true, laidKinds := [.data, .data, .data, .data, .sentinel, .sentinel, .pinned], laidTests := true, laidLooks := .later }
def LawAperturesUptoCardSaid : Prop := Claim7.holds Tryz.pinned (.plain (OpenSpec.upto lawAperturesSpec)) lawAperturesUptoCard

/-- THE SECOND FORM's CARD OF 'couplantlaw02.LawPlanes'. -/
def lawPlanesUptoCard : Claim7 := { stood := { row := lawPlanesUptoRow, standIns := [], harness := (true, "edf788bde7f01a595ced99d6932ef65afefc56abb95618b09f052ef0460feb4d"), looks := true }, kinds := [], alts := [], laidByText := true, laidKinds := [.data, .data, .data, .data, .sentinel, .sentinel, .pinned], laidTests := true, laidLooks := .later }
def LawPlanesUptoCardSaid : Prop := Claim7.holds Tryz.pinned (.plain (OpenSpec.upto lawPlanesSpec)) lawPlanesUptoCard

/-- THE SECOND FORM's CARD OF 'couplantlaw02.LawLobes'. -/
def lawLobesUptoCard : Claim7 := { stood := { row := lawLobesUptoRow, standIns := [], harness := (true, "edf788bde7f01a595ced99d6932ef65afefc56abb95618b09f052ef0460feb4d"), looks := true }, kinds := [], alts := [], laidByText := true, laidKinds := [.data, .data, .data, .data, .sentinel, .sentinel, .pinned], laidTests := true, laidLooks := .later }
def LawLobesUptoCardSaid : Prop := Claim7.holds Tryz.pinned (.plain (OpenSpec.upto lawLobesSpec)) lawLobesUptoCard

/-- THE SECOND FORM's CARD OF 'couplantlaw02.LawClocks'. -/
def lawClocksUptoCard : Claim7 := { stood := { row := lawClocksUptoRow, standIns := [], harness := (true, "edf788bde7f01a595ced99d6932ef65afefc56abb95618b09f052ef0460feb4d"), looks := true }, kinds := [], alts := [], laidByText := true, laidKinds := [.data, .data, .data, .data, .sentinel, .sentinel, .pinned], laidTests := true, laidLooks := .later }
def LawClocksUptoCardSaid : Prop := Claim7.holds Tryz.pinned (.plain (OpenSpec.upto lawClocksSpec)) lawClocksUptoCard

/-- THE SECOND FORM's CARD OF 'couplantlaw02.LawSums'. -/
def lawSumsUptoCard : Claim7 := { stood := { row := lawSumsUptoRow, standIns := [], harness := (true, "edf788bde7f01a595ced99d6932ef65afefc56abb95618b09f052ef0460feb4d"), looks := true }, kinds := [], alts := [], laidByText := true, laidKinds := [.data, .data, .data, .data, .sentinel, .sentinel, .pinned], laidTests := true, laidLooks := .later }
def LawSumsUptoCardSaid : Prop := Claim7.holds Tryz.pinned (.plain (OpenSpec.upto lawSumsSpec)) lawSumsUptoCard

/-- THE SECOND FORM's CARD OF 'couplantlaw02.LawShifts'. -/
def lawShiftsUptoCard : Claim7 := { stood := { row := lawShiftsUptoRow, standIns := [], harness := (true, "edf788bde7f01a595ced99d6932ef65afefc56abb95618b09f052ef0460feb4d"), looks := true }, kinds := [], alts := [], laidByText := true, laidKinds := [.data, .data, .data, .data, .sentinel, .sentinel, .pinned], laidTests := true, laidLooks := .later }
def LawShiftsUptoCardSaid : Prop := Claim7.holds Tryz.pinned (.plain (OpenSpec.upto lawShiftsSpec)) lawShiftsUptoCard

/-- THE SECOND FORM's CARD OF 'couplantlaw02.LawChanges'. -/
def lawChangesUptoCard : Claim7 := { stood := { row := lawChangesUptoRow, standIns := [], harness := (true, "edf788bde7f01a595ced99d6932ef65afefc56abb95618b09f052ef0460feb4d"), looks := true }, kinds := [], alts := [], laidByText := true, laidKinds := [.data, .data, .data, .data, .sentinel, .sentinel, .pinned], laidTests := true, laidLooks := .later }
def LawChangesUptoCardSaid : Prop := Claim7.holds Tryz.pinned (.plain (OpenSpec.upto lawChangesSpec)) lawChangesUptoCard

/-- THE SECOND FORM's CARD OF 'couplantlaw02.LawTexts'. -/
def lawTextsUptoCard : Claim7 := { stood := { row := lawTextsUptoRow, standIns := [], harness := (true, "edf788bde7f01a595ced99d6932ef65afefc56abb95618b09f052ef0460feb4d"), looks := true }, kinds := [], alts := [], laidByText := true, laidKinds := [.data, .data, .data, .data, .sentinel, .sentinel, .pinned], laidTests := true, laidLooks := .later }
def LawTextsUptoCardSaid : Prop := Claim7.holds Tryz.pinned (.plain (OpenSpec.upto lawTextsSpec)) lawTextsUptoCard
end Rows
end Go.Proofs.YtgeieocphgnipaaGreatDoor
