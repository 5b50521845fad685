/-
  DERIVED. GIVEN WITH THE SEED: THE CARDS: each row of YtepaabbfindaeaaGreatDoorRows.lean that lists a variable, with what it lists TIED to the program's text (the seventh form; the later family's looks); each row that meets fmt, with fmt's text TOLD by the authors' own Lean function (tested against real Go, not proved from fmt's source: count such statements apart). THE CARD IS WHAT COUNTS. Prove the row's statement (the work); the ties are given (YtepaabbfindaeaaGreatDoorTie.lean); close each card by the builder's one call (the guide's Derived/Test/ToyasCard.lean, 'card_holds'). Laid BY PROGRAM, IN A SANDBOX (cutbox-door.mjs). By AI agents, Wed Nov 11 2026. No macro, syntax, notation, axiom, sorry.
-/
import Derived.Test.YtepaabbfindaeaaGreatDoorRows
import GoSem.ClaimSeven
namespace Go.Proofs.YtepaabbfindaeaaGreatDoor
namespace Rows

/-- THE TIED CARD OF 'couplantlaw06.TuneTexts'. -/
def tuneTextsCard : Claim7 := { stood := { row := tuneTextsRow, standIns := [], harness := (true, "41ef7c9c2cde64e126a125cdddce01b5128fd18d767bc507486fc452b4d3d9f0"), looks := true }, kinds := [], alts := [], laidByText := true, laidKinds := [.data, .data, .data, .data, .sentinel, .sentinel, .pinned], laidTests := true, laidLooks := .later }
def TuneTextsCardSaid : Prop := Claim7.holds Tryz.pinned (.plain (OpenSpec.ofChange tuneTextsSpec)) tuneTextsCard

/-- THE SECOND FORM's CARD OF 'couplantlaw06.TuneTexts'. -/
def tuneTextsUptoCard : Claim7 := { stood := { row := tuneTextsUptoRow, standIns := [], harness := (true, "41ef7c9c2cde64e126a125cdddce01b5128fd18d767bc507486fc452b4d3d9f0"), looks := true }, kinds := [], alts := [], laidByText := true, laidKinds := [.data, .data, .data, .data, .sentinel, .sentinel, .pinned], laidTests := true, laidLooks := .later }
def TuneTextsUptoCardSaid : Prop := Claim7.holds Tryz.pinned (.plain (OpenSpec.upto tuneTextsSpec)) tuneTextsUptoCard
end Rows
end Go.Proofs.YtepaabbfindaeaaGreatDoor
