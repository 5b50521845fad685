/-
  DERIVED. GIVEN WITH THE SEED: THE CARDS: each row of YtkbdnkjjklbddaaGreatDoorRows.lean that lists a variable, with what it lists TIED to the program's text (the seventh form; the later family's looks); each row that meets fmt, with fmt's text TOLD by the authors' own Lean function (tested against real Go, not proved from fmt's source: count such statements apart). THE CARD IS WHAT COUNTS. Prove the row's statement (the work); the ties are given (YtkbdnkjjklbddaaGreatDoorTie.lean); close each card by the builder's one call (the guide's Derived/Test/ToyasCard.lean, 'card_holds'). Laid BY PROGRAM, IN A SANDBOX (cutbox-door.mjs). By AI agents, Wed Nov 11 2026. No macro, syntax, notation, axiom, sorry.
-/
import Derived.Test.YtkbdnkjjklbddaaGreatDoorRows
import GoSem.ClaimSeven
namespace Go.Proofs.YtkbdnkjjklbddaaGreatDoor
namespace Rows

/-- THE TIED CARD OF 'couplantlaw04.BenchTexts'. -/
def benchTextsCard : Claim7 := { stood := { row := benchTextsRow, standIns := [], harness := (true, "16092638172bc6eb9727c0bbb88355c8d2eee8ebe62ea52574c92fe9a568c16c"), looks := true }, kinds := [], alts := [], laidByText := true, laidKinds := [.data, .data, .data, .data, .sentinel, .sentinel, .data, .pinned], laidTests := true, laidLooks := .later }
def BenchTextsCardSaid : Prop := Claim7.holds Tryz.pinned (.plain (OpenSpec.ofChange benchTextsSpec)) benchTextsCard

/-- THE SECOND FORM's CARD OF 'couplantlaw04.BenchTexts'. -/
def benchTextsUptoCard : Claim7 := { stood := { row := benchTextsUptoRow, standIns := [], harness := (true, "16092638172bc6eb9727c0bbb88355c8d2eee8ebe62ea52574c92fe9a568c16c"), looks := true }, kinds := [], alts := [], laidByText := true, laidKinds := [.data, .data, .data, .data, .sentinel, .sentinel, .data, .pinned], laidTests := true, laidLooks := .later }
def BenchTextsUptoCardSaid : Prop := Claim7.holds Tryz.pinned (.plain (OpenSpec.upto benchTextsSpec)) benchTextsUptoCard
end Rows
end Go.Proofs.YtkbdnkjjklbddaaGreatDoor
