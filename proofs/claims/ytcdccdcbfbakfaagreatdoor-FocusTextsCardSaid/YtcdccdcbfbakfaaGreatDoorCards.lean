/-
  DERIVED. GIVEN WITH THE SEED: THE CARDS: each row of YtcdccdcbfbakfaaGreatDoorRows.lean that lists a variable, with what it lists TIED to the program's text (the seventh form; the later family's looks); each row that meets fmt, with fmt's text TOLD by the authors' own Lean function (tested against real Go, not proved from fmt's source: count such statements apart). THE CARD IS WHAT COUNTS. Prove the row's statement (the work); the ties are given (YtcdccdcbfbakfaaGreatDoorTie.lean); close each card by the builder's one call (the guide's Derived/Test/ToyasCard.lean, 'card_holds'). Laid BY PROGRAM, IN A SANDBOX (cutbox-door.mjs). By AI agents, Wed Nov 11 2026. No macro, syntax, notation, axiom, sorry.
-/
import Derived.Test.YtcdccdcbfbakfaaGreatDoorRows
import GoSem.ClaimSeven
namespace Go.Proofs.YtcdccdcbfbakfaaGreatDoor
namespace Rows

/-- THE TIED CARD OF 'couplantlaw05.FocusTexts'. -/
def focusTextsCard : Claim7 := { stood := { row := focusTextsRow, standIns := [], harness := (true, "12a60a56ef99518213230c8f7d7fed55a9ddfc7656b0d7c4ff384da299b75964"), looks := true }, kinds := [], alts := [], laidByText := true, laidKinds := [.data, .data, .data, .data, .sentinel, .sentinel, .pinned], laidTests := true, laidLooks := .later }
def FocusTextsCardSaid : Prop := Claim7.holds Tryz.pinned (.plain (OpenSpec.ofChange focusTextsSpec)) focusTextsCard

/-- THE SECOND FORM's CARD OF 'couplantlaw05.FocusTexts'. -/
def focusTextsUptoCard : Claim7 := { stood := { row := focusTextsUptoRow, standIns := [], harness := (true, "12a60a56ef99518213230c8f7d7fed55a9ddfc7656b0d7c4ff384da299b75964"), looks := true }, kinds := [], alts := [], laidByText := true, laidKinds := [.data, .data, .data, .data, .sentinel, .sentinel, .pinned], laidTests := true, laidLooks := .later }
def FocusTextsUptoCardSaid : Prop := Claim7.holds Tryz.pinned (.plain (OpenSpec.upto focusTextsSpec)) focusTextsUptoCard
end Rows
end Go.Proofs.YtcdccdcbfbakfaaGreatDoor
