/-
  DERIVED. GIVEN WITH THE SEED: THE CARDS: each row of YthpggoophcdgnaaDoorRows.lean that lists a variable, with what it lists TIED to the program's text (the seventh form; the later family's looks); each row that meets fmt, with fmt's text TOLD by the authors' own Lean function (tested against real Go, not proved from fmt's source: count such statements apart). THE CARD IS WHAT COUNTS. Prove the row's statement (the work); the ties are given (YthpggoophcdgnaaDoorTie.lean); close each card by the builder's one call (the guide's Derived/Test/ToyasCard.lean, 'card_holds'). Laid BY PROGRAM, IN A SANDBOX (cutbox-door.mjs). By AI agents, Wed Nov 11 2026. No macro, syntax, notation, axiom, sorry.
-/
import Derived.Test.YthpggoophcdgnaaDoorRows
import GoSem.ClaimSeven
namespace Go.Proofs.YthpggoophcdgnaaDoor
namespace Rows

/-- THE TIED CARD OF 'couplanttop.TopStricter'. -/
def topStricterCard : Claim7 := { stood := { row := topStricterRow, standIns := [], harness := (true, "2b43cd780f4f096e36461178898ea692e614e321294640b45f6831bf4b5b45af"), looks := false }, kinds := [], alts := [], laidByText := true, laidKinds := [.data, .data, .data], laidTests := true, laidLooks := .later }
def TopStricterCardSaid : Prop := Claim7.holds Tryd.pinned (.plain (OpenSpec.ofChange topStricterSpec)) topStricterCard

/-- THE SECOND FORM's CARD OF 'couplanttop.TopStricter'. -/
def topStricterUptoCard : Claim7 := { stood := { row := topStricterUptoRow, standIns := [], harness := (true, "2b43cd780f4f096e36461178898ea692e614e321294640b45f6831bf4b5b45af"), looks := false }, kinds := [], alts := [], laidByText := true, laidKinds := [.data, .data, .data], laidTests := true, laidLooks := .later }
def TopStricterUptoCardSaid : Prop := Claim7.holds Tryd.pinned (.plain (OpenSpec.upto topStricterSpec)) topStricterUptoCard
end Rows
end Go.Proofs.YthpggoophcdgnaaDoor
