/- Contracts over the abstract machine: shifts: plain laws, LawShifts. Conditions: none. -/
import Derived.Test.YtgeieocphgnipaaGreatDoorG11
set_option linter.unusedVariables false
set_option linter.unusedSimpArgs false
-- mini
namespace Go.Proofs.YtgeieocphgnipaaGreatDoor.Am.M
open Go

theorem minF_add (c : Int) : ∀ {l : List Int}, l ≠ [] → minF (l.map (· + c)) = minF l + c
  | [], h => absurd rfl h
  | x :: xs, _ => by
    have : ∀ (ys : List Int) (z : Int), (ys.map (· + c)).foldl min (z + c) = ys.foldl min z + c := by
      intro ys
      induction ys with
      | nil => intro z; rfl
      | cons y ys ih =>
        intro z
        show (ys.map (· + c)).foldl min (min (z + c) (y + c)) = ys.foldl min (min z y) + c
        rw [show min (z + c) (y + c) = min z y + c by omega]
        exact ih _
    exact this xs x
end Go.Proofs.YtgeieocphgnipaaGreatDoor.Am.M
