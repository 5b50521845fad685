/- Contracts over the abstract machine: package law: apertures, plain laws. Conditions: none. -/
import Derived.Test.YtgeieocphgnipaaGreatDoorF9
set_option linter.unusedVariables false
set_option linter.unusedSimpArgs false
-- mini
namespace Go.Proofs.YtgeieocphgnipaaGreatDoor.Am.M
open Go
/-- A law without some elements. -/
def wthL (t : List Int) (dead : List Int) : List Int := t.mapIdx fun i n => if dead.any (fun d => decide (d = (i : Int))) = true then -1 else n
theorem wth_len (t dead : List Int) : (wthL t dead).length = t.length := by unfold wthL; rw [List.length_mapIdx]
end Go.Proofs.YtgeieocphgnipaaGreatDoor.Am.M
