/- Contracts over the abstract machine: package law: senders. Conditions: none. -/
import Derived.Test.YtgeieocphgnipaaGreatDoorF1
set_option linter.unusedVariables false
set_option linter.unusedSimpArgs false
-- mini
namespace Go.Proofs.YtgeieocphgnipaaGreatDoor.Am.M
open Go

/-- The elements that send, with their ticks. -/
def sndTo (l : List Int) : Nat → List (Int × Int)
  | 0 => []
  | k + 1 => sndTo l k ++ (match l[k]? with
    | some n => if 0 ≤ n then [((k : Int), n)] else []
    | none => [])
theorem sndTo_yes {l : List Int} {k : Nat} {n : Int} (h : l[k]? = some n) (hn : 0 ≤ n) : sndTo l (k + 1) = sndTo l k ++ [((k : Int), n)] := by simp [sndTo, h, hn]
theorem sndTo_no {l : List Int} {k : Nat} {n : Int} (h : l[k]? = some n) (hn : ¬ 0 ≤ n) : sndTo l (k + 1) = sndTo l k := by simp [sndTo, h, hn]
end Go.Proofs.YtgeieocphgnipaaGreatDoor.Am.M
