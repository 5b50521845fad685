/- Contracts over the abstract machine: package law: senders. Conditions: none. -/
import Derived.Test.YtgeieocphgnipaaGreatDoorF1
set_option linter.unusedVariables false
set_option linter.unusedSimpArgs false
-- mini
namespace Go.Proofs.YtgeieocphgnipaaGreatDoor.Am.M
open Go

/-- The elements that send, with their ticks. -/
def sndTo (l : List Int) : Nat → List (Int × Int)
  | 0 => []
  | k + 1 => sndTo l k ++ (match l[k]? with
    | some n => if 0 ≤ n then [((k : Int), n)] else []
    | none => [])
theorem sndTo_yes {l : List Int} {k : Nat} {n : Int} (h : l[k]? = some n) (hn : 0 ≤ n) : sndTo l (k + 1) = sndTo l k ++ [((k : Int), n)] := by simp [sndTo, h, hn]
theorem sndTo_no {l : List Int} {k : Nat} {n : Int} (h : l[k]? = some n) (hn : ¬ 0 ≤ n) : sndTo l (k + 1) = sndTo l k := by simp [sndTo, h, hn]
theorem sndTo_pre {l : List Int} {j : Nat} : ∀ {k : Nat}, j ≤ k → sndTo l j <+: sndTo l k
  | 0, h => by have : j = 0 := by omega
               subst this; exact List.prefix_rfl
  | k + 1, h => by
    by_cases e : j = k + 1
    · subst e; exact List.prefix_rfl
    · exact (sndTo_pre (show j ≤ k by omega)).trans (List.prefix_append _ _)
end Go.Proofs.YtgeieocphgnipaaGreatDoor.Am.M
