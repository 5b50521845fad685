/- Contracts over the abstract machine: package law: plain laws of apertures. Conditions: none. -/
import Derived.Test.YtgeieocphgnipaaGreatDoorF10
set_option linter.unusedVariables false
set_option linter.unusedSimpArgs false
namespace Go.Proofs.YtgeieocphgnipaaGreatDoor.Am.M
open Go
theorem maxF_mem : ∀ {l : List Int}, l ≠ [] → maxF l ∈ l
  | [], h => absurd rfl h
  | x :: xs, _ => by
    have : ∀ (xs : List Int) (x : Int), xs.foldl max x ∈ x :: xs := by
      intro xs
      induction xs with
      | nil => intro x; simp
      | cons y ys ih =>
        intro x
        have := ih (max x y)
        simp only [List.foldl_cons]
        rcases List.mem_cons.1 this with h | h
        · rw [h]
          rcases Int.le_total x y with q | q
          · rw [Int.max_eq_right q]; simp
          · rw [Int.max_eq_left q]; simp
        · simp [h]
    exact this xs x
end Go.Proofs.YtgeieocphgnipaaGreatDoor.Am.M
