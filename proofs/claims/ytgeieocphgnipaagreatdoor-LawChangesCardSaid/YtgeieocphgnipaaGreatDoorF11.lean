/- Contracts over the abstract machine: package law: plain laws of apertures. Conditions: none. -/
import Derived.Test.YtgeieocphgnipaaGreatDoorF10
set_option linter.unusedVariables false
set_option linter.unusedSimpArgs false
namespace Go.Proofs.YtgeieocphgnipaaGreatDoor.Am.M
open Go
theorem maxF_mem : ∀ {l : List Int}, l ≠ [] → maxF l ∈ l
  | [], h => absurd rfl h
  | x :: xs, _ => by
    have : ∀ (xs : List Int) (x : Int), xs.foldl max x ∈ x :: xs := by
      intro xs
      induction xs with
      | nil => intro x; simp
      | cons y ys ih =>
        intro x
        have := ih (max x y)
        simp only [List.foldl_cons]
        rcases List.mem_cons.1 this with h | h
        · rw [h]
          rcases Int.le_total x y with q | q
          · rw [Int.max_eq_right q]; simp
          · rw [Int.max_eq_left q]; simp
        · simp [h]
    exact this xs x
theorem maxF_ge : ∀ {l : List Int} {x : Int}, x ∈ l → x ≤ maxF l
  | [], _, h => by cases h
  | y :: ys, x, h => by
    have : ∀ (xs : List Int) (x : Int), (∀ z ∈ xs, z ≤ xs.foldl max x) ∧ x ≤ xs.foldl max x := by
      intro xs
      induction xs with
      | nil => intro x; simp
      | cons y ys ih =>
        intro x
        obtain ⟨h1, h2⟩ := ih (max x y)
        simp only [List.foldl_cons, List.mem_cons]
        refine ⟨fun z hz => ?_, by have := Int.le_max_left x y; omega⟩
        rcases hz with rfl | hz
        · have := Int.le_max_right x z; omega
        · exact h1 z hz
    obtain ⟨h1, h2⟩ := this ys y
    rcases List.mem_cons.1 h with rfl | h
    · exact h2
    · exact h1 x h
theorem minF_neg : ∀ (l : List Int), minF l = -(maxF (l.map fun x => -x))
  | [] => rfl
  | x :: xs => by
    have : ∀ (xs : List Int) (x : Int), xs.foldl min x = -((xs.map fun x => -x).foldl max (-x)) := by
      intro xs
      induction xs with
      | nil => intro x; simp
      | cons y ys ih =>
        intro x
        simp only [List.foldl_cons, List.map_cons]
        rw [ih (min x y)]
        congr 2
        omega
    exact this xs x
theorem minF_le {l : List Int} {x : Int} (h : x ∈ l) : minF l ≤ x := by
  rw [minF_neg]
  have := maxF_ge (l := l.map fun x => -x) (x := -x) (List.mem_map.2 ⟨x, h, rfl⟩)
  omega

/-- The aperture of a law without some elements. -/
def wth (x : Dly) (dead : List Int) : Dly := ⟨x.ck, wthL x.tk dead⟩
theorem ckTk_zero : ∀ {l : List Int} {i : Nat}, (∀ n ∈ l, -1 ≤ n ∧ n ≤ 1000000) → ckTk i l = (0, 0)
  | [], _, _ => rfl
  | n :: l, i, h => by
    unfold ckTk
    rw [if_pos (by have := h n (by simp); simp [inR]; omega)]
    exact ckTk_zero fun m hm => h m (by simp [hm])
end Go.Proofs.YtgeieocphgnipaaGreatDoor.Am.M
