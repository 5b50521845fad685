/- Contracts over the abstract machine: the reference of slowness. Conditions: none. -/
import Derived.Test.YtgolkffigoabhaaC20
set_option linter.unusedVariables false
set_option linter.unusedSimpArgs false
namespace Go.Proofs.Ytgolkffigoabhaa.Am.M
open Go

def pairsR (l : List Arc) : Nat → List (Arc × Arc)
  | 0 => []
  | i + 1 => pairsR l i ++ (l.drop (i + 1)).map fun b => (l.getD i ⟨0, 0, 0⟩, b)
/-- Pairs of right arcs. -/
def PrOk (p : Arc × Arc) : Prop := ArcOk p.1 ∧ ArcOk p.2 ∧ p.1.r < p.2.r
theorem prOk_at {l : List Arc} (hok : ArcsOk l) {i k : Nat} {x y : Arc} (hx : l[i]? = some x) (hy : l[k]? = some y) (h : i < k) : PrOk (x, y) := by
  refine ⟨(hok.ok x (List.mem_of_getElem? hx)).1, (hok.ok y (List.mem_of_getElem? hy)).1, ?_⟩
  obtain ⟨h1, rfl⟩ := List.getElem?_eq_some_iff.1 hx
  obtain ⟨h2, rfl⟩ := List.getElem?_eq_some_iff.1 hy
  exact List.pairwise_iff_getElem.1 hok.asc i k h1 h2 h
/-- The pairs are those of two rows. -/
theorem mem_pairsR {l : List Arc} {p : Arc × Arc} : ∀ {i : Nat}, i ≤ l.length → (p ∈ pairsR l i ↔ ∃ a b, a < i ∧ a < b ∧ l[a]? = some p.1 ∧ l[b]? = some p.2)
  | 0, _ => by simp [pairsR]
  | i + 1, hi => by
    simp only [pairsR, List.mem_append, mem_pairsR (show i ≤ l.length by omega), List.mem_map]
    constructor
    · rintro (⟨a, b, h1, h2, h3, h4⟩ | ⟨y, hy, rfl⟩)
      · exact ⟨a, b, by omega, h2, h3, h4⟩
      · obtain ⟨j, hj⟩ := List.getElem?_of_mem hy
        rw [List.getElem?_drop] at hj
        exact ⟨i, i + 1 + j, by omega, by omega, by simp [show i < l.length by omega], hj⟩
    · rintro ⟨a, b, h1, h2, h3, h4⟩
      by_cases ha : a < i
      · exact .inl ⟨a, b, ha, h2, h3, h4⟩
      · have : a = i := by omega
        subst this
        right
        refine ⟨p.2, ?_, ?_⟩
        · refine List.mem_of_getElem? (i := b - (a + 1)) ?_
          rw [List.getElem?_drop, show a + 1 + (b - (a + 1)) = b by omega]; exact h4
        · rw [List.getD_eq_getElem?_getD, h3]; rfl
theorem pairsR_ok {l : List Arc} (hok : ArcsOk l) {i : Nat} (hi : i ≤ l.length) : ∀ p ∈ pairsR l i, PrOk p := fun p hp => by
  obtain ⟨a, b, h1, h2, h3, h4⟩ := (mem_pairsR hi).1 hp
  exact prOk_at hok h3 h4 h2
theorem pairsR_ne {l : List Arc} (hok : ArcsOk l) : pairsR l l.length ≠ [] := fun e => by
  have h2 := hok.two
  have : ((l[0]'(by omega)), (l[1]'(by omega))) ∈ pairsR l l.length := (mem_pairsR (Nat.le_refl _)).2 ⟨0, 1, by omega, by omega, by simp, by simp⟩
  rw [e] at this; cases this
end Go.Proofs.Ytgolkffigoabhaa.Am.M
