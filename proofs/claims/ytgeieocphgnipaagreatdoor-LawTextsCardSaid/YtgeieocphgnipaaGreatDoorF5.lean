/- Contracts over the abstract machine: package law: Aperture. Conditions: none. -/
import Derived.Test.YtgeieocphgnipaaGreatDoorF4
set_option linter.unusedVariables false
set_option linter.unusedSimpArgs false
-- mini
namespace Go.Proofs.YtgeieocphgnipaaGreatDoor.Am.M
open Go

theorem sndTo_in {l : List Int} {p : Int × Int} : ∀ {k : Nat}, k ≤ l.length → p ∈ sndTo l k → 0 ≤ p.1 ∧ p.1 < k ∧ l[p.1.toNat]? = some p.2 ∧ 0 ≤ p.2
  | 0, _, h => by cases h
  | k + 1, hk, h => by
    unfold sndTo at h
    rcases List.mem_append.1 h with h | h
    · obtain ⟨a, b, c, d⟩ := sndTo_in (k := k) (by omega) h
      exact ⟨a, by omega, c, d⟩
    · have hx := List.getElem?_eq_getElem (l := l) (i := k) (by omega)
      rw [hx] at h
      simp only at h
      split at h
      · rw [List.mem_singleton.1 h]
        exact ⟨by simp, by simp only; omega, by simp, by assumption⟩
      · cases h
end Go.Proofs.YtgeieocphgnipaaGreatDoor.Am.M
