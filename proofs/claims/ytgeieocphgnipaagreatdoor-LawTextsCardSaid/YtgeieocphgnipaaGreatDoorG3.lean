/- Contracts over the abstract machine: package law: the steepest turn, laws of directions. Conditions: none. -/
import Derived.Test.YtgeieocphgnipaaGreatDoorG2
set_option linter.unusedVariables false
set_option linter.unusedSimpArgs false
-- mini
namespace Go.Proofs.YtgeieocphgnipaaGreatDoor.Am.M
open Go

structure LarOk (a : Lar) : Prop where
  n1 : 1 ≤ a.el.length
  n2 : a.el.length ≤ 16
  el : ∀ p ∈ a.el, -100000 ≤ p.1 ∧ p.1 ≤ 100000 ∧ -100000 ≤ p.2 ∧ p.2 < 0
  md : MdOk a.md
  c1 : 1 ≤ a.ck
  c2 : a.ck ≤ 1000000
theorem ckLEl_ok : ∀ {l : List (Int × Int)} {i : Nat}, (ckLEl i l).2 = 0 → (∀ p ∈ l, -100000 ≤ p.1 ∧ p.1 ≤ 100000 ∧ -100000 ≤ p.2 ∧ p.2 < 0) ∧ ckLEl i l = (0, 0)
  | [], _, _ => ⟨fun p hp => (by cases hp), rfl⟩
  | q :: l, i, h => by
    unfold ckLEl at h ⊢
    by_cases hq : lelE q ≠ 0
    · rw [if_pos hq] at h; exact absurd h hq
    · rw [if_neg hq] at h ⊢
      obtain ⟨h1, h2⟩ := ckLEl_ok h
      refine ⟨fun p hp => ?_, h2⟩
      rcases List.mem_cons.1 hp with rfl | hp
      · have hz := Decidable.not_not.1 hq
        unfold lelE at hz
        by_cases q1 : (!inR (-100000) p.1 100000 || !inR (-100000) p.2 100000) = true
        · rw [if_pos q1] at hz; cases hz
        · rw [if_neg q1] at hz
          by_cases q2 : 0 ≤ p.2
          · rw [if_pos q2] at hz; cases hz
          · simp [inR] at q1; omega
      · exact h1 p hp
theorem lar_ok {a : Lar} (h : (ckLar a).2 = 0) : LarOk a ∧ ckLar a = (0, 0) := by
  unfold ckLar at h ⊢
  by_cases h0 : cntE a.el.length ≠ 0
  · rw [if_pos h0] at h; exact absurd h h0
  rw [if_neg h0] at h ⊢
  have h1 := Decidable.not_not.1 h0
  by_cases h2 : (ckLEl 0 a.el).2 ≠ 0
  · rw [if_pos h2] at h; exact absurd h h2
  rw [if_neg h2] at h ⊢
  have h3 := ckLEl_ok (Decidable.not_not.1 h2)
  have h4 : firstE [modeE a.md, clkE a.ck] = 0 := h
  rw [h4]
  rw [first_zero] at h4
  simp only [List.mem_cons, List.not_mem_nil, or_false, forall_eq_or_imp, forall_eq] at h4
  obtain ⟨k1, k2⟩ := h4
  have k3 : 1 ≤ a.ck ∧ a.ck ≤ 1000000 := by
    unfold clkE at k2; split at k2
    · rename_i q; simpa [inR] using q
    · cases k2
  have k4 : 1 ≤ a.el.length ∧ a.el.length ≤ 16 := by
    unfold cntE at h1; split at h1
    · cases h1
    · split at h1
      · cases h1
      · omega
  exact ⟨⟨k4.1, k4.2, h3.1, mode_ok.1 k1, k3.1, k3.2⟩, rfl⟩

end Go.Proofs.YtgeieocphgnipaaGreatDoor.Am.M
