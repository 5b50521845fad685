/- Contracts over the abstract machine: package law: Sending, Aperture. Conditions: none. -/
import Derived.Test.YtgeieocphgnipaaGreatDoorF2
set_option linter.unusedVariables false
set_option linter.unusedSimpArgs false
-- mini
namespace Go.Proofs.YtgeieocphgnipaaGreatDoor.Am.M
open Go

theorem sndTo_len {l : List Int} : ∀ {k : Nat}, (sndTo l k).length ≤ k
  | 0 => Nat.le_refl _
  | k + 1 => by
    have := sndTo_len (l := l) (k := k)
    unfold sndTo
    rw [List.length_append]
    cases l[k]? with
    | none => simp; omega
    | some n => simp only; split <;> simp <;> omega
structure DlyOk (x : Dly) : Prop where
  c1 : 1 ≤ x.ck
  c2 : x.ck ≤ 1000000
  n1 : 1 ≤ x.tk.length
  n2 : x.tk.length ≤ 16
  tk : ∀ n ∈ x.tk, -1 ≤ n ∧ n ≤ 1000000
theorem ckTk_ok : ∀ {l : List Int} {i : Nat}, (ckTk i l).2 = 0 → ∀ n ∈ l, -1 ≤ n ∧ n ≤ 1000000
  | [], _, _, n, h => by cases h
  | a :: l, i, h, n, hn => by
    unfold ckTk at h
    split at h
    · rename_i ha
      rcases List.mem_cons.1 hn with rfl | hn
      · simpa [inR] using ha
      · exact ckTk_ok h n hn
    · simp at h
theorem ckLaw_ok {x : Dly} (h : (ckLaw x).2 = 0) : DlyOk x ∧ ckLaw x = (0, 0) := by
  unfold ckLaw at h ⊢
  by_cases h0 : dlyE0 x ≠ 0
  · rw [if_pos h0] at h; exact absurd h h0
  rw [if_neg h0] at h ⊢
  have h1 := Decidable.not_not.1 h0
  unfold dlyE0 at h1
  rw [first_zero] at h1
  simp only [List.mem_cons, List.not_mem_nil, or_false, forall_eq_or_imp, forall_eq] at h1
  obtain ⟨k1, k2⟩ := h1
  have k3 : 1 ≤ x.ck ∧ x.ck ≤ 1000000 := by
    unfold clkE at k1; split at k1
    · rename_i q; simpa [inR] using q
    · cases k1
  have k4 : 1 ≤ x.tk.length ∧ x.tk.length ≤ 16 := by
    unfold cntE at k2; split at k2
    · cases k2
    · split at k2
      · cases k2
      · omega
  refine ⟨⟨k3.1, k3.2, k4.1, k4.2, ckTk_ok h⟩, ?_⟩
  have : ∀ {l : List Int} {i : Nat}, (ckTk i l).2 = 0 → ckTk i l = (0, 0) := by
    intro l
    induction l with
    | nil => intro i _; rfl
    | cons a l ih =>
      intro i h
      unfold ckTk at h ⊢
      split at h
      · rename_i q; rw [if_pos q]; exact ih h
      · simp at h
  exact this h
def sndL (x : Dly) : List (Int × Int) := sndTo x.tk x.tk.length
end Go.Proofs.YtgeieocphgnipaaGreatDoor.Am.M
