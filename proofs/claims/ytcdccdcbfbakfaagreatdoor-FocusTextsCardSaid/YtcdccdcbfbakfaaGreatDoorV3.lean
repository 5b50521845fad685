/- Contracts over the abstract machine: what a text of powers says; plain laws. Conditions: none. -/
import Derived.Test.YtcdccdcbfbakfaaGreatDoorV2
set_option linter.unusedVariables false
set_option linter.unusedSimpArgs false
namespace Go.Proofs.YtcdccdcbfbakfaaGreatDoor.Am.M
open Go

def zG : Grd := ⟨0, 0, 0, 0, 0⟩
def grdS : ByteArray := ⟨#[103, 114, 105, 100]⟩
def numR (w : List ByteArray) (c : Int) : List Int × Bool := if (w.length : Int) ≠ c ∨ (∃ x ∈ w, (numI x).2 = false) then ([], false) else (w.map fun x => (numI x).1, true)
theorem numR_len {w : List ByteArray} {c : Int} (h : (w.length : Int) ≠ c) : numR w c = ([], false) := by unfold numR; rw [if_pos (.inl h)]
theorem numR_bad {w : List ByteArray} {c : Int} {x : ByteArray} (h : x ∈ w) (hx : (numI x).2 = false) : numR w c = ([], false) := by unfold numR; rw [if_pos (.inr ⟨x, h, hx⟩)]
theorem numR_good {w : List ByteArray} {c : Int} (h : (w.length : Int) = c) (hx : ∀ x ∈ w, (numI x).2 = true) : numR w c = (w.map fun x => (numI x).1, true) := by
  unfold numR
  rw [if_neg]
  rintro (q | ⟨x, q1, q2⟩)
  · exact q h
  · rw [hx x q1] at q2; cases q2
theorem numR_ok {w : List ByteArray} {c : Int} (h : (numR w c).2 = true) : (w.length : Int) = c ∧ (∀ x ∈ w, (numI x).2 = true) ∧ (numR w c).1 = w.map fun x => (numI x).1 := by
  by_cases h1 : (w.length : Int) = c
  · by_cases h2 : ∀ x ∈ w, (numI x).2 = true
    · exact ⟨h1, h2, by rw [numR_good h1 h2]⟩
    · obtain ⟨x, hx⟩ := Classical.not_forall.1 h2
      obtain ⟨q1, q2⟩ := Classical.not_imp.1 hx
      rw [numR_bad q1 (by simpa using q2)] at h; cases h
  · rw [numR_len h1] at h; cases h
def gdB (w : List ByteArray) : Bool := (numR (w.drop 1) 5).2 && (decide (w.getD 0 ⟨#[]⟩ = grdS) && (inR 1 ((numR (w.drop 1) 5).1.getD 2 0) 40 && inR 1 ((numR (w.drop 1) 5).1.getD 3 0) 40))
def gdV (l : List Int) : Grd := ⟨l.getD 0 0, l.getD 1 0, l.getD 2 0, l.getD 3 0, l.getD 4 0⟩
def gdR (s : ByteArray) : Grd × Bool := if gdB (pcs s) = true then (gdV (numR ((pcs s).drop 1) 5).1, true) else (zG, false)
def lnB (L : List (List UInt8)) (j : Nat) : ByteArray := mkB (L.getD j [])
def rwR (g : Grd) (L : List (List UInt8)) (j : Nat) : List Int × Bool := numR (pcs (lnB L j)) g.co
def rwBad (g : Grd) (L : List (List UInt8)) (j : Nat) : Bool := decide (L.length ≤ j + 1) || !(rwR g L j).2
def psF (g : Grd) (L : List (List UInt8)) : Nat → Nat → Nat
  | 0, j => j
  | n + 1, j => bif rwBad g L j then j else psF g L n (j + 1)
def psP (g : Grd) (L : List (List UInt8)) (k : Nat) : List Int := (List.range k).flatMap fun i => (rwR g L (i + 1)).1
theorem psP_succ (g : Grd) (L : List (List UInt8)) (k : Nat) : psP g L (k + 1) = psP g L k ++ (rwR g L (k + 1)).1 := by unfold psP; rw [List.range_succ, List.flatMap_append]; simp
def hdR (s : ByteArray) : Grd × Bool := gdR (lnB (cutN s.data.toList) 0)
structure Prs where
  g : Grd
  pw : List Int
  ln : Int
  er : Int
def psR (s : ByteArray) : Prs :=
  if 60000 < s.size then ⟨zG, [], 0, 8⟩
  else if (cutN s.data.toList).length < 2 ∨ (hdR s).2 = false then ⟨zG, [], 1, 7⟩
  else if psF (hdR s).1 (cutN s.data.toList) (hdR s).1.ro.toNat 1 ≤ (hdR s).1.ro.toNat then ⟨zG, [], (psF (hdR s).1 (cutN s.data.toList) (hdR s).1.ro.toNat 1 : Int) + 1, 7⟩
  else if (cutN s.data.toList).length ≠ (hdR s).1.ro.toNat + 2 ∨ (cutN s.data.toList).getD ((hdR s).1.ro.toNat + 1) [] ≠ [] then ⟨zG, [], (hdR s).1.ro + 2, 7⟩
  else if ofE (hdR s).1 (psP (hdR s).1 (cutN s.data.toList) (hdR s).1.ro.toNat) ≠ 0 then ⟨zG, [], 0, ofE (hdR s).1 (psP (hdR s).1 (cutN s.data.toList) (hdR s).1.ro.toNat)⟩
  else ⟨(hdR s).1, psP (hdR s).1 (cutN s.data.toList) (hdR s).1.ro.toNat, 0, 0⟩
theorem psF_good {g : Grd} {L : List (List UInt8)} : ∀ {k n a : Nat}, k ≤ n → (∀ j, a ≤ j → j < a + k → rwBad g L j = false) → psF g L n a = psF g L (n - k) (a + k)
  | 0, n, a, _, _ => by simp
  | k + 1, 0, a, h, _ => by omega
  | k + 1, n + 1, a, h, hg => by
    show (bif rwBad g L a then a else psF g L n (a + 1)) = _
    rw [hg a (Nat.le_refl _) (by omega)]
    show psF g L n (a + 1) = _
    rw [psF_good (k := k) (by omega) fun j h1 h2 => hg j (by omega) (by omega), show n + 1 - (k + 1) = n - k by omega, show a + 1 + k = a + (k + 1) by omega]
theorem psF_bad {g : Grd} {L : List (List UInt8)} {n a : Nat} (h0 : 0 < n) (h : rwBad g L a = true) : psF g L n a = a := by
  obtain ⟨m, rfl⟩ : ∃ m, n = m + 1 := ⟨n - 1, by omega⟩
  show (bif rwBad g L a then a else psF g L m (a + 1)) = _
  rw [h]; rfl
theorem gdR_ok {s : ByteArray} (h : (gdR s).2 = true) : 1 ≤ (gdR s).1.co ∧ (gdR s).1.co ≤ 40 ∧ 1 ≤ (gdR s).1.ro ∧ (gdR s).1.ro ≤ 40 := by
  unfold gdR at h ⊢
  by_cases hb : gdB (pcs s) = true
  · rw [if_pos hb]
    unfold gdB at hb
    simp only [Bool.and_eq_true] at hb
    obtain ⟨_, _, h2, h3⟩ := hb
    have q2 := inR_iff.1 h2
    have q3 := inR_iff.1 h3
    exact ⟨q2.1, q2.2, q3.1, q3.2⟩
  · rw [if_neg hb] at h; cases h
theorem psR_large {s : ByteArray} (h : 60000 < s.size) : psR s = ⟨zG, [], 0, 8⟩ := by unfold psR; rw [if_pos h]
theorem psR_head {s : ByteArray} (h : ¬ 60000 < s.size) (h2 : (cutN s.data.toList).length < 2 ∨ (hdR s).2 = false) : psR s = ⟨zG, [], 1, 7⟩ := by unfold psR; rw [if_neg h, if_pos h2]
theorem psR_row {s : ByteArray} {k : Nat} (h : ¬ 60000 < s.size) (h2 : ¬ ((cutN s.data.toList).length < 2 ∨ (hdR s).2 = false)) (hk : k < (hdR s).1.ro.toNat) (hg : ∀ j, 1 ≤ j → j < 1 + k → rwBad (hdR s).1 (cutN s.data.toList) j = false) (hb : rwBad (hdR s).1 (cutN s.data.toList) (k + 1) = true) :
    psR s = ⟨zG, [], (k : Int) + 2, 7⟩ := by
  have e : psF (hdR s).1 (cutN s.data.toList) (hdR s).1.ro.toNat 1 = k + 1 := by
    rw [psF_good (k := k) (by omega) hg, Nat.add_comm 1 k, psF_bad (by omega) hb]
  unfold psR
  rw [if_neg h, if_neg h2, if_pos (by rw [e]; omega), e]
  congr 1 <;> omega
theorem psF_all {s : ByteArray} (hg : ∀ j, 1 ≤ j → j < 1 + (hdR s).1.ro.toNat → rwBad (hdR s).1 (cutN s.data.toList) j = false) : ¬ psF (hdR s).1 (cutN s.data.toList) (hdR s).1.ro.toNat 1 ≤ (hdR s).1.ro.toNat := by
  rw [psF_good (k := (hdR s).1.ro.toNat) (Nat.le_refl _) hg, Nat.sub_self]
  show ¬ 1 + _ ≤ _
  omega
theorem psR_tail {s : ByteArray} (h : ¬ 60000 < s.size) (h2 : ¬ ((cutN s.data.toList).length < 2 ∨ (hdR s).2 = false)) (hg : ∀ j, 1 ≤ j → j < 1 + (hdR s).1.ro.toNat → rwBad (hdR s).1 (cutN s.data.toList) j = false)
    (h3 : (cutN s.data.toList).length ≠ (hdR s).1.ro.toNat + 2 ∨ (cutN s.data.toList).getD ((hdR s).1.ro.toNat + 1) [] ≠ []) : psR s = ⟨zG, [], (hdR s).1.ro + 2, 7⟩ := by
  unfold psR
  rw [if_neg h, if_neg h2, if_neg (psF_all hg), if_pos h3]
theorem psR_pw {s : ByteArray} (h : ¬ 60000 < s.size) (h2 : ¬ ((cutN s.data.toList).length < 2 ∨ (hdR s).2 = false)) (hg : ∀ j, 1 ≤ j → j < 1 + (hdR s).1.ro.toNat → rwBad (hdR s).1 (cutN s.data.toList) j = false)
    (h3 : (cutN s.data.toList).length = (hdR s).1.ro.toNat + 2 ∧ (cutN s.data.toList).getD ((hdR s).1.ro.toNat + 1) [] = []) (h4 : ofE (hdR s).1 (psP (hdR s).1 (cutN s.data.toList) (hdR s).1.ro.toNat) ≠ 0) : psR s = ⟨zG, [], 0, ofE (hdR s).1 (psP (hdR s).1 (cutN s.data.toList) (hdR s).1.ro.toNat)⟩ := by
  unfold psR
  rw [if_neg h, if_neg h2, if_neg (psF_all hg), if_neg (by rintro (q | q); exact q h3.1; exact q h3.2), if_pos h4]
theorem psR_ok {s : ByteArray} (h : ¬ 60000 < s.size) (h2 : ¬ ((cutN s.data.toList).length < 2 ∨ (hdR s).2 = false)) (hg : ∀ j, 1 ≤ j → j < 1 + (hdR s).1.ro.toNat → rwBad (hdR s).1 (cutN s.data.toList) j = false)
    (h3 : (cutN s.data.toList).length = (hdR s).1.ro.toNat + 2 ∧ (cutN s.data.toList).getD ((hdR s).1.ro.toNat + 1) [] = []) (h4 : ofE (hdR s).1 (psP (hdR s).1 (cutN s.data.toList) (hdR s).1.ro.toNat) = 0) : psR s = ⟨(hdR s).1, psP (hdR s).1 (cutN s.data.toList) (hdR s).1.ro.toNat, 0, 0⟩ := by
  unfold psR
  rw [if_neg h, if_neg h2, if_neg (psF_all hg), if_neg (by rintro (q | q); exact q h3.1; exact q h3.2), if_neg (fun q => q h4)]
theorem cutN_empty {r : List UInt8} (h : cutN r = [[]]) : r = [] := by
  rcases lnC_cases r with ⟨_, h2⟩ | ⟨x, q, _, h2, _⟩
  · rw [h2] at h; exact (List.cons.inj h).1
  · rw [h2] at h; exact absurd (List.cons.inj h).2 (cutN_ne q)
-- a line of a text, by what is behind the lines before it
end Go.Proofs.YtcdccdcbfbakfaaGreatDoor.Am.M
