/- Contracts over the abstract machine: TuneExplained. Conditions: none. -/
import Derived.Test.YtgolkffigoabhaaL11
set_option linter.unusedVariables false
set_option linter.unusedSimpArgs false
namespace Go.Proofs.Ytgolkffigoabhaa.Am.M
open Go

/-- An arc is explained. -/
def Expl (d s : Int) (x : Arc) : Prop := (x.lo - d) * s ≤ 20000000 * x.r ∧ 20000000 * x.r ≤ (x.hi - d) * s
theorem expl_exP {d s : Int} {x : Arc} (h : Expl d s x) : exP d s x = true := by
  rw [← exQ_eq]
  unfold exQ Expl at *
  simp; omega
theorem expl_lo {d s : Int} {p : Arc × Arc} (h1 : Expl d s p.1) (h2 : Expl d s p.2) : (loP p).1 * s ≤ 10000000 * (loP p).2 := by
  unfold Expl at *
  unfold loP wayP
  simp only
  grind
theorem expl_hi {d s : Int} {p : Arc × Arc} (h1 : Expl d s p.1) (h2 : Expl d s p.2) : 10000000 * (hiP p).2 ≤ (hiP p).1 * s := by
  unfold Expl at *
  unfold hiP wayP
  simp only
  grind
theorem low_le {d s : Int} {p : Arc × Arc} (hs : 0 < s) (hr1 : 0 ≤ p.1.r) (hr2 : 0 ≤ p.2.r) (hw : p.1.r < p.2.r) (h1 : Expl d s p.1) (h2 : Expl d s p.2) : lowP p ≤ d := by
  obtain ⟨a1, _⟩ := h1
  obtain ⟨_, b2⟩ := h2
  have m1 := Int.mul_le_mul_of_nonneg_left a1 hr2
  have m2 := Int.mul_le_mul_of_nonneg_left b2 hr1
  have key : (p.2.r * p.1.lo - p.1.r * p.2.hi) * s ≤ (d * (p.2.r - p.1.r)) * s := by grind
  have k2 := Int.le_of_mul_le_mul_right key hs
  unfold lowP
  have := Int.ediv_le_ediv (show 0 < p.2.r - p.1.r by omega) k2
  rwa [Int.mul_ediv_cancel _ (by omega)] at this
theorem high_ge {d s : Int} {p : Arc × Arc} (hs : 0 < s) (hr1 : 0 ≤ p.1.r) (hr2 : 0 ≤ p.2.r) (hw : p.1.r < p.2.r) (h1 : Expl d s p.1) (h2 : Expl d s p.2) : d ≤ highP p := by
  obtain ⟨_, a2⟩ := h1
  obtain ⟨b1, _⟩ := h2
  have m1 := Int.mul_le_mul_of_nonneg_left a2 hr2
  have m2 := Int.mul_le_mul_of_nonneg_left b1 hr1
  have key : (-(p.2.r * p.1.hi - p.1.r * p.2.lo)) * s ≤ ((-d) * (p.2.r - p.1.r)) * s := by grind
  have k2 := Int.le_of_mul_le_mul_right key hs
  unfold highP ceD
  have := Int.ediv_le_ediv (show 0 < p.2.r - p.1.r by omega) k2
  rw [Int.mul_ediv_cancel _ (by omega)] at this
  omega
theorem minF_ge {l : List Int} {b : Int} (hn : l ≠ []) (h : ∀ x ∈ l, b ≤ x) : b ≤ minF l := by
  rw [minF_neg]
  have := maxF_le (l := l.map fun x => -x) (b := -b) (by simpa using hn) (fun x hx => by
    obtain ⟨y, hy, rfl⟩ := List.mem_map.1 hx
    have := h y hy; omega)
  omega
/-- What explains right arcs is enclosed. -/
structure Encl (l : List Arc) (d s : Int) : Prop where
  poss : lessB (slowOf l).mo (slowOf l).le = false
  ex : explR l d s = (true, 0)
  dl : delayR l = ((maxF ((pairsTo l l.length).map lowP), minF ((pairsTo l l.length).map highP)), 0)
  d1 : maxF ((pairsTo l l.length).map lowP) ≤ d
  d2 : d ≤ minF ((pairsTo l l.length).map highP)
  sp : ((slowOf l).le.1 ≤ 0 ∧ speedR l = ((0, 0), 11)) ∨ (0 < (slowOf l).le.1 ∧ 0 < (slowOf l).mo.1 ∧ speedR l = ((10000000 * (slowOf l).mo.2 / (slowOf l).mo.1, -((-(10000000 * (slowOf l).le.2)) / (slowOf l).le.1)), 0) ∧
    10000000 * (slowOf l).mo.2 / (slowOf l).mo.1 ≤ s ∧ s ≤ -((-(10000000 * (slowOf l).le.2)) / (slowOf l).le.1))
theorem encl {l : List Arc} {d s : Int} (h0 : (ckA l).2 = 0) (hd : -1000000000000 ≤ d ∧ d ≤ 1000000000000) (hs : 500 ≤ s ∧ s ≤ 10000) (h : ∀ x ∈ l, Expl d s x) : Encl l d s := by
  have hok := (ckA_ok h0).1
  have hm := slow_is hok
  have hpe : ∀ p ∈ pairsTo l l.length, Expl d s p.1 ∧ Expl d s p.2 := fun p hp => by
    obtain ⟨a, b, _, ha, hb⟩ := mem_pairs.1 hp
    exact ⟨h _ (List.mem_of_getElem? ha), h _ (List.mem_of_getElem? hb)⟩
  obtain ⟨p, hp, e1⟩ := hm.le1
  obtain ⟨q, hq, e2⟩ := hm.mo1
  have wl : 0 < (slowOf l).le.2 := by rw [e1]; exact way_pos (pairs_ok hok hp).2.2
  have wm : 0 < (slowOf l).mo.2 := by rw [e2]; exact way_pos (pairs_ok hok hq).2.2
  have g1 : (slowOf l).le.1 * s ≤ 10000000 * (slowOf l).le.2 := by rw [e1]; exact expl_lo (hpe p hp).1 (hpe p hp).2
  have g2 : 10000000 * (slowOf l).mo.2 ≤ (slowOf l).mo.1 * s := by rw [e2]; exact expl_hi (hpe q hq).1 (hpe q hq).2
  have hposs : lessB (slowOf l).mo (slowOf l).le = false := by
    rw [less_fle]
    exact fle_trans (b := (10000000, s)) wl (by simp only; omega) wm (by unfold fle; simp only; omega) (by unfold fle; simp only; omega)
  have hmo : 0 < (slowOf l).mo.1 := by
    by_cases h : 0 < (slowOf l).mo.1
    · exact h
    · have := Int.mul_nonpos_of_nonpos_of_nonneg (show (slowOf l).mo.1 ≤ 0 by omega) (show 0 ≤ s by omega)
      omega
  refine ⟨hposs, ?_, ?_, ?_, ?_, ?_⟩
  · unfold explR
    rw [if_neg (by rw [h0]; simp), if_neg (by simp [inR]; omega)]
    have : (l.any fun a => !exP d s a) = false := List.any_eq_false.2 fun x hx => by rw [expl_exP (h x hx)]; simp
    rw [this]; rfl
  · unfold delayR
    rw [if_neg (by rw [h0]; simp), if_neg (by rw [hposs]; simp)]
  · refine maxF_le (by simpa using pairs_ne hok) fun x hx => ?_
    obtain ⟨r, hr, rfl⟩ := List.mem_map.1 hx
    have k := pairs_ok hok hr
    exact low_le (by omega) (by have := k.1.1; omega) (by have := k.2.1.1; omega) k.2.2 (hpe r hr).1 (hpe r hr).2
  · refine minF_ge (by simpa using pairs_ne hok) fun x hx => ?_
    obtain ⟨r, hr, rfl⟩ := List.mem_map.1 hx
    have k := pairs_ok hok hr
    exact high_ge (by omega) (by have := k.1.1; omega) (by have := k.2.1.1; omega) k.2.2 (hpe r hr).1 (hpe r hr).2
  · unfold speedR
    rw [if_neg (by rw [h0]; simp), if_neg (by rw [hposs]; simp)]
    by_cases h1 : (slowOf l).le.1 ≤ 0
    · rw [if_pos h1]; exact .inl ⟨h1, rfl⟩
    · rw [if_neg h1]
      refine .inr ⟨by omega, hmo, ?_, ?_, ?_⟩
      · simp only [enc, perS, ceD]
      · have := Int.ediv_le_ediv hmo g2
        rwa [Int.mul_comm _ s, Int.mul_ediv_cancel _ (by omega)] at this
      · have := Int.ediv_le_ediv (show 0 < (slowOf l).le.1 by omega) (show -(10000000 * (slowOf l).le.2) ≤ (-s) * (slowOf l).le.1 by grind)
        rw [Int.mul_ediv_cancel _ (by omega)] at this
        omega
/-- Right arcs are told right. -/
theorem ckArcs_zero : ∀ (l : List Arc) (i : Nat) (p : Option Int), (∀ x ∈ l, arcBad x = 0) → AscA l → (∀ d, p = some d → ∀ x ∈ l, d < x.r) → ckArcs i p l = (0, 0)
  | [], _, _, _, _, _ => rfl
  | x :: xs, i, p, h1, h2, h3 => by
    unfold ckArcs
    rw [if_neg (by rw [h1 x (by simp)]; simp)]
    have ho : ¬ Go.Proofs.Ytgolkffigoabhaa.ordBad p x.r = true := by
      cases p with
      | none => simp [Go.Proofs.Ytgolkffigoabhaa.ordBad]
      | some d => have := h3 d rfl x (by simp); simp [Go.Proofs.Ytgolkffigoabhaa.ordBad]; omega
    rw [if_neg ho]
    have h4 := List.pairwise_cons.1 h2
    exact ckArcs_zero xs _ _ (fun y hy => h1 y (by simp [hy])) h4.2 (fun d hd y hy => by cases hd; exact h4.1 y hy)
theorem ckA_zero {l : List Arc} (h : ArcsOk l) : (ckA l).2 = 0 := by
  unfold ckA
  rw [if_neg (by have := h.two; omega), if_neg (by have := h.few; omega), ckArcs_zero l 0 none (fun x hx => arcBad_zero.2 (h.ok x hx)) h.asc (fun d hd => by cases hd)]

end Go.Proofs.Ytgolkffigoabhaa.Am.M
