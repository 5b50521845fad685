/- Contracts over the abstract machine: three arcs suffice. Conditions: none. -/
import Derived.Test.YtgolkffigoabhaaP9
set_option linter.unusedVariables false
set_option linter.unusedSimpArgs false
namespace Go.Proofs.Ytgolkffigoabhaa.Am.M
open Go

theorem cK_none {l : List Arc} {i j : Nat} : ∀ {d : Nat}, cK l i j d = none → ∀ k, l.length - d ≤ k → k < l.length → contr (l.getD i ⟨0, 0, 0⟩) (l.getD j ⟨0, 0, 0⟩) (l.getD k ⟨0, 0, 0⟩) = false
  | 0, _, k, h1, h2 => by omega
  | d + 1, h, k, h1, h2 => by
    unfold cK at h
    split at h
    · cases h
    · rename_i hc
      by_cases hk : k = l.length - (d + 1)
      · subst hk; simpa using hc
      · exact cK_none h k (by omega) h2
theorem cK_some {l : List Arc} {i j : Nat} {t : Nat × Nat × Nat} : ∀ {d : Nat}, d ≤ l.length → cK l i j d = some t → ∃ k, l.length - d ≤ k ∧ k < l.length ∧ t = (i, j, k) ∧ contr (l.getD i ⟨0, 0, 0⟩) (l.getD j ⟨0, 0, 0⟩) (l.getD k ⟨0, 0, 0⟩) = true
  | 0, _, h => by cases h
  | d + 1, hd, h => by
    unfold cK at h
    split at h
    · rename_i hc
      cases h
      exact ⟨_, Nat.le_refl _, by omega, rfl, hc⟩
    · obtain ⟨k, h1, h2, h3⟩ := cK_some (by omega) h
      exact ⟨k, by omega, h2, h3⟩
theorem cJ_none {l : List Arc} {i : Nat} : ∀ {d : Nat}, cJ l i d = none → ∀ j k, l.length - d ≤ j → j < k → k < l.length → contr (l.getD i ⟨0, 0, 0⟩) (l.getD j ⟨0, 0, 0⟩) (l.getD k ⟨0, 0, 0⟩) = false
  | 0, _, j, k, h1, h2, h3 => by omega
  | d + 1, h, j, k, h1, h2, h3 => by
    unfold cJ at h
    rw [Option.or_eq_none_iff] at h
    by_cases hj : j = l.length - (d + 1)
    · subst hj; exact cK_none h.1 k (by omega) h3
    · exact cJ_none h.2 j k (by omega) h2 h3
theorem cJ_some {l : List Arc} {i : Nat} {t : Nat × Nat × Nat} : ∀ {d : Nat}, d ≤ l.length → cJ l i d = some t → ∃ j k, l.length - d ≤ j ∧ j < k ∧ k < l.length ∧ t = (i, j, k) ∧ contr (l.getD i ⟨0, 0, 0⟩) (l.getD j ⟨0, 0, 0⟩) (l.getD k ⟨0, 0, 0⟩) = true
  | 0, _, h => by cases h
  | d + 1, hd, h => by
    unfold cJ at h
    rw [Option.or_eq_some_iff] at h
    rcases h with h | ⟨_, h⟩
    · obtain ⟨k, h1, h2, h3, h4⟩ := cK_some (by omega) h
      exact ⟨_, k, Nat.le_refl _, by omega, h2, h3, h4⟩
    · obtain ⟨j, k, h1, h2, h3, h4⟩ := cJ_some (by omega) h
      exact ⟨j, k, by omega, h2, h3, h4⟩
theorem cI_none {l : List Arc} : ∀ {d : Nat}, cI l d = none → ∀ i j k, l.length - d ≤ i → i < j → j < k → k < l.length → contr (l.getD i ⟨0, 0, 0⟩) (l.getD j ⟨0, 0, 0⟩) (l.getD k ⟨0, 0, 0⟩) = false
  | 0, _, i, j, k, h0, h1, h2, h3 => by omega
  | d + 1, h, i, j, k, h0, h1, h2, h3 => by
    unfold cI at h
    rw [Option.or_eq_none_iff] at h
    by_cases hi : i = l.length - (d + 1)
    · subst hi; exact cJ_none h.1 j k (by omega) h2 h3
    · exact cI_none h.2 i j k (by omega) h1 h2 h3
theorem cI_some {l : List Arc} {t : Nat × Nat × Nat} : ∀ {d : Nat}, d ≤ l.length → cI l d = some t → ∃ i j k, i < j ∧ j < k ∧ k < l.length ∧ t = (i, j, k) ∧ contr (l.getD i ⟨0, 0, 0⟩) (l.getD j ⟨0, 0, 0⟩) (l.getD k ⟨0, 0, 0⟩) = true
  | 0, _, h => by cases h
  | d + 1, hd, h => by
    unfold cI at h
    rw [Option.or_eq_some_iff] at h
    rcases h with h | ⟨_, h⟩
    · obtain ⟨j, k, h1, h2, h3, h4⟩ := cJ_some (by omega) h
      exact ⟨_, j, k, by omega, h2, h3, h4⟩
    · exact cI_some (by omega) h
theorem arc_atD {l : List Arc} {i : Nat} {x : Arc} (h : l[i]? = some x) : l.getD i ⟨0, 0, 0⟩ = x := by rw [List.getD_eq_getElem?_getD, h]; rfl
theorem contr_no {a b c : Arc} : contr a b c = false ↔ b.lo * (c.r - a.r) ≤ a.hi * (c.r - b.r) + c.hi * (b.r - a.r) ∧ a.lo * (c.r - b.r) + c.lo * (b.r - a.r) ≤ b.hi * (c.r - a.r) := by
  unfold contr; simp
/-- No contradiction: in each three arcs the middle one lies between those that the others leave. -/
theorem mid {l : List Arc} (hok : ArcsOk l) (hn : conR l = none) {i j k : Nat} {a b c : Arc} (ha : l[i]? = some a) (hb : l[j]? = some b) (hc : l[k]? = some c) (hij : i ≤ j) (hjk : j ≤ k) :
    b.lo * (c.r - a.r) ≤ a.hi * (c.r - b.r) + c.hi * (b.r - a.r) ∧ a.lo * (c.r - b.r) + c.lo * (b.r - a.r) ≤ b.hi * (c.r - a.r) := by
  have la := (hok.ok a (List.mem_of_getElem? ha)).2
  have lc := (hok.ok c (List.mem_of_getElem? hc)).2
  have hr : ∀ {i j : Nat} {a b : Arc}, l[i]? = some a → l[j]? = some b → i ≤ j → 0 ≤ b.r - a.r := fun {i j a b} h1 h2 h => by
    by_cases e : i = j
    · subst e; rw [h1] at h2; cases h2; omega
    · have := (prOk_at hok h1 h2 (by omega)).2.2; simp only at this; omega
  by_cases h1 : i = j
  · subst h1
    rw [ha] at hb; cases hb
    have := Int.mul_le_mul_of_nonneg_right la (hr ha hc hjk)
    grind
  by_cases h2 : j = k
  · subst h2
    rw [hb] at hc; cases hc
    have := Int.mul_le_mul_of_nonneg_right lc (hr ha hb hij)
    grind
  have := cI_none hn i j k (by omega) (by omega) (by omega) (List.getElem?_eq_some_iff.1 hc).1
  rw [arc_atD ha, arc_atD hb, arc_atD hc] at this
  exact contr_no.1 this
theorem three_suffice {l : List Arc} (hok : ArcsOk l) : (conR l).isSome = lessB (slowOf l).mo (slowOf l).le := by
  have hm := slow_is hok
  cases hc : conR l with
  | none =>
    symm
    show lessB _ _ = false
    rw [less_fle]
    obtain ⟨p, hp, e1⟩ := hm.le1
    obtain ⟨q, hq, e2⟩ := hm.mo1
    obtain ⟨a, b, hab, ha, hb⟩ := mem_pairs.1 hp
    obtain ⟨c, d, hcd, hcc, hd⟩ := mem_pairs.1 hq
    have wp := (pairs_ok hok hp).2.2
    have wq := (pairs_ok hok hq).2.2
    rw [e1, e2]
    have key : (p.2.lo - p.1.hi) * (q.2.r - q.1.r) ≤ (q.2.hi - q.1.lo) * (p.2.r - p.1.r) := by
      by_cases h1 : a ≤ c
      · by_cases h2 : b ≤ d
        · have m1 := (mid hok hc ha hb hd (by omega) h2).1
          have m2 := (mid hok hc ha hcc hd h1 (by omega)).1
          have w := (prOk_at hok ha hd (by omega)).2.2
          simp only at w
          exact fle_trans (a := (p.2.lo - p.1.hi, p.2.r - p.1.r)) (b := (q.2.hi - p.1.hi, q.2.r - p.1.r)) (c := (q.2.hi - q.1.lo, q.2.r - q.1.r)) (by simp only; omega) (by simp only; omega) (by simp only; omega) (by unfold fle; simp only; grind) (by unfold fle; simp only; grind)
        · have m1 := (mid hok hc ha hcc hd h1 (by omega)).1
          have m2 := (mid hok hc hcc hd hb (by omega) (by omega)).2
          grind
      · by_cases h2 : b ≤ d
        · have m1 := (mid hok hc hcc ha hb (by omega) (by omega)).2
          have m2 := (mid hok hc ha hb hd (by omega) h2).1
          grind
        · have m1 := (mid hok hc hcc ha hb (by omega) (by omega)).2
          have m2 := (mid hok hc hcc hd hb (by omega) (by omega)).2
          have w := (prOk_at hok hcc hb (by omega)).2.2
          simp only at w
          exact fle_trans (a := (p.2.lo - p.1.hi, p.2.r - p.1.r)) (b := (p.2.lo - q.1.lo, p.2.r - q.1.r)) (c := (q.2.hi - q.1.lo, q.2.r - q.1.r)) (by simp only; omega) (by simp only; omega) (by simp only; omega) (by unfold fle; simp only; grind) (by unfold fle; simp only; grind)
    unfold fle loP hiP wayP
    simp only
    grind
  | some t =>
    symm
    show lessB _ _ = true
    rw [less_lt]
    intro hle
    obtain ⟨i, j, k, hij, hjk, hk, _, ht⟩ := cI_some (Nat.le_refl _) hc
    obtain ⟨a, ha⟩ : ∃ a, l[i]? = some a := ⟨_, List.getElem?_eq_getElem (by omega)⟩
    obtain ⟨b, hb⟩ : ∃ a, l[j]? = some a := ⟨_, List.getElem?_eq_getElem (by omega)⟩
    obtain ⟨c, hcc⟩ : ∃ a, l[k]? = some a := ⟨_, List.getElem?_eq_getElem hk⟩
    rw [arc_atD ha, arc_atD hb, arc_atD hcc] at ht
    have p1 : (a, b) ∈ pairsTo l l.length := mem_pairs.2 ⟨i, j, hij, ha, hb⟩
    have p2 : (b, c) ∈ pairsTo l l.length := mem_pairs.2 ⟨j, k, hjk, hb, hcc⟩
    have w1 := (pairs_ok hok p1).2.2
    have w2 := (pairs_ok hok p2).2.2
    have wl : 0 < (slowOf l).le.2 := by obtain ⟨p, hp, e⟩ := hm.le1; rw [e]; exact way_pos (pairs_ok hok hp).2.2
    have wm : 0 < (slowOf l).mo.2 := by obtain ⟨p, hp, e⟩ := hm.mo1; rw [e]; exact way_pos (pairs_ok hok hp).2.2
    have f1 := fle_trans (way_pos w1) wm (way_pos w2) (fle_trans (way_pos w1) wl wm (hm.le2 _ p1) hle) (hm.mo2 _ p2)
    have f2 := fle_trans (way_pos w2) wm (way_pos w1) (fle_trans (way_pos w2) wl wm (hm.le2 _ p2) hle) (hm.mo2 _ p1)
    unfold fle loP hiP wayP at f1 f2
    simp only at f1 f2 w1 w2
    have : contr a b c = false := contr_no.2 ⟨by grind, by grind⟩
    rw [this] at ht; cases ht
end Go.Proofs.Ytgolkffigoabhaa.Am.M
