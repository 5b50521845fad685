/- Contracts over the abstract machine: plain laws of arcs. Conditions: none. -/
import Derived.Test.YtgolkffigoabhaaC22
set_option linter.unusedVariables false
set_option linter.unusedSimpArgs false
namespace Go.Proofs.Ytgolkffigoabhaa.Am.M
open Go

def fle (a b : Int × Int) : Prop := a.1 * b.2 ≤ b.1 * a.2
theorem less_fle {a b : Int × Int} : lessB a b = false ↔ fle b a := by unfold lessB fle; simp
theorem less_lt {a b : Int × Int} : lessB a b = true ↔ ¬ fle b a := by unfold lessB fle; simp
theorem fle_trans {a b c : Int × Int} (ha : 0 < a.2) (hb : 0 < b.2) (hc : 0 < c.2) (h1 : fle a b) (h2 : fle b c) : fle a c := by
  obtain ⟨a1, a2⟩ := a
  obtain ⟨b1, b2⟩ := b
  obtain ⟨c1, c2⟩ := c
  unfold fle at *
  simp only at *
  have h3 : (a1*b2)*c2 ≤ (b1*a2)*c2 := Int.mul_le_mul_of_nonneg_right h1 (by omega)
  have h4 : (b1*c2)*a2 ≤ (c1*b2)*a2 := Int.mul_le_mul_of_nonneg_right h2 (by omega)
  have h5 : (a1*c2)*b2 ≤ (c1*a2)*b2 := by grind
  exact Int.le_of_mul_le_mul_right h5 hb
theorem fle_refl (a : Int × Int) : fle a a := Int.le_refl _
theorem fle_total (a b : Int × Int) : fle a b ∨ fle b a := Int.le_total _ _
theorem maxF_mem : ∀ {l : List Int}, l ≠ [] → maxF l ∈ l
  | [], h => absurd rfl h
  | x :: xs, _ => by
    have : ∀ (xs : List Int) (x : Int), xs.foldl max x ∈ x :: xs := by
      intro xs
      induction xs with
      | nil => intro x; simp
      | cons y ys ih =>
        intro x
        have := ih (max x y)
        simp only [List.foldl_cons]
        rcases List.mem_cons.1 this with h | h
        · rw [h]
          rcases Int.le_total x y with q | q
          · rw [Int.max_eq_right q]; simp
          · rw [Int.max_eq_left q]; simp
        · simp [h]
    exact this xs x
theorem minF_neg : ∀ (l : List Int), minF l = -(maxF (l.map fun x => -x))
  | [] => rfl
  | x :: xs => by
    have : ∀ (xs : List Int) (x : Int), xs.foldl min x = -((xs.map fun x => -x).foldl max (-x)) := by
      intro xs
      induction xs with
      | nil => intro x; simp
      | cons y ys ih =>
        intro x
        simp only [List.foldl_cons, List.map_cons]
        rw [ih (min x y)]
        congr 2
        omega
    exact this xs x
theorem maxF_le {l : List Int} {b : Int} (hn : l ≠ []) (h : ∀ x ∈ l, x ≤ b) : maxF l ≤ b := h _ (maxF_mem hn)
structure IsMM (xs : List (Arc × Arc)) (le mo : Int × Int) : Prop where
  le1 : ∃ p ∈ xs, le = loP p
  le2 : ∀ p ∈ xs, fle (loP p) le
  mo1 : ∃ p ∈ xs, mo = hiP p
  mo2 : ∀ p ∈ xs, fle mo (hiP p)
theorem way_pos {p : Arc × Arc} (h : p.1.r < p.2.r) : 0 < wayP p := by unfold wayP; omega
theorem mm_step {xs : List (Arc × Arc)} {le mo : Int × Int} {p : Arc × Arc} (hx : ∀ q ∈ xs, q.1.r < q.2.r) (hp : p.1.r < p.2.r) (h : IsMM xs le mo) {le' mo' : Int × Int}
    (h1 : le' = if lessB le (loP p) = true then loP p else le) (h2 : mo' = if lessB (hiP p) mo = true then hiP p else mo) : IsMM (xs ++ [p]) le' mo' := by
  obtain ⟨pl, hpl, el⟩ := h.le1
  obtain ⟨pm, hpm, em⟩ := h.mo1
  have w0 := way_pos hp
  have wl := way_pos (hx _ hpl)
  have wm := way_pos (hx _ hpm)
  subst h1 h2
  refine ⟨?_, ?_, ?_, ?_⟩
  · split
    · exact ⟨p, by simp, rfl⟩
    · exact ⟨pl, by simp [hpl], el⟩
  · intro q hq
    rcases List.mem_append.1 hq with hq | hq
    · have wq := way_pos (hx _ hq)
      split
      · rename_i hl
        exact fle_trans wq (by rw [el]; exact wl) w0 (h.le2 q hq) ((fle_total _ _).resolve_right (less_lt.1 hl))
      · exact h.le2 q hq
    · simp only [List.mem_singleton] at hq; subst hq
      split
      · exact fle_refl _
      · rename_i hl; exact less_fle.1 (by simpa using hl)
  · split
    · exact ⟨p, by simp, rfl⟩
    · exact ⟨pm, by simp [hpm], em⟩
  · intro q hq
    rcases List.mem_append.1 hq with hq | hq
    · have wq := way_pos (hx _ hq)
      split
      · rename_i hl
        exact fle_trans w0 (by rw [em]; exact wm) wq ((fle_total _ _).resolve_right (less_lt.1 hl)) (h.mo2 q hq)
      · exact h.mo2 q hq
    · simp only [List.mem_singleton] at hq; subst hq
      split
      · exact fle_refl _
      · rename_i hl; exact less_fle.1 (by simpa using hl)
theorem mm_one (p : Arc × Arc) : IsMM [p] (loP p) (hiP p) := ⟨⟨p, by simp, rfl⟩, fun q hq => by simp at hq; subst hq; exact fle_refl _, ⟨p, by simp, rfl⟩, fun q hq => by simp at hq; subst hq; exact fle_refl _⟩
theorem slow_mm : ∀ (ys xs : List (Arc × Arc)) (s : Slow), (∀ q ∈ xs ++ ys, q.1.r < q.2.r) → s.bg = true → IsMM xs s.le s.mo → IsMM (xs ++ ys) (ys.foldl slowS s).le (ys.foldl slowS s).mo
  | [], xs, s, _, _, h => by simpa using h
  | p :: ys, xs, s, hr, hb, h => by
    have := slow_mm ys (xs ++ [p]) (slowS s p) (by simpa using hr) rfl (mm_step (fun q hq => hr q (by simp [hq])) (hr p (by simp)) h (by simp [slowS, hb]) (by simp [slowS, hb]))
    simpa using this
theorem slowL_mm {xs : List (Arc × Arc)} (hn : xs ≠ []) (hr : ∀ q ∈ xs, q.1.r < q.2.r) : IsMM xs (slowL xs).le (slowL xs).mo := by
  cases xs with
  | nil => exact absurd rfl hn
  | cons p xs =>
    have := slow_mm xs [p] (slowS slow0 p) (by simpa using hr) rfl (by simpa [slowS, slow0] using mm_one p)
    simpa [slowL] using this
/-- The pairs of the program are those of two rows, too. -/
theorem mem_pairsTo {l : List Arc} {p : Arc × Arc} : ∀ {k : Nat}, k ≤ l.length → (p ∈ pairsTo l k ↔ ∃ a b : Nat, b < k ∧ a < b ∧ l[a]? = some p.1 ∧ l[b]? = some p.2)
  | 0, _ => by simp [pairsTo]
  | k + 1, hk => by
    rw [pairsTo_succ l k (by omega), List.mem_append, mem_pairsTo (show k ≤ l.length by omega), List.mem_map]
    constructor
    · rintro (⟨a, b, h1, h2, h3, h4⟩ | ⟨x, hx, rfl⟩)
      · exact ⟨a, b, by omega, h2, h3, h4⟩
      · obtain ⟨j, hj⟩ := List.getElem?_of_mem hx
        have hjk : j < k := by
          have := (List.getElem?_eq_some_iff.1 hj).1
          rw [List.length_take] at this; omega
        rw [List.getElem?_take, if_pos hjk] at hj
        exact ⟨j, k, by omega, hjk, hj, by simp [show k < l.length by omega]⟩
    · rintro ⟨a, b, h1, h2, h3, h4⟩
      by_cases hb : b < k
      · exact .inl ⟨a, b, hb, h2, h3, h4⟩
      · have : b = k := by omega
        subst this
        right
        refine ⟨p.1, List.mem_of_getElem? (i := a) ?_, ?_⟩
        · rw [List.getElem?_take, if_pos h2]; exact h3
        · rw [(List.getElem?_eq_some_iff.1 h4).2]
theorem mem_pairs {l : List Arc} {p : Arc × Arc} : p ∈ pairsTo l l.length ↔ ∃ a b : Nat, a < b ∧ l[a]? = some p.1 ∧ l[b]? = some p.2 := by
  rw [mem_pairsTo (Nat.le_refl _)]
  exact ⟨fun ⟨a, b, _, h⟩ => ⟨a, b, h⟩, fun ⟨a, b, h1, h2, h3⟩ => ⟨a, b, (List.getElem?_eq_some_iff.1 h3).1, h1, h2, h3⟩⟩
theorem mem_pairs' {l : List Arc} {p : Arc × Arc} : p ∈ pairsR l l.length ↔ p ∈ pairsTo l l.length := by
  rw [mem_pairs, mem_pairsR (Nat.le_refl _)]
  exact ⟨fun ⟨a, b, _, h⟩ => ⟨a, b, h⟩, fun ⟨a, b, h1, h2, h3⟩ => ⟨a, b, (List.getElem?_eq_some_iff.1 h2).1, h1, h2, h3⟩⟩
theorem pairs_ne {l : List Arc} (hok : ArcsOk l) : pairsTo l l.length ≠ [] := fun e => by
  have h1 := pairsR_ne hok
  cases h : pairsR l l.length with
  | nil => exact h1 h
  | cons p ps =>
    have := (mem_pairs' (l := l) (p := p)).1 (by rw [h]; simp)
    rw [e] at this; cases this
theorem pairs_ok {l : List Arc} (hok : ArcsOk l) {p : Arc × Arc} (hp : p ∈ pairsTo l l.length) : PrOk p := pairsR_ok hok (Nat.le_refl _) p (mem_pairs'.2 hp)
theorem slow_is {l : List Arc} (hok : ArcsOk l) : IsMM (pairsTo l l.length) (slowOf l).le (slowOf l).mo := slowL_mm (pairs_ne hok) fun q hq => (pairs_ok hok hq).2.2
end Go.Proofs.Ytgolkffigoabhaa.Am.M
