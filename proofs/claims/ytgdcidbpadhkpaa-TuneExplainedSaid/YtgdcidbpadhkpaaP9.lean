/- Contracts over the abstract machine: plain laws of arcs. Conditions: none. -/
import Derived.Test.YtgdcidbpadhkpaaC22
set_option linter.unusedVariables false
set_option linter.unusedSimpArgs false
namespace Go.Proofs.Ytgdcidbpadhkpaa.Am.M
open Go

def fle (a b : Int × Int) : Prop := a.1 * b.2 ≤ b.1 * a.2
theorem less_fle {a b : Int × Int} : lessB a b = false ↔ fle b a := by unfold lessB fle; simp
theorem less_lt {a b : Int × Int} : lessB a b = true ↔ ¬ fle b a := by unfold lessB fle; simp
theorem fle_trans {a b c : Int × Int} (ha : 0 < a.2) (hb : 0 < b.2) (hc : 0 < c.2) (h1 : fle a b) (h2 : fle b c) : fle a c := by
  obtain ⟨a1, a2⟩ := a
  obtain ⟨b1, b2⟩ := b
  obtain ⟨c1, c2⟩ := c
  unfold fle at *
  simp only at *
  have h3 : (a1*b2)*c2 ≤ (b1*a2)*c2 := Int.mul_le_mul_of_nonneg_right h1 (by omega)
  have h4 : (b1*c2)*a2 ≤ (c1*b2)*a2 := Int.mul_le_mul_of_nonneg_right h2 (by omega)
  have h5 : (a1*c2)*b2 ≤ (c1*a2)*b2 := by grind
  exact Int.le_of_mul_le_mul_right h5 hb
theorem fle_refl (a : Int × Int) : fle a a := Int.le_refl _
theorem fle_total (a b : Int × Int) : fle a b ∨ fle b a := Int.le_total _ _
theorem ediv_le_cross {x w y d : Int} (hw : 0 < w) (hd : 0 < d) (h : x * d ≤ y * w) : x / w ≤ y / d := by
  rw [Int.le_ediv_iff_mul_le hd]
  have h1 : x / w * w ≤ x := Int.ediv_mul_le x (by omega)
  have h2 : (x / w * d) * w ≤ y * w := by
    have := Int.mul_le_mul_of_nonneg_right h1 (show 0 ≤ d by omega)
    grind
  exact Int.le_of_mul_le_mul_right h2 hw
theorem ediv_cross {x w y d : Int} (hw : 0 < w) (hd : 0 < d) (h : x * d = y * w) : x / w = y / d :=
  Int.le_antisymm (ediv_le_cross hw hd (by omega)) (ediv_le_cross hd hw (by omega))
theorem maxF_mem : ∀ {l : List Int}, l ≠ [] → maxF l ∈ l
  | [], h => absurd rfl h
  | x :: xs, _ => by
    have : ∀ (xs : List Int) (x : Int), xs.foldl max x ∈ x :: xs := by
      intro xs
      induction xs with
      | nil => intro x; simp
      | cons y ys ih =>
        intro x
        have := ih (max x y)
        simp only [List.foldl_cons]
        rcases List.mem_cons.1 this with h | h
        · rw [h]
          rcases Int.le_total x y with q | q
          · rw [Int.max_eq_right q]; simp
          · rw [Int.max_eq_left q]; simp
        · simp [h]
    exact this xs x
theorem maxF_ge : ∀ {l : List Int} {x : Int}, x ∈ l → x ≤ maxF l
  | [], _, h => by cases h
  | y :: ys, x, h => by
    have : ∀ (xs : List Int) (x : Int), (∀ z ∈ xs, z ≤ xs.foldl max x) ∧ x ≤ xs.foldl max x := by
      intro xs
      induction xs with
      | nil => intro x; simp
      | cons y ys ih =>
        intro x
        obtain ⟨h1, h2⟩ := ih (max x y)
        simp only [List.foldl_cons, List.mem_cons]
        refine ⟨fun z hz => ?_, by have := Int.le_max_left x y; omega⟩
        rcases hz with rfl | hz
        · have := Int.le_max_right x z; omega
        · exact h1 z hz
    obtain ⟨h1, h2⟩ := this ys y
    rcases List.mem_cons.1 h with rfl | h
    · exact h2
    · exact h1 x h
theorem minF_neg : ∀ (l : List Int), minF l = -(maxF (l.map fun x => -x))
  | [] => rfl
  | x :: xs => by
    have : ∀ (xs : List Int) (x : Int), xs.foldl min x = -((xs.map fun x => -x).foldl max (-x)) := by
      intro xs
      induction xs with
      | nil => intro x; simp
      | cons y ys ih =>
        intro x
        simp only [List.foldl_cons, List.map_cons]
        rw [ih (min x y)]
        congr 2
        omega
    exact this xs x
theorem maxF_le {l : List Int} {b : Int} (hn : l ≠ []) (h : ∀ x ∈ l, x ≤ b) : maxF l ≤ b := h _ (maxF_mem hn)
theorem maxF_eq {l l' : List Int} (hn : l ≠ []) (hn' : l' ≠ []) (h1 : ∀ x ∈ l, ∃ y ∈ l', x ≤ y) (h2 : ∀ x ∈ l', ∃ y ∈ l, x ≤ y) : maxF l = maxF l' := by
  refine Int.le_antisymm (maxF_le hn fun x hx => ?_) (maxF_le hn' fun x hx => ?_)
  · obtain ⟨y, hy, h⟩ := h1 x hx
    exact Int.le_trans h (maxF_ge hy)
  · obtain ⟨y, hy, h⟩ := h2 x hx
    exact Int.le_trans h (maxF_ge hy)
structure IsMM (xs : List (Arc × Arc)) (le mo : Int × Int) : Prop where
  le1 : ∃ p ∈ xs, le = loP p
  le2 : ∀ p ∈ xs, fle (loP p) le
  mo1 : ∃ p ∈ xs, mo = hiP p
  mo2 : ∀ p ∈ xs, fle mo (hiP p)
theorem way_pos {p : Arc × Arc} (h : p.1.r < p.2.r) : 0 < wayP p := by unfold wayP; omega
theorem mm_step {xs : List (Arc × Arc)} {le mo : Int × Int} {p : Arc × Arc} (hx : ∀ q ∈ xs, q.1.r < q.2.r) (hp : p.1.r < p.2.r) (h : IsMM xs le mo) {le' mo' : Int × Int}
    (h1 : le' = if lessB le (loP p) = true then loP p else le) (h2 : mo' = if lessB (hiP p) mo = true then hiP p else mo) : IsMM (xs ++ [p]) le' mo' := by
  obtain ⟨pl, hpl, el⟩ := h.le1
  obtain ⟨pm, hpm, em⟩ := h.mo1
  have w0 := way_pos hp
  have wl := way_pos (hx _ hpl)
  have wm := way_pos (hx _ hpm)
  subst h1 h2
  refine ⟨?_, ?_, ?_, ?_⟩
  · split
    · exact ⟨p, by simp, rfl⟩
    · exact ⟨pl, by simp [hpl], el⟩
  · intro q hq
    rcases List.mem_append.1 hq with hq | hq
    · have wq := way_pos (hx _ hq)
      split
      · rename_i hl
        exact fle_trans wq (by rw [el]; exact wl) w0 (h.le2 q hq) ((fle_total _ _).resolve_right (less_lt.1 hl))
      · exact h.le2 q hq
    · simp only [List.mem_singleton] at hq; subst hq
      split
      · exact fle_refl _
      · rename_i hl; exact less_fle.1 (by simpa using hl)
  · split
    · exact ⟨p, by simp, rfl⟩
    · exact ⟨pm, by simp [hpm], em⟩
  · intro q hq
    rcases List.mem_append.1 hq with hq | hq
    · have wq := way_pos (hx _ hq)
      split
      · rename_i hl
        exact fle_trans w0 (by rw [em]; exact wm) wq ((fle_total _ _).resolve_right (less_lt.1 hl)) (h.mo2 q hq)
      · exact h.mo2 q hq
    · simp only [List.mem_singleton] at hq; subst hq
      split
      · exact fle_refl _
      · rename_i hl; exact less_fle.1 (by simpa using hl)
theorem mm_one (p : Arc × Arc) : IsMM [p] (loP p) (hiP p) := ⟨⟨p, by simp, rfl⟩, fun q hq => by simp at hq; subst hq; exact fle_refl _, ⟨p, by simp, rfl⟩, fun q hq => by simp at hq; subst hq; exact fle_refl _⟩
theorem slow_mm : ∀ (ys xs : List (Arc × Arc)) (s : Slow), (∀ q ∈ xs ++ ys, q.1.r < q.2.r) → s.bg = true → IsMM xs s.le s.mo → IsMM (xs ++ ys) (ys.foldl slowS s).le (ys.foldl slowS s).mo
  | [], xs, s, _, _, h => by simpa using h
  | p :: ys, xs, s, hr, hb, h => by
    have := slow_mm ys (xs ++ [p]) (slowS s p) (by simpa using hr) rfl (mm_step (fun q hq => hr q (by simp [hq])) (hr p (by simp)) h (by simp [slowS, hb]) (by simp [slowS, hb]))
    simpa using this
theorem slowL_mm {xs : List (Arc × Arc)} (hn : xs ≠ []) (hr : ∀ q ∈ xs, q.1.r < q.2.r) : IsMM xs (slowL xs).le (slowL xs).mo := by
  cases xs with
  | nil => exact absurd rfl hn
  | cons p xs =>
    have := slow_mm xs [p] (slowS slow0 p) (by simpa using hr) rfl (by simpa [slowS, slow0] using mm_one p)
    simpa [slowL] using this
theorem rslow_mm : ∀ (ys xs : List (Arc × Arc)) (s : Q2), (∀ q ∈ xs ++ ys, PrOk q) → QOk s → IsMM xs s.1 s.2 → IsMM (xs ++ ys) (ys.foldl rslowS s).1 (ys.foldl rslowS s).2
  | [], xs, s, _, _, h => by simpa using h
  | p :: ys, xs, s, hr, hb, h => by
    have e1 : s.1.2 ≠ 0 := by have := hb.1.2.2.1; omega
    have e2 : s.2.2 ≠ 0 := by have := hb.2.2.2.1; omega
    have := rslow_mm ys (xs ++ [p]) (rslowS s p) (by simpa using hr) (rslowS_ok (hr p (by simp)) (.inr hb)) (mm_step (fun q hq => (hr q (by simp [hq])).2.2) (hr p (by simp)).2.2 h (by simp [rslowS, e1]) (by simp [rslowS, e2]))
    simpa using this
theorem rslowL_mm {xs : List (Arc × Arc)} (hn : xs ≠ []) (hr : ∀ q ∈ xs, PrOk q) : IsMM xs (rslowL xs).1 (rslowL xs).2 := by
  cases xs with
  | nil => exact absurd rfl hn
  | cons p xs =>
    have := rslow_mm xs [p] (rslowS ((0, 0), (0, 0)) p) (by simpa using hr) (rslowS_ok (hr p (by simp)) (.inl rfl)) (by simpa [rslowS] using mm_one p)
    simpa [rslowL] using this
/-- The pairs of the program are those of two rows, too. -/
theorem mem_pairsTo {l : List Arc} {p : Arc × Arc} : ∀ {k : Nat}, k ≤ l.length → (p ∈ pairsTo l k ↔ ∃ a b : Nat, b < k ∧ a < b ∧ l[a]? = some p.1 ∧ l[b]? = some p.2)
  | 0, _ => by simp [pairsTo]
  | k + 1, hk => by
    rw [pairsTo_succ l k (by omega), List.mem_append, mem_pairsTo (show k ≤ l.length by omega), List.mem_map]
    constructor
    · rintro (⟨a, b, h1, h2, h3, h4⟩ | ⟨x, hx, rfl⟩)
      · exact ⟨a, b, by omega, h2, h3, h4⟩
      · obtain ⟨j, hj⟩ := List.getElem?_of_mem hx
        have hjk : j < k := by
          have := (List.getElem?_eq_some_iff.1 hj).1
          rw [List.length_take] at this; omega
        rw [List.getElem?_take, if_pos hjk] at hj
        exact ⟨j, k, by omega, hjk, hj, by simp [show k < l.length by omega]⟩
    · rintro ⟨a, b, h1, h2, h3, h4⟩
      by_cases hb : b < k
      · exact .inl ⟨a, b, hb, h2, h3, h4⟩
      · have : b = k := by omega
        subst this
        right
        refine ⟨p.1, List.mem_of_getElem? (i := a) ?_, ?_⟩
        · rw [List.getElem?_take, if_pos h2]; exact h3
        · rw [(List.getElem?_eq_some_iff.1 h4).2]
theorem mem_pairs {l : List Arc} {p : Arc × Arc} : p ∈ pairsTo l l.length ↔ ∃ a b : Nat, a < b ∧ l[a]? = some p.1 ∧ l[b]? = some p.2 := by
  rw [mem_pairsTo (Nat.le_refl _)]
  exact ⟨fun ⟨a, b, _, h⟩ => ⟨a, b, h⟩, fun ⟨a, b, h1, h2, h3⟩ => ⟨a, b, (List.getElem?_eq_some_iff.1 h3).1, h1, h2, h3⟩⟩
theorem mem_pairs' {l : List Arc} {p : Arc × Arc} : p ∈ pairsR l l.length ↔ p ∈ pairsTo l l.length := by
  rw [mem_pairs, mem_pairsR (Nat.le_refl _)]
  exact ⟨fun ⟨a, b, _, h⟩ => ⟨a, b, h⟩, fun ⟨a, b, h1, h2, h3⟩ => ⟨a, b, (List.getElem?_eq_some_iff.1 h2).1, h1, h2, h3⟩⟩
theorem pairs_ne {l : List Arc} (hok : ArcsOk l) : pairsTo l l.length ≠ [] := fun e => by
  have h1 := pairsR_ne hok
  cases h : pairsR l l.length with
  | nil => exact h1 h
  | cons p ps =>
    have := (mem_pairs' (l := l) (p := p)).1 (by rw [h]; simp)
    rw [e] at this; cases this
theorem pairs_ok {l : List Arc} (hok : ArcsOk l) {p : Arc × Arc} (hp : p ∈ pairsTo l l.length) : PrOk p := pairsR_ok hok (Nat.le_refl _) p (mem_pairs'.2 hp)
theorem slow_is {l : List Arc} (hok : ArcsOk l) : IsMM (pairsTo l l.length) (slowOf l).le (slowOf l).mo := slowL_mm (pairs_ne hok) fun q hq => (pairs_ok hok hq).2.2
theorem rslow_is {l : List Arc} (hok : ArcsOk l) : IsMM (pairsTo l l.length) (rslow l).1 (rslow l).2 := by
  have h := rslowL_mm (pairsR_ne hok) (pairsR_ok hok (Nat.le_refl _))
  obtain ⟨⟨p, p1, p2⟩, h2, ⟨q, q1, q2⟩, h4⟩ := h
  exact ⟨⟨p, mem_pairs'.1 p1, p2⟩, fun p hp => h2 p (mem_pairs'.2 hp), ⟨q, mem_pairs'.1 q1, q2⟩, fun p hp => h4 p (mem_pairs'.2 hp)⟩
structure Same2 (le mo le' mo' : Int × Int) : Prop where
  l1 : 0 < le.2
  l2 : 0 < mo.2
  l3 : 0 < le'.2
  l4 : 0 < mo'.2
  le : le.1 * le'.2 = le'.1 * le.2
  mo : mo.1 * mo'.2 = mo'.1 * mo.2
theorem slow_same {l : List Arc} (hok : ArcsOk l) : Same2 (slowOf l).le (slowOf l).mo (rslow l).1 (rslow l).2 := by
  have h := slow_is hok
  have k := rslow_is hok
  obtain ⟨p, p1, p2⟩ := h.le1
  obtain ⟨q, q1, q2⟩ := h.mo1
  obtain ⟨p', p1', p2'⟩ := k.le1
  obtain ⟨q', q1', q2'⟩ := k.mo1
  refine ⟨by rw [p2]; exact way_pos (pairs_ok hok p1).2.2, by rw [q2]; exact way_pos (pairs_ok hok q1).2.2, by rw [p2']; exact way_pos (pairs_ok hok p1').2.2, by rw [q2']; exact way_pos (pairs_ok hok q1').2.2, ?_, ?_⟩
  · have h1 := k.le2 p p1; rw [← p2] at h1
    have h2 := h.le2 p' p1'; rw [← p2'] at h2
    exact Int.le_antisymm h1 h2
  · have h1 := h.mo2 q' q1'; rw [← q2'] at h1
    have h2 := k.mo2 q q1; rw [← q2] at h2
    exact Int.le_antisymm h1 h2
theorem same_less {le mo le' mo' : Int × Int} (h : Same2 le mo le' mo') : lessB mo le = lessB mo' le' := by
  have e1 : fle le le' := Int.le_of_eq h.le
  have e2 : fle le' le := Int.le_of_eq h.le.symm
  have e3 : fle mo mo' := Int.le_of_eq h.mo
  have e4 : fle mo' mo := Int.le_of_eq h.mo.symm
  have key : lessB mo le = false ↔ lessB mo' le' = false := by
    rw [less_fle, less_fle]
    exact ⟨fun q => fle_trans h.l3 h.l1 h.l4 e2 (fle_trans h.l1 h.l2 h.l4 q e3), fun q => fle_trans h.l1 h.l3 h.l2 e1 (fle_trans h.l3 h.l4 h.l2 q e4)⟩
  cases h1 : lessB mo le <;> cases h2 : lessB mo' le' <;> simp_all
theorem same_sign {a b c d : Int} (hb : 0 < b) (hd : 0 < d) (h : a * d = c * b) : (a ≤ 0 ↔ c ≤ 0) := by
  constructor
  · intro ha
    by_cases hc : c ≤ 0
    · exact hc
    · have h1 : 0 < c * b := Int.mul_pos (by omega) hb
      have h2 : a * d ≤ 0 := Int.mul_nonpos_of_nonpos_of_nonneg ha (by omega)
      omega
  · intro hc
    by_cases ha : a ≤ 0
    · exact ha
    · have h1 : 0 < a * d := Int.mul_pos (by omega) hd
      have h2 : c * b ≤ 0 := Int.mul_nonpos_of_nonpos_of_nonneg hc (by omega)
      omega
theorem speed_eq {l : List Arc} (h0 : (ckA l).2 = 0) : speedR l = rspeedR l := by
  have hok := (ckA_ok h0).1
  have h := slow_same hok
  unfold speedR rspeedR
  rw [if_neg (by rw [h0]; simp), same_less h]
  by_cases h1 : lessB (rslow l).2 (rslow l).1 = true
  · rw [if_pos h1, if_pos h1]
  rw [if_neg h1, if_neg h1]
  have hs := same_sign h.l1 h.l3 h.le
  by_cases h2 : (rslow l).1.1 ≤ 0
  · rw [if_pos h2, if_pos (hs.2 h2)]
  rw [if_neg h2, if_neg (fun q => h2 (hs.1 q))]
  have h3 : 0 < (slowOf l).le.1 := by have := hs.1; omega
  have g1 := slow_spd (s := ⟨(rslow l).1, (rslow l).2, true⟩) (by simp only; have := h.l3; omega) (by simp only; have := h.l4; omega) (by simp only; omega) (by simpa using h1)
  have g2 : ¬ (slowOf l).mo.1 ≤ 0 := fun q => by have := (same_sign h.l2 h.l4 h.mo).1 q; simp only at g1; omega
  simp only at g1
  have m := h.mo
  have e := h.le
  simp only [enc, perS, ceD, ceilI, Prod.mk.injEq, and_true]
  refine ⟨ediv_cross (by omega) (by omega) (by grind), ?_⟩
  rw [show (-(10000000 * (slowOf l).le.2)) / (slowOf l).le.1 = (-(10000000 * (rslow l).1.2)) / (rslow l).1.1 from ediv_cross (by omega) (by omega) (by grind)]
/-- The greatest delay that the pairs ask for is that of the greatest slowness. -/
theorem delay_core {l : List Arc} {ps : List (Arc × Arc)} {q : Int × Int} (hps : ∀ p, p ∈ ps ↔ ∃ a b : Nat, a < b ∧ l[a]? = some p.1 ∧ l[b]? = some p.2) (hr : ∀ p ∈ ps, p.1.r < p.2.r) (hr0 : ∀ x ∈ l, 0 ≤ x.r) (hl : ∀ x ∈ l, x.lo ≤ x.hi) (hn : ps ≠ [])
    (h1 : ∃ p ∈ ps, q = hiP p) (h2 : ∀ p ∈ ps, fle q (hiP p)) (h3 : ∀ p ∈ ps, fle (loP p) q) : maxF (ps.map lowP) = maxF (l.map (fA q)) := by
  have hln : l ≠ [] := by
    cases ps with
    | nil => exact absurd rfl hn
    | cons p ps =>
      obtain ⟨a, b, _, h, _⟩ := (hps p).1 (by simp)
      intro e; rw [e] at h; simp at h
  refine maxF_eq (by simpa using hn) (by simpa using hln) (fun x hx => ?_) (fun x hx => ?_)
  · obtain ⟨p, hp, rfl⟩ := List.mem_map.1 hx
    obtain ⟨a, b, hab, ha, hb⟩ := (hps p).1 hp
    have hm := List.mem_of_getElem? ha
    refine ⟨fA q p.1, List.mem_map.2 ⟨p.1, hm, rfl⟩, ?_⟩
    obtain ⟨p0, hp0, e⟩ := h1
    have hd : 0 < q.2 := by rw [e]; exact way_pos (hr p0 hp0)
    have hw := hr p hp
    have h4 := h2 p hp
    have h5 := hr0 _ hm
    unfold fle hiP wayP at h4
    simp only at h4
    refine ediv_le_cross (by omega) hd ?_
    have h6 : 0 ≤ p.1.r * ((p.2.hi - p.1.lo) * q.2 - q.1 * (2 * (p.2.r - p.1.r))) := Int.mul_nonneg h5 (by omega)
    grind
  · obtain ⟨x, hxm, rfl⟩ := List.mem_map.1 hx
    obtain ⟨p, hp, rfl⟩ := h1
    refine ⟨lowP p, List.mem_map.2 ⟨p, hp, rfl⟩, ?_⟩
    obtain ⟨a, b, hab, ha, hb⟩ := (hps p).1 hp
    obtain ⟨i, hi⟩ := List.getElem?_of_mem hxm
    have hw := hr p hp
    have key : x.lo * (p.2.r - p.1.r) ≤ p.2.hi * (p.2.r - p.1.r) + (p.2.hi - p.1.lo) * (x.r - p.2.r) := by
      rcases Nat.lt_trichotomy i b with h | h | h
      · have h4 := h2 (x, p.2) ((hps _).2 ⟨i, b, h, hi, hb⟩)
        unfold fle hiP wayP at h4
        simp only at h4
        grind
      · subst h
        rw [hi] at hb; cases hb
        have := Int.mul_le_mul_of_nonneg_right (hl _ hxm) (show 0 ≤ p.2.r - p.1.r by omega)
        grind
      · have h4 := h3 (p.2, x) ((hps _).2 ⟨b, i, h, hb, hi⟩)
        unfold fle loP hiP wayP at h4
        simp only at h4
        grind
    unfold fA lowP hiP wayP
    simp only
    refine ediv_le_cross (by omega) (by omega) ?_
    have h7 : x.lo * (2 * (p.2.r - p.1.r)) - 2 * x.r * (p.2.hi - p.1.lo) ≤ 2 * (p.2.r * p.1.lo - p.1.r * p.2.hi) := by grind
    have h8 := Int.mul_le_mul_of_nonneg_right h7 (show 0 ≤ p.2.r - p.1.r by omega)
    grind
def ngA (x : Arc) : Arc := ⟨x.r, -x.hi, -x.lo⟩
theorem delay_eq {l : List Arc} (h0 : (ckA l).2 = 0) : delayR l = rdelayR l := by
  have hok := (ckA_ok h0).1
  have h := slow_same hok
  have hm := rslow_is hok
  unfold delayR rdelayR
  rw [if_neg (by rw [h0]; simp), same_less h]
  by_cases h1 : lessB (rslow l).2 (rslow l).1 = true
  · rw [if_pos h1, if_pos h1]
  rw [if_neg h1, if_neg h1]
  have hle : fle (rslow l).1 (rslow l).2 := less_fle.1 (by simpa using h1)
  have hpw : ∀ p ∈ pairsTo l l.length, 0 < wayP p := fun p hp => way_pos (pairs_ok hok hp).2.2
  have hr0 : ∀ x ∈ l, 0 ≤ x.r := fun x hx => by have := (hok.ok x hx).1.1; omega
  have a1 : maxF ((pairsTo l l.length).map lowP) = maxF (l.map (fA (rslow l).2)) :=
    delay_core (fun p => mem_pairs) (fun p hp => (pairs_ok hok hp).2.2) hr0 (fun x hx => (hok.ok x hx).2) (pairs_ne hok) hm.mo1 hm.mo2 fun p hp => fle_trans (hpw p hp) h.l3 h.l4 (hm.le2 p hp) hle
  have a2 : minF ((pairsTo l l.length).map highP) = minF (l.map (fB (rslow l).1)) := by
    rw [minF_neg, minF_neg]
    congr 1
    have c1 : ((pairsTo l l.length).map highP).map (fun x => -x) = ((pairsTo l l.length).map fun p => (ngA p.1, ngA p.2)).map lowP := by
      rw [List.map_map, List.map_map]
      refine List.map_congr_left fun p _ => ?_
      simp only [Function.comp, highP, lowP, ngA, ceD, Int.neg_neg]
      congr 1
      grind
    have c2 : (l.map (fB (rslow l).1)).map (fun x => -x) = (l.map ngA).map (fA (-(rslow l).1.1, (rslow l).1.2)) := by
      rw [List.map_map, List.map_map]
      refine List.map_congr_left fun x _ => ?_
      simp only [Function.comp, fA, fB, ngA, ceilI, Int.neg_neg]
      congr 1
      grind
    rw [c1, c2]
    have g : ∀ (i : Nat) (x : Arc), (l.map ngA)[i]? = some x ↔ ∃ y, l[i]? = some y ∧ ngA y = x := fun i x => by rw [List.getElem?_map]; simp
    refine delay_core (fun p => ?_) (fun p hp => ?_) (fun x hx => ?_) (fun x hx => ?_) (by simpa using pairs_ne hok) ?_ (fun p hp => ?_) (fun p hp => ?_)
    · constructor
      · intro hp
        obtain ⟨p', hp', rfl⟩ := List.mem_map.1 hp
        obtain ⟨a, b, hab, ha, hb⟩ := mem_pairs.1 hp'
        exact ⟨a, b, hab, (g _ _).2 ⟨_, ha, rfl⟩, (g _ _).2 ⟨_, hb, rfl⟩⟩
      · rintro ⟨a, b, hab, ha, hb⟩
        obtain ⟨x, hx, e1⟩ := (g _ _).1 ha
        obtain ⟨y, hy, e2⟩ := (g _ _).1 hb
        exact List.mem_map.2 ⟨(x, y), mem_pairs.2 ⟨a, b, hab, hx, hy⟩, by simp [e1, e2]⟩
    · obtain ⟨p', hp', rfl⟩ := List.mem_map.1 hp
      exact (pairs_ok hok hp').2.2
    · obtain ⟨y, hy, rfl⟩ := List.mem_map.1 hx
      exact hr0 y hy
    · obtain ⟨y, hy, rfl⟩ := List.mem_map.1 hx
      have := (hok.ok y hy).2
      simp only [ngA]; omega
    · obtain ⟨p, hp, e⟩ := hm.le1
      refine ⟨(ngA p.1, ngA p.2), List.mem_map.2 ⟨p, hp, rfl⟩, ?_⟩
      rw [e]
      simp only [hiP, loP, wayP, ngA, Prod.mk.injEq, and_true]
      omega
    · obtain ⟨p', hp', rfl⟩ := List.mem_map.1 hp
      have := hm.le2 p' hp'
      unfold fle loP wayP at this
      unfold fle hiP wayP ngA
      simp only at this ⊢
      grind
    · obtain ⟨p', hp', rfl⟩ := List.mem_map.1 hp
      have := fle_trans h.l3 h.l4 (hpw p' hp') hle (hm.mo2 p' hp')
      unfold fle hiP wayP at this
      unfold fle loP wayP ngA
      simp only at this ⊢
      grind
  rw [a1, a2]
end Go.Proofs.Ytgdcidbpadhkpaa.Am.M
