/- Contracts over the abstract machine: TuneExplained. Conditions: none. -/
import Derived.Test.YtgdcidbpadhkpaaL11
set_option linter.unusedVariables false
set_option linter.unusedSimpArgs false
namespace Go.Proofs.Ytgdcidbpadhkpaa.Am.M
open Go

/-- An arc is explained. -/
def Expl (d s : Int) (x : Arc) : Prop := (x.lo - d) * s ≤ 20000000 * x.r ∧ 20000000 * x.r ≤ (x.hi - d) * s
theorem expl_exP {d s : Int} {x : Arc} (h : Expl d s x) : exP d s x = true := by
  rw [← exQ_eq]
  unfold exQ Expl at *
  simp; omega
theorem expl_lo {d s : Int} {p : Arc × Arc} (h1 : Expl d s p.1) (h2 : Expl d s p.2) : (loP p).1 * s ≤ 10000000 * (loP p).2 := by
  unfold Expl at *
  unfold loP wayP
  simp only
  grind
theorem expl_hi {d s : Int} {p : Arc × Arc} (h1 : Expl d s p.1) (h2 : Expl d s p.2) : 10000000 * (hiP p).2 ≤ (hiP p).1 * s := by
  unfold Expl at *
  unfold hiP wayP
  simp only
  grind
theorem low_le {d s : Int} {p : Arc × Arc} (hs : 0 < s) (hr1 : 0 ≤ p.1.r) (hr2 : 0 ≤ p.2.r) (hw : p.1.r < p.2.r) (h1 : Expl d s p.1) (h2 : Expl d s p.2) : lowP p ≤ d := by
  obtain ⟨a1, _⟩ := h1
  obtain ⟨_, b2⟩ := h2
  have m1 := Int.mul_le_mul_of_nonneg_left a1 hr2
  have m2 := Int.mul_le_mul_of_nonneg_left b2 hr1
  have key : (p.2.r * p.1.lo - p.1.r * p.2.hi) * s ≤ (d * (p.2.r - p.1.r)) * s := by grind
  have k2 := Int.le_of_mul_le_mul_right key hs
  unfold lowP
  have := Int.ediv_le_ediv (show 0 < p.2.r - p.1.r by omega) k2
  rwa [Int.mul_ediv_cancel _ (by omega)] at this
theorem high_ge {d s : Int} {p : Arc × Arc} (hs : 0 < s) (hr1 : 0 ≤ p.1.r) (hr2 : 0 ≤ p.2.r) (hw : p.1.r < p.2.r) (h1 : Expl d s p.1) (h2 : Expl d s p.2) : d ≤ highP p := by
  obtain ⟨_, a2⟩ := h1
  obtain ⟨b1, _⟩ := h2
  have m1 := Int.mul_le_mul_of_nonneg_left a2 hr2
  have m2 := Int.mul_le_mul_of_nonneg_left b1 hr1
  have key : (-(p.2.r * p.1.hi - p.1.r * p.2.lo)) * s ≤ ((-d) * (p.2.r - p.1.r)) * s := by grind
  have k2 := Int.le_of_mul_le_mul_right key hs
  unfold highP ceD
  have := Int.ediv_le_ediv (show 0 < p.2.r - p.1.r by omega) k2
  rw [Int.mul_ediv_cancel _ (by omega)] at this
  omega
theorem minF_ge {l : List Int} {b : Int} (hn : l ≠ []) (h : ∀ x ∈ l, b ≤ x) : b ≤ minF l := by
  rw [minF_neg]
  have := maxF_le (l := l.map fun x => -x) (b := -b) (by simpa using hn) (fun x hx => by
    obtain ⟨y, hy, rfl⟩ := List.mem_map.1 hx
    have := h y hy; omega)
  omega
theorem minF_le {l : List Int} {x : Int} (h : x ∈ l) : minF l ≤ x := by
  rw [minF_neg]
  have := maxF_ge (l := l.map fun x => -x) (x := -x) (List.mem_map.2 ⟨x, h, rfl⟩)
  omega
/-- What explains right arcs is enclosed. -/
structure Encl (l : List Arc) (d s : Int) : Prop where
  poss : lessB (slowOf l).mo (slowOf l).le = false
  ex : explR l d s = (true, 0)
  dl : delayR l = ((maxF ((pairsTo l l.length).map lowP), minF ((pairsTo l l.length).map highP)), 0)
  d1 : maxF ((pairsTo l l.length).map lowP) ≤ d
  d2 : d ≤ minF ((pairsTo l l.length).map highP)
  sp : ((slowOf l).le.1 ≤ 0 ∧ speedR l = ((0, 0), 11)) ∨ (0 < (slowOf l).le.1 ∧ 0 < (slowOf l).mo.1 ∧ speedR l = ((10000000 * (slowOf l).mo.2 / (slowOf l).mo.1, -((-(10000000 * (slowOf l).le.2)) / (slowOf l).le.1)), 0) ∧
    10000000 * (slowOf l).mo.2 / (slowOf l).mo.1 ≤ s ∧ s ≤ -((-(10000000 * (slowOf l).le.2)) / (slowOf l).le.1))
theorem encl {l : List Arc} {d s : Int} (h0 : (ckA l).2 = 0) (hd : -1000000000000 ≤ d ∧ d ≤ 1000000000000) (hs : 500 ≤ s ∧ s ≤ 10000) (h : ∀ x ∈ l, Expl d s x) : Encl l d s := by
  have hok := (ckA_ok h0).1
  have hm := slow_is hok
  have hpe : ∀ p ∈ pairsTo l l.length, Expl d s p.1 ∧ Expl d s p.2 := fun p hp => by
    obtain ⟨a, b, _, ha, hb⟩ := mem_pairs.1 hp
    exact ⟨h _ (List.mem_of_getElem? ha), h _ (List.mem_of_getElem? hb)⟩
  obtain ⟨p, hp, e1⟩ := hm.le1
  obtain ⟨q, hq, e2⟩ := hm.mo1
  have wl : 0 < (slowOf l).le.2 := by rw [e1]; exact way_pos (pairs_ok hok hp).2.2
  have wm : 0 < (slowOf l).mo.2 := by rw [e2]; exact way_pos (pairs_ok hok hq).2.2
  have g1 : (slowOf l).le.1 * s ≤ 10000000 * (slowOf l).le.2 := by rw [e1]; exact expl_lo (hpe p hp).1 (hpe p hp).2
  have g2 : 10000000 * (slowOf l).mo.2 ≤ (slowOf l).mo.1 * s := by rw [e2]; exact expl_hi (hpe q hq).1 (hpe q hq).2
  have hposs : lessB (slowOf l).mo (slowOf l).le = false := by
    rw [less_fle]
    exact fle_trans (b := (10000000, s)) wl (by simp only; omega) wm (by unfold fle; simp only; omega) (by unfold fle; simp only; omega)
  have hmo : 0 < (slowOf l).mo.1 := by
    by_cases h : 0 < (slowOf l).mo.1
    · exact h
    · have := Int.mul_nonpos_of_nonpos_of_nonneg (show (slowOf l).mo.1 ≤ 0 by omega) (show 0 ≤ s by omega)
      omega
  refine ⟨hposs, ?_, ?_, ?_, ?_, ?_⟩
  · unfold explR
    rw [if_neg (by rw [h0]; simp), if_neg (by simp [inR]; omega)]
    have : (l.any fun a => !exP d s a) = false := List.any_eq_false.2 fun x hx => by rw [expl_exP (h x hx)]; simp
    rw [this]; rfl
  · unfold delayR
    rw [if_neg (by rw [h0]; simp), if_neg (by rw [hposs]; simp)]
  · refine maxF_le (by simpa using pairs_ne hok) fun x hx => ?_
    obtain ⟨r, hr, rfl⟩ := List.mem_map.1 hx
    have k := pairs_ok hok hr
    exact low_le (by omega) (by have := k.1.1; omega) (by have := k.2.1.1; omega) k.2.2 (hpe r hr).1 (hpe r hr).2
  · refine minF_ge (by simpa using pairs_ne hok) fun x hx => ?_
    obtain ⟨r, hr, rfl⟩ := List.mem_map.1 hx
    have k := pairs_ok hok hr
    exact high_ge (by omega) (by have := k.1.1; omega) (by have := k.2.1.1; omega) k.2.2 (hpe r hr).1 (hpe r hr).2
  · unfold speedR
    rw [if_neg (by rw [h0]; simp), if_neg (by rw [hposs]; simp)]
    by_cases h1 : (slowOf l).le.1 ≤ 0
    · rw [if_pos h1]; exact .inl ⟨h1, rfl⟩
    · rw [if_neg h1]
      refine .inr ⟨by omega, hmo, ?_, ?_, ?_⟩
      · simp only [enc, perS, ceD]
      · have := Int.ediv_le_ediv hmo g2
        rwa [Int.mul_comm _ s, Int.mul_ediv_cancel _ (by omega)] at this
      · have := Int.ediv_le_ediv (show 0 < (slowOf l).le.1 by omega) (show -(10000000 * (slowOf l).le.2) ≤ (-s) * (slowOf l).le.1 by grind)
        rw [Int.mul_ediv_cancel _ (by omega)] at this
        omega
/-- Narrower times. -/
def Narrow (l n : List Arc) : Prop := n.length = l.length ∧ ∀ (i : Nat) (x y : Arc), l[i]? = some x → n[i]? = some y → y.r = x.r ∧ x.lo ≤ y.lo ∧ y.hi ≤ x.hi
theorem narrow_pair {l n : List Arc} (h : Narrow l n) {p : Arc × Arc} (hp : p ∈ pairsTo l l.length) : ∃ q ∈ pairsTo n n.length, q.1.r = p.1.r ∧ q.2.r = p.2.r ∧ p.1.lo ≤ q.1.lo ∧ q.1.hi ≤ p.1.hi ∧ p.2.lo ≤ q.2.lo ∧ q.2.hi ≤ p.2.hi := by
  obtain ⟨a, b, hab, ha, hb⟩ := mem_pairs.1 hp
  have la := (List.getElem?_eq_some_iff.1 ha).1
  have lb := (List.getElem?_eq_some_iff.1 hb).1
  obtain ⟨x, hx⟩ : ∃ x, n[a]? = some x := ⟨_, List.getElem?_eq_getElem (by rw [h.1]; exact la)⟩
  obtain ⟨y, hy⟩ : ∃ x, n[b]? = some x := ⟨_, List.getElem?_eq_getElem (by rw [h.1]; exact lb)⟩
  obtain ⟨k1, k2, k3⟩ := h.2 a _ x ha hx
  obtain ⟨k4, k5, k6⟩ := h.2 b _ y hb hy
  exact ⟨(x, y), mem_pairs.2 ⟨a, b, hab, hx, hy⟩, k1, k4, k2, k3, k5, k6⟩
/-- Narrower times make no range wider. -/
theorem narrower {l n : List Arc} (hl : ArcsOk l) (hn : ArcsOk n) (h : Narrow l n) :
    maxF ((pairsTo l l.length).map lowP) ≤ maxF ((pairsTo n n.length).map lowP) ∧ minF ((pairsTo n n.length).map highP) ≤ minF ((pairsTo l l.length).map highP) ∧ fle (slowOf l).le (slowOf n).le ∧ fle (slowOf n).mo (slowOf l).mo := by
  have ml := slow_is hl
  have mn := slow_is hn
  refine ⟨maxF_le (by simpa using pairs_ne hl) fun x hx => ?_, minF_ge (by simpa using pairs_ne hl) fun x hx => ?_, ?_, ?_⟩
  · obtain ⟨p, hp, rfl⟩ := List.mem_map.1 hx
    obtain ⟨q, hq, e1, e2, i1, i2, i3, i4⟩ := narrow_pair h hp
    refine Int.le_trans ?_ (maxF_ge (List.mem_map.2 ⟨q, hq, rfl⟩))
    have k := pairs_ok hl hp
    have m1 := Int.mul_le_mul_of_nonneg_left i1 (show 0 ≤ p.2.r by have := k.2.1.1; omega)
    have m2 := Int.mul_le_mul_of_nonneg_left i4 (show 0 ≤ p.1.r by have := k.1.1; omega)
    unfold lowP
    rw [e1, e2]
    exact Int.ediv_le_ediv (by have := k.2.2; omega) (by omega)
  · obtain ⟨p, hp, rfl⟩ := List.mem_map.1 hx
    obtain ⟨q, hq, e1, e2, i1, i2, i3, i4⟩ := narrow_pair h hp
    refine Int.le_trans (minF_le (List.mem_map.2 ⟨q, hq, rfl⟩)) ?_
    have k := pairs_ok hl hp
    have m1 := Int.mul_le_mul_of_nonneg_left i2 (show 0 ≤ p.2.r by have := k.2.1.1; omega)
    have m2 := Int.mul_le_mul_of_nonneg_left i3 (show 0 ≤ p.1.r by have := k.1.1; omega)
    unfold highP ceD
    rw [e1, e2]
    have := Int.ediv_le_ediv (show 0 < p.2.r - p.1.r by have := k.2.2; omega) (show -(p.2.r * p.1.hi - p.1.r * p.2.lo) ≤ -(p.2.r * q.1.hi - p.1.r * q.2.lo) by omega)
    omega
  · obtain ⟨p, hp, e⟩ := ml.le1
    obtain ⟨q, hq, e1, e2, i1, i2, i3, i4⟩ := narrow_pair h hp
    have k := pairs_ok hl hp
    obtain ⟨r, hr, e'⟩ := mn.le1
    rw [e]
    refine fle_trans (way_pos k.2.2) (way_pos (pairs_ok hn hq).2.2) (by rw [e']; exact way_pos (pairs_ok hn hr).2.2) ?_ (mn.le2 q hq)
    unfold fle loP wayP
    simp only
    rw [e1, e2]
    have := Int.mul_le_mul_of_nonneg_right (show p.2.lo - p.1.hi ≤ q.2.lo - q.1.hi by omega) (show 0 ≤ 2 * (p.2.r - p.1.r) by have := k.2.2; omega)
    exact this
  · obtain ⟨p, hp, e⟩ := ml.mo1
    obtain ⟨q, hq, e1, e2, i1, i2, i3, i4⟩ := narrow_pair h hp
    have k := pairs_ok hl hp
    obtain ⟨r, hr, e'⟩ := mn.mo1
    rw [e]
    refine fle_trans (by rw [e']; exact way_pos (pairs_ok hn hr).2.2) (way_pos (pairs_ok hn hq).2.2) (way_pos k.2.2) (mn.mo2 q hq) ?_
    unfold fle hiP wayP
    simp only
    rw [e1, e2]
    have := Int.mul_le_mul_of_nonneg_right (show q.2.hi - q.1.lo ≤ p.2.hi - p.1.lo by omega) (show 0 ≤ 2 * (p.2.r - p.1.r) by have := k.2.2; omega)
    exact this
/-- Right arcs are told right. -/
theorem ckArcs_zero : ∀ (l : List Arc) (i : Nat) (p : Option Int), (∀ x ∈ l, arcBad x = 0) → AscA l → (∀ d, p = some d → ∀ x ∈ l, d < x.r) → ckArcs i p l = (0, 0)
  | [], _, _, _, _, _ => rfl
  | x :: xs, i, p, h1, h2, h3 => by
    unfold ckArcs
    rw [if_neg (by rw [h1 x (by simp)]; simp)]
    have ho : ¬ Go.Proofs.Ytgdcidbpadhkpaa.ordBad p x.r = true := by
      cases p with
      | none => simp [Go.Proofs.Ytgdcidbpadhkpaa.ordBad]
      | some d => have := h3 d rfl x (by simp); simp [Go.Proofs.Ytgdcidbpadhkpaa.ordBad]; omega
    rw [if_neg ho]
    have h4 := List.pairwise_cons.1 h2
    exact ckArcs_zero xs _ _ (fun y hy => h1 y (by simp [hy])) h4.2 (fun d hd y hy => by cases hd; exact h4.1 y hy)
theorem ckA_zero {l : List Arc} (h : ArcsOk l) : (ckA l).2 = 0 := by
  unfold ckA
  rw [if_neg (by have := h.two; omega), if_neg (by have := h.few; omega), ckArcs_zero l 0 none (fun x hx => arcBad_zero.2 (h.ok x hx)) h.asc (fun d hd => by cases hd)]

theorem exAll {l n : List Arc} {d s : Int} (h0 : (ckA l).2 = 0) (hn : ArcsOk n) (hN : Narrow l n) (hd : -1000000000000 ≤ d ∧ d ≤ 1000000000000) (hs : 500 ≤ s ∧ s ≤ 10000) (h1 : ∀ x ∈ l, Expl d s x) (h2 : ∀ x ∈ n, Expl d s x) :
    ∃ M m M' m' : Int, delayR l = ((M, m), 0) ∧ delayR n = ((M', m'), 0) ∧ M ≤ d ∧ d ≤ m ∧ M ≤ M' ∧ m' ≤ m ∧ explR l d s = (true, 0) ∧
      ((speedR l).2 = 11 ∨ ((speedR l).2 = 0 ∧ (speedR n).2 = 0 ∧ (speedR l).1.1 ≤ s ∧ s ≤ (speedR l).1.2 ∧ (speedR l).1.1 ≤ (speedR n).1.1 ∧ (speedR n).1.2 ≤ (speedR l).1.2)) := by
  have hok := (ckA_ok h0).1
  have a := encl h0 hd hs h1
  have b := encl (ckA_zero hn) hd hs h2
  obtain ⟨n1, n2, n3, n4⟩ := narrower hok hn hN
  refine ⟨_, _, _, _, a.dl, b.dl, a.d1, a.d2, n1, n2, a.ex, ?_⟩
  rcases a.sp with ⟨_, e⟩ | ⟨p1, p2, e, i1, i2⟩
  · rw [e]; exact .inl rfl
  · right
    have wl := (slow_same hok).l1
    have wn := (slow_same hn).l1
    unfold fle at n3 n4
    have q1 : 0 < (slowOf n).le.1 := by
      by_cases h : 0 < (slowOf n).le.1
      · exact h
      · have k1 := Int.mul_pos p1 wn
        have k2 := Int.mul_nonpos_of_nonpos_of_nonneg (show (slowOf n).le.1 ≤ 0 by omega) (show 0 ≤ (slowOf l).le.2 by omega)
        omega
    rcases b.sp with ⟨k, _⟩ | ⟨_, q2, e', _, _⟩
    · omega
    · rw [e, e']
      have j1 := ediv_le_cross (x := 10000000 * (slowOf l).mo.2) (y := 10000000 * (slowOf n).mo.2) p2 q2 (by grind)
      have j2 := ediv_le_cross (x := -(10000000 * (slowOf l).le.2)) (y := -(10000000 * (slowOf n).le.2)) p1 q1 (by grind)
      exact ⟨rfl, rfl, i1, i2, j1, by simp only; omega⟩
def arcW (d s r : Int) (w : Int × Int) : Arc := ⟨r, max 0 (d + 20000000 * r / s - w.1), d + ceilI (20000000 * r) s + w.2⟩
def arcN (d s r : Int) : Arc := ⟨r, d + 20000000 * r / s, d + ceilI (20000000 * r) s⟩
structure WOk (d s : Int) (r : Int) (w : Int × Int) : Prop where
  d1 : 0 ≤ d
  d2 : d ≤ 1000000000
  s1 : 500 ≤ s
  s2 : s ≤ 10000
  r1 : 1 ≤ r
  r2 : r ≤ 100000
  w1 : 0 ≤ w.1
  w2 : w.1 ≤ 1000000000
  w3 : 0 ≤ w.2
  w4 : w.2 ≤ 1000000000
theorem q_bounds {s r : Int} (s1 : 500 ≤ s) (r1 : 1 ≤ r) (r2 : r ≤ 100000) : 0 ≤ 20000000 * r / s ∧ 20000000 * r / s ≤ 4000000000 ∧ 20000000 * r / s ≤ ceilI (20000000 * r) s ∧ ceilI (20000000 * r) s ≤ 4000000000 ∧ 20000000 * r / s * s ≤ 20000000 * r ∧ 20000000 * r ≤ ceilI (20000000 * r) s * s := by
  have hs : 0 < s := by omega
  have e1 : 20000000 * r / s * s ≤ 20000000 * r := Int.ediv_mul_le _ (by omega)
  have e2 : (-(20000000 * r)) / s * s ≤ -(20000000 * r) := Int.ediv_mul_le _ (by omega)
  have e3 : 20000000 * r ≤ ceilI (20000000 * r) s * s := by unfold ceilI; grind
  have g1 : 0 ≤ 20000000 * r / s := Int.ediv_nonneg (by omega) (by omega)
  have m1 : 4000000000 * 500 ≤ 4000000000 * s := by omega
  have g2 : 20000000 * r / s ≤ 4000000000 := by
    have := Int.ediv_le_ediv hs (show 20000000 * r ≤ 4000000000 * s by omega)
    rwa [Int.mul_ediv_cancel _ (by omega)] at this
  have g3 : ceilI (20000000 * r) s ≤ 4000000000 := by
    have := Int.ediv_le_ediv hs (show (-4000000000) * s ≤ -(20000000 * r) by omega)
    rw [Int.mul_ediv_cancel _ (by omega)] at this
    unfold ceilI; omega
  have g4 : 20000000 * r / s ≤ ceilI (20000000 * r) s := by
    have : 20000000 * r / s * s ≤ ceilI (20000000 * r) s * s := by omega
    exact Int.le_of_mul_le_mul_right this hs
  exact ⟨g1, g2, g4, g3, e1, e3⟩
theorem arcN_expl {d s r : Int} (s1 : 500 ≤ s) (r1 : 1 ≤ r) (r2 : r ≤ 100000) : Expl d s (arcN d s r) := by
  obtain ⟨g1, g2, g3, g4, g5, g6⟩ := q_bounds s1 r1 r2
  unfold Expl arcN
  simp only
  exact ⟨by grind, by grind⟩
theorem arcW_expl {d s r : Int} {w : Int × Int} (h : WOk d s r w) : Expl d s (arcW d s r w) := by
  obtain ⟨g1, g2, g3, g4, g5, g6⟩ := q_bounds h.s1 h.r1 h.r2
  obtain ⟨d1, d2, s1, s2, r1, r2, w1, w2, w3, w4⟩ := h
  unfold Expl arcW
  simp only
  have hs : 0 ≤ s := by omega
  have k1 : (max 0 (d + 20000000 * r / s - w.1) - d) ≤ 20000000 * r / s := by omega
  have k2 := Int.mul_le_mul_of_nonneg_right k1 hs
  have k3 : ceilI (20000000 * r) s ≤ d + ceilI (20000000 * r) s + w.2 - d := by omega
  have k4 := Int.mul_le_mul_of_nonneg_right k3 hs
  exact ⟨by omega, by omega⟩
def wL (d s : Int) (rs : List Int) (ws : List (Int × Int)) : List Arc := (rs.zip ws).map fun p => arcW d s p.1 p.2
def nL (d s : Int) (rs : List Int) : List Arc := rs.map (arcN d s)
theorem wL_snoc {d s : Int} {rs : List Int} {ws : List (Int × Int)} {k : Nat} {r : Int} {w : Int × Int} (hr : rs[k]? = some r) (hw : ws[k]? = some w) : wL d s (rs.take (k + 1)) (ws.take (k + 1)) = wL d s (rs.take k) (ws.take k) ++ [arcW d s r w] := by
  obtain ⟨h1, rfl⟩ := List.getElem?_eq_some_iff.1 hr
  obtain ⟨h2, rfl⟩ := List.getElem?_eq_some_iff.1 hw
  unfold wL
  rw [List.take_succ_eq_append_getElem h1, List.take_succ_eq_append_getElem h2, List.zip_append (by rw [List.length_take, List.length_take]; omega), List.map_append]; rfl
theorem nL_snoc {d s : Int} {rs : List Int} {k : Nat} {r : Int} (hr : rs[k]? = some r) : nL d s (rs.take (k + 1)) = nL d s (rs.take k) ++ [arcN d s r] := by
  obtain ⟨h1, rfl⟩ := List.getElem?_eq_some_iff.1 hr
  unfold nL
  rw [List.take_succ_eq_append_getElem h1, List.map_append]; rfl
/-- What the loop has shown: the arcs that are made are explained, and narrower ones are right if these are. -/
theorem made {d s : Int} {rs : List Int} {ws : List (Int × Int)} (hlw : rs.length ≤ ws.length) (h : ∀ (i : Nat) (r : Int) (w : Int × Int), rs[i]? = some r → ws[i]? = some w → WOk d s r w) (h0 : (ckA (wL d s rs ws)).2 = 0) :
    ArcsOk (nL d s rs) ∧ Narrow (wL d s rs ws) (nL d s rs) ∧ (∀ x ∈ wL d s rs ws, Expl d s x) ∧ ∀ x ∈ nL d s rs, Expl d s x := by
  have hok := (ckA_ok h0).1
  have gw : ∀ (i : Nat) (x : Arc), (wL d s rs ws)[i]? = some x ↔ ∃ r w, rs[i]? = some r ∧ ws[i]? = some w ∧ arcW d s r w = x := fun i x => by
    unfold wL
    rw [List.getElem?_map, Option.map_eq_some_iff]
    constructor
    · rintro ⟨⟨r, w⟩, h1, h2⟩
      rw [List.getElem?_zip_eq_some] at h1
      exact ⟨r, w, h1.1, h1.2, h2⟩
    · rintro ⟨r, w, h1, h2, h3⟩
      exact ⟨(r, w), List.getElem?_zip_eq_some.2 ⟨h1, h2⟩, h3⟩
  have gn : ∀ (i : Nat) (x : Arc), (nL d s rs)[i]? = some x ↔ ∃ r, rs[i]? = some r ∧ arcN d s r = x := fun i x => by
    unfold nL
    rw [List.getElem?_map, Option.map_eq_some_iff]
  have hwl : (wL d s rs ws).length = rs.length := by unfold wL; rw [List.length_map, List.length_zip]; omega
  have hnl : (nL d s rs).length = rs.length := by unfold nL; rw [List.length_map]
  have hat : ∀ (i : Nat) (r : Int), rs[i]? = some r → ∃ w, ws[i]? = some w ∧ WOk d s r w := fun i r hr => by
    have := (List.getElem?_eq_some_iff.1 hr).1
    exact ⟨ws[i], List.getElem?_eq_getElem (by omega), h i r _ hr (List.getElem?_eq_getElem (by omega))⟩
  have hN : Narrow (wL d s rs ws) (nL d s rs) := by
    refine ⟨by omega, fun i x y hx hy => ?_⟩
    obtain ⟨r, w, h1, h2, rfl⟩ := (gw i x).1 hx
    obtain ⟨r', h3, rfl⟩ := (gn i y).1 hy
    rw [h1] at h3; cases h3
    have k := h i r w h1 h2
    obtain ⟨g1, g2, g3, g4, g5, g6⟩ := q_bounds k.s1 k.r1 k.r2
    obtain ⟨d1, d2, s1, s2, r1, r2, w1, w2, w3, w4⟩ := k
    unfold arcW arcN
    simp only
    refine ⟨trivial, by omega, by omega⟩
  refine ⟨⟨?_, ?_, fun x hx => ?_, ?_⟩, hN, fun x hx => ?_, fun x hx => ?_⟩
  · have := hok.two; omega
  · have := hok.few; omega
  · obtain ⟨i, hi⟩ := List.getElem?_of_mem hx
    obtain ⟨r, h1, rfl⟩ := (gn i x).1 hi
    obtain ⟨w, _, k⟩ := hat i r h1
    obtain ⟨g1, g2, g3, g4, g5, g6⟩ := q_bounds k.s1 k.r1 k.r2
    obtain ⟨d1, d2, s1, s2, r1, r2, w1, w2, w3, w4⟩ := k
    unfold ArcOk arcN
    simp only
    omega
  · unfold AscA
    rw [List.pairwise_iff_getElem]
    intro i j hi hj hij
    have ha := List.getElem?_eq_getElem (l := wL d s rs ws) (i := i) (by omega)
    have hb := List.getElem?_eq_getElem (l := wL d s rs ws) (i := j) (by omega)
    have e1 := (hN.2 i _ _ ha (List.getElem?_eq_getElem hi)).1
    have e2 := (hN.2 j _ _ hb (List.getElem?_eq_getElem hj)).1
    have := List.pairwise_iff_getElem.1 hok.asc i j (by omega) (by omega) hij
    omega
  · obtain ⟨i, hi⟩ := List.getElem?_of_mem hx
    obtain ⟨r, w, h1, h2, rfl⟩ := (gw i x).1 hi
    exact arcW_expl (h i r w h1 h2)
  · obtain ⟨i, hi⟩ := List.getElem?_of_mem hx
    obtain ⟨r, h1, rfl⟩ := (gn i x).1 hi
    obtain ⟨w, _, k⟩ := hat i r h1
    exact arcN_expl k.s1 k.r1 k.r2
end Go.Proofs.Ytgdcidbpadhkpaa.Am.M
