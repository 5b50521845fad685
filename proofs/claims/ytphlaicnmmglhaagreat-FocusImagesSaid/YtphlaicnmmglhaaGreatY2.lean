/- Contracts over the abstract machine: plain laws of floats that are whole numbers. Conditions: none. -/
import Derived.Test.YtphlaicnmmglhaaGreatY1
import Derived.Laws.FloatArith
import Derived.Laws.ComplexArith
set_option linter.unusedVariables false
set_option linter.unusedSimpArgs false
namespace Go.Proofs.YtphlaicnmmglhaaGreat.Am.M
open Go

structure Fm (f : Ieee.Format) (p L I : Nat) : Prop where
  fb : f.fractionBits = p
  lp : f.leastPlace = -(L : Int)
  pl : p ≤ L
  li : L + 2 ≤ I
  inf : f.infRung = I * 2 ^ p
  sw : f.signWeight = (I + 1) * 2 ^ p
  bn : f.binade = 2 ^ p
theorem fmS : Fm Ieee.single 23 149 255 := ⟨rfl, by decide, by decide, by decide, by decide, by decide, by decide⟩
theorem fmD : Fm Ieee.double 52 1074 2047 := ⟨rfl, by decide, by decide, by decide, by decide +kernel, by decide +kernel, by decide⟩
theorem log2_mul {c d : Nat} (hc : c ≠ 0) : (c * 2 ^ d).log2 = c.log2 + d := by
  induction d with
  | zero => simp
  | succ d ih =>
    rw [Nat.pow_succ, ← Nat.mul_assoc, Nat.mul_comm _ 2, Nat.log2_two_mul (by have := Nat.two_pow_pos d; exact Nat.mul_ne_zero hc (by omega)), ih]
    omega
theorem cut_even {neg : Bool} {c d : Nat} (hc : c ≠ 0) : Ieee.Toward.even.cut neg (c * 2 ^ d) d = c := by
  have hl := log2_mul (d := d) hc
  have hm : min d ((c * 2 ^ d).log2 + 2) = d := by rw [hl]; omega
  have hp := Nat.two_pow_pos d
  unfold Ieee.Toward.cut
  simp only [hm, Nat.one_shiftLeft, Nat.mul_div_cancel _ hp, Nat.mul_mod_left]
  have : (2 ^ d == 2 * 0) = false := by simp
  simp
theorem cut_zero {neg : Bool} {c d : Nat} : Ieee.Toward.zero.cut neg (c * 2 ^ d) d = c := by
  have hp := Nat.two_pow_pos d
  unfold Ieee.Toward.cut
  by_cases hc : c = 0
  · subst hc; simp
  have hl := log2_mul (d := d) hc
  have hm : min d ((c * 2 ^ d).log2 + 2) = d := by rw [hl]; omega
  simp only [hm, Nat.one_shiftLeft, Nat.mul_div_cancel _ hp]
  simp
variable {f : Ieee.Format} {p L I : Nat}
theorem log_le {n : Nat} (hn : 0 < n) (hlt : n < 2 ^ (p + 1)) : n.log2 ≤ p := by
  have := (Nat.log2_lt (by omega)).2 hlt
  omega
theorem nearest_at (h : Fm f p L I) (neg : Bool) {n : Nat} (K : Nat) (hn : 0 < n) (hlt : n < 2 ^ (p + 1)) :
    f.nearest neg (n * 2 ^ K) (-(K : Int)) = f.word neg (min ((L + n.log2 - p) * 2 ^ p + n * 2 ^ (p - n.log2)) (I * 2 ^ p)) := by
  have hl := log2_mul (d := K) (show n ≠ 0 by omega)
  have hle := log_le hn hlt
  have hK := Nat.two_pow_pos K
  have hpl := h.pl
  unfold Ieee.Format.nearest
  rw [if_neg (Nat.mul_ne_zero (by omega) (by omega)), hl, h.fb, h.lp, h.bn, h.inf]
  simp only
  have hlast : max (-(K : Int) + ((n.log2 + K : Nat) : Int) - (p : Int)) (-(L : Int)) = (n.log2 : Int) - p := by omega
  rw [hlast]
  congr 2
  have e1 : ((n.log2 : Int) - p - -(L : Int)).toNat = L + n.log2 - p := by omega
  rw [e1]
  congr 1
  by_cases hk : K ≤ p - n.log2
  · have e2 : (-(K : Int) - ((n.log2 : Int) - p)).toNat = p - n.log2 - K := by omega
    have e3 : ((n.log2 : Int) - p - -(K : Int)).toNat = 0 := by omega
    rw [e2, e3, Nat.shiftLeft_eq, Nat.mul_assoc, ← Nat.pow_add, show K + (p - n.log2 - K) = p - n.log2 by omega]
    have := cut_even (neg := neg) (c := n * 2 ^ (p - n.log2)) (d := 0) (Nat.mul_ne_zero (by omega) (by have := Nat.two_pow_pos (p - n.log2); omega))
    rwa [Nat.pow_zero, Nat.mul_one] at this
  · have e2 : (-(K : Int) - ((n.log2 : Int) - p)).toNat = 0 := by omega
    have e3 : ((n.log2 : Int) - p - -(K : Int)).toNat = K - (p - n.log2) := by omega
    rw [e2, e3, Nat.shiftLeft_eq, Nat.pow_zero, Nat.mul_one]
    have e4 : n * 2 ^ K = n * 2 ^ (p - n.log2) * 2 ^ (K - (p - n.log2)) := by rw [Nat.mul_assoc, ← Nat.pow_add, show p - n.log2 + (K - (p - n.log2)) = K by omega]
    rw [e4]
    exact cut_even (Nat.mul_ne_zero (by omega) (by have := Nat.two_pow_pos (p - n.log2); omega))
theorem nearest_zero (neg : Bool) (e : Int) : f.nearest neg 0 e = f.word neg 0 := by unfold Ieee.Format.nearest; rw [if_pos rfl]
theorem nearest_shift (h : Fm f p L I) (neg : Bool) {n : Nat} (K : Nat) (hlt : n < 2 ^ (p + 1)) : f.nearest neg (n * 2 ^ K) (-(K : Int)) = f.nearest neg n 0 := by
  by_cases hn : n = 0
  · subst hn; rw [Nat.zero_mul, nearest_zero, nearest_zero]
  · rw [nearest_at h neg K (by omega) hlt]
    have := nearest_at h neg 0 (n := n) (by omega) hlt
    rw [Nat.pow_zero, Nat.mul_one] at this
    exact this.symm
theorem read_word (h : Fm f p L I) (neg : Bool) {E r : Nat} (hE : E + 1 < I) (hr : r < 2 ^ p) : f.read (f.word neg (E * 2 ^ p + (2 ^ p + r))) = .number neg (2 ^ p + r) ((E : Int) - L) := by
  have hp := Nat.two_pow_pos p
  have hlt : E * 2 ^ p + (2 ^ p + r) < I * 2 ^ p := by
    have := Nat.mul_le_mul_right (2 ^ p) (show E + 2 ≤ I by omega)
    have e : (E + 2) * 2 ^ p = E * 2 ^ p + 2 * 2 ^ p := Nat.add_mul ..
    omega
  have hsw : f.signWeight = I * 2 ^ p + 2 ^ p := by rw [h.sw, Nat.add_mul, Nat.one_mul]
  have hq : (E * 2 ^ p + (2 ^ p + r)) % 2 ^ p = r := by
    rw [show E * 2 ^ p + (2 ^ p + r) = r + 2 ^ p * (E + 1) by grind, Nat.add_mul_mod_self_left, Nat.mod_eq_of_lt hr]
  have hd : (E * 2 ^ p + (2 ^ p + r)) / 2 ^ p = E + 1 := by
    rw [show E * 2 ^ p + (2 ^ p + r) = r + 2 ^ p * (E + 1) by grind, Nat.add_mul_div_left _ _ hp, Nat.div_eq_of_lt hr]; omega
  unfold Ieee.Format.read Ieee.Format.word
  have hm : (if neg = true then f.signWeight + (E * 2 ^ p + (2 ^ p + r)) else E * 2 ^ p + (2 ^ p + r)) % f.signWeight = E * 2 ^ p + (2 ^ p + r) := by
    cases neg
    · simp only [Bool.false_eq_true, if_false]; exact Nat.mod_eq_of_lt (by omega)
    · simp only [if_true]; rw [Nat.add_mod_left]; exact Nat.mod_eq_of_lt (by omega)
  have hs : ((if neg = true then f.signWeight + (E * 2 ^ p + (2 ^ p + r)) else E * 2 ^ p + (2 ^ p + r)) / f.signWeight % 2 == 1) = neg := by
    cases neg
    · simp only [Bool.false_eq_true, if_false]; rw [Nat.div_eq_of_lt (by omega)]; rfl
    · simp only [if_true]; rw [Nat.add_div_left _ (by omega), Nat.div_eq_of_lt (by omega)]; rfl
  simp only [hm, hs, h.bn, h.inf, h.lp]
  rw [if_neg (by omega), if_pos hlt, hq, hd]
  congr 1
  omega
theorem read_zero (h : Fm f p L I) (neg : Bool) : f.read (f.word neg 0) = .number neg 0 (-(L : Int)) := by
  have hp := Nat.two_pow_pos p
  have hsw : f.signWeight = I * 2 ^ p + 2 ^ p := by rw [h.sw, Nat.add_mul, Nat.one_mul]
  unfold Ieee.Format.read Ieee.Format.word
  have hm : (if neg = true then f.signWeight + 0 else 0) % f.signWeight = 0 := by cases neg <;> simp
  have hs : ((if neg = true then f.signWeight + 0 else 0) / f.signWeight % 2 == 1) = neg := by
    cases neg
    · simp
    · simp only [if_true, Nat.add_zero]; rw [Nat.div_self (by omega)]; rfl
  simp only [hm, hs, h.bn, h.lp]
  rw [if_pos hp]
theorem read_nearest (h : Fm f p L I) (neg : Bool) {n : Nat} (hlt : n < 2 ^ (p + 1)) : ∃ k : Nat, f.read (f.nearest neg n 0) = .number neg (n * 2 ^ k) (-(k : Int)) := by
  by_cases hn : n = 0
  · subst hn
    rw [nearest_zero]
    exact ⟨L, by rw [read_zero h, Nat.zero_mul]⟩
  · have hle := log_le (by omega) hlt
    have h0 := nearest_at h neg 0 (n := n) (by omega) hlt
    rw [Nat.pow_zero, Nat.mul_one] at h0
    have hpl := h.pl
    have hli := h.li
    have hp := Nat.two_pow_pos p
    have g1 : 2 ^ p ≤ n * 2 ^ (p - n.log2) := by
      have := Nat.mul_le_mul_right (2 ^ (p - n.log2)) (Nat.log2_self_le hn)
      rwa [← Nat.pow_add, show n.log2 + (p - n.log2) = p by omega] at this
    have g2 : n * 2 ^ (p - n.log2) < 2 ^ p + 2 ^ p := by
      have := Nat.mul_lt_mul_of_pos_right (Nat.lt_log2_self (n := n)) (Nat.two_pow_pos (p - n.log2))
      rw [← Nat.pow_add, show n.log2 + 1 + (p - n.log2) = p + 1 by omega, Nat.pow_succ] at this
      omega
    obtain ⟨r, hr⟩ : ∃ r, n * 2 ^ (p - n.log2) = 2 ^ p + r := ⟨n * 2 ^ (p - n.log2) - 2 ^ p, by omega⟩
    refine ⟨p - n.log2, ?_⟩
    have hmin : min ((L + n.log2 - p) * 2 ^ p + n * 2 ^ (p - n.log2)) (I * 2 ^ p) = (L + n.log2 - p) * 2 ^ p + (2 ^ p + r) := by
      rw [hr]
      have := Nat.mul_le_mul_right (2 ^ p) (show L + n.log2 - p + 2 ≤ I by omega)
      rw [Nat.add_mul] at this
      omega
    rw [show f.nearest neg n 0 = _ from h0, hmin, read_word h neg (by omega) (by omega), hr]
    congr 1
    omega
theorem signed_is (a : Int) (k K : Nat) (h : k ≤ K) : Ieee.signed (decide (a < 0)) (a.natAbs * 2 ^ k) (-(k : Int) - -(K : Int)).toNat = a * 2 ^ K := by
  have e : (-(k : Int) - -(K : Int)).toNat = K - k := by omega
  unfold Ieee.signed
  rw [e, Nat.shiftLeft_eq, Nat.mul_assoc, ← Nat.pow_add, show k + (K - k) = K by omega]
  by_cases ha : a < 0
  · rw [decide_eq_true ha, if_pos rfl, Int.natCast_mul, Int.natCast_pow, show ((a.natAbs : Nat) : Int) = -a by omega]
    simp [Int.neg_mul]
  · rw [decide_eq_false ha, if_neg (by simp), Int.natCast_mul, Int.natCast_pow, show ((a.natAbs : Nat) : Int) = a by omega]; rfl
theorem pow_posI (K : Nat) : (0 : Int) < 2 ^ K := Int.pow_pos (by omega)
def wd (f : Ieee.Format) (a : Int) : Nat := f.nearest (decide (a < 0)) a.natAbs 0
def bgI (p : Nat) (a : Int) : Prop := a.natAbs < 2 ^ (p + 1)
theorem order_wd (h : Fm f p L I) {a b : Int} (ha : bgI p a) (hb : bgI p b) : f.order (wd f a) (wd f b) = some (compare a b) := by
  obtain ⟨k, hk⟩ := read_nearest h (decide (a < 0)) ha
  obtain ⟨j, hj⟩ := read_nearest h (decide (b < 0)) hb
  unfold Ieee.Format.order wd
  rw [hk, hj]
  simp only [Ieee.Datum.order, Option.some.injEq]
  obtain ⟨K, hK⟩ : ∃ K : Nat, K = max k j := ⟨_, rfl⟩
  have hb0 : min (-(k : Int)) (-(j : Int)) = -(K : Int) := by omega
  rw [hb0, signed_is a k K (by omega), signed_is b j K (by omega)]
  have hp := pow_posI K
  rcases Int.lt_trichotomy a b with q | q | q
  · rw [Int.compare_eq_lt.2 q, Int.compare_eq_lt.2 (Int.mul_lt_mul_of_pos_right q hp)]
  · subst q; simp
  · rw [Int.compare_eq_gt.2 q, Int.compare_eq_gt.2 (Int.mul_lt_mul_of_pos_right q hp)]
theorem toInt_wd (h : Fm f p L I) {a : Int} (ha : bgI p a) : (f.read (wd f a)).toInt .zero = some a := by
  obtain ⟨k, hk⟩ := read_nearest h (decide (a < 0)) ha
  unfold wd
  rw [hk]
  unfold Ieee.Datum.toInt Ieee.Datum.integral
  have e1 : (-(k : Int)).toNat = 0 := by omega
  have e2 : (- -(k : Int)).toNat = k := by omega
  simp only [e1, e2, Nat.shiftLeft_zero, cut_zero, Option.some.injEq]
  unfold Ieee.signed
  by_cases q : a < 0
  · rw [decide_eq_true q, if_pos rfl, Nat.shiftLeft_zero]; omega
  · rw [decide_eq_false q, if_neg (by simp), Nat.shiftLeft_zero]; omega
end Go.Proofs.YtphlaicnmmglhaaGreat.Am.M
