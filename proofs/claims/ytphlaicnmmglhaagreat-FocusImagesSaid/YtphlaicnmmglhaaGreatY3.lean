/- Contracts over the abstract machine: floats of 32 bits that are whole numbers. Conditions: none. -/
import Derived.Test.YtphlaicnmmglhaaGreatAmD
import Derived.Test.YtphlaicnmmglhaaGreatY2
set_option linter.unusedVariables false
set_option linter.unusedSimpArgs false
namespace Go.Proofs.YtphlaicnmmglhaaGreat.Am.M
open Go

def f32I (n : Int) : Prop := n.natAbs < 2 ^ 24
theorem f32_of {n : Int} (h1 : -16777215 ≤ n) (h2 : n ≤ 16777215) : f32I n := by unfold f32I; omega
theorem f32_ord {a b : Int} (ha : f32I a) (hb : f32I b) : FloatKind.f32.format.order (FloatKind.f32.nearest a) (FloatKind.f32.nearest b) = some (compare a b) := order_wd fmS ha hb
theorem f32_int {a : Int} (ha : f32I a) : floatToIntVal .f32 (FloatKind.f32.nearest a) .i64 = some a := by
  unfold floatToIntVal
  have h : (FloatKind.f32.decode (FloatKind.f32.nearest a)).toInt .zero = some a := toInt_wd fmS ha
  rw [h]
  have h1 : IntKind.i64.min ≤ a ∧ a ≤ IntKind.i64.max := by
    unfold f32I at ha
    show (-9223372036854775808 : Int) ≤ a ∧ a ≤ 9223372036854775807
    omega
  show (if IntKind.i64.min ≤ a ∧ a ≤ IntKind.i64.max then some a else none) = some a
  rw [if_pos h1]
theorem signed_neg (a : Int) (k K : Nat) (h : k ≤ K) : Ieee.signed (!(decide (a < 0))) (a.natAbs * 2 ^ k) (-(k : Int) - -(K : Int)).toNat = -(a * 2 ^ K) := by
  have e := signed_is a k K h
  unfold Ieee.signed at e ⊢
  by_cases ha : a < 0
  · rw [decide_eq_true ha, if_pos rfl] at e
    rw [decide_eq_true ha, if_neg (by simp)]; omega
  · rw [decide_eq_false ha, if_neg (by simp)] at e
    rw [decide_eq_false ha, if_pos (by simp)]; omega
theorem sub_wd {f : Ieee.Format} {p L I : Nat} (h : Fm f p L I) {a b : Int} (ha : bgI p a) (hb : bgI p b) (hc : bgI p (a - b)) : f.sub (wd f a) (wd f b) = some (wd f (a - b)) := by
  obtain ⟨k, hk⟩ := read_nearest h (decide (a < 0)) ha
  obtain ⟨j, hj⟩ := read_nearest h (decide (b < 0)) hb
  unfold Ieee.Format.sub wd
  rw [hk, hj]
  simp only [Ieee.Datum.opposite, Ieee.Datum.sum, Option.map_some, Option.some.injEq]
  obtain ⟨K, hK⟩ : ∃ K : Nat, K = max k j := ⟨_, rfl⟩
  have hb0 : min (-(k : Int)) (-(j : Int)) = -(K : Int) := by omega
  rw [hb0, signed_is a k K (by omega), signed_neg b j K (by omega), ← Int.sub_eq_add_neg, ← Int.sub_mul]
  have hp := pow_posI K
  have hna : ((a - b) * 2 ^ K).natAbs = (a - b).natAbs * 2 ^ K := by rw [Int.natAbs_mul, Int.natAbs_pow]; rfl
  have hz : ((a - b) * 2 ^ K = 0) ↔ a - b = 0 := by rw [Int.mul_eq_zero]; constructor <;> intro q <;> omega
  have hneg : ((a - b) * 2 ^ K < 0) ↔ a - b < 0 := by
    constructor
    · intro q
      by_cases q2 : a - b < 0
      · exact q2
      · have := Int.mul_nonneg (show 0 ≤ a - b by omega) (Int.le_of_lt hp); omega
    · intro q; exact Int.mul_neg_of_neg_of_pos q hp
  unfold Ieee.Format.write
  simp only [hna]
  by_cases hs : a - b = 0
  · rw [if_pos (hz.2 hs), hs]
    have : (decide (a < 0) && !decide (b < 0)) = false := by
      by_cases q : a < 0
      · rw [decide_eq_true (show b < 0 by omega)]; simp
      · rw [decide_eq_false q]; rfl
    rw [this]
    simp [nearest_zero]
  · rw [if_neg (fun q => hs (hz.1 q)), nearest_shift h _ K hc]
    congr 1
    exact decide_eq_decide.2 hneg
theorem f32_sub {a b : Int} (ha : f32I a) (hb : f32I b) (hc : f32I (a - b)) : floatBits .sub .f32 (FloatKind.f32.nearest a) (FloatKind.f32.nearest b) = some (FloatKind.f32.nearest (a - b)) := sub_wd fmS ha hb hc
theorem f32_neq {a : Int} (ha : f32I a) : ordB .neq (FloatKind.f32.format.order (FloatKind.f32.nearest a) (FloatKind.f32.nearest a)) = false := by
  rw [f32_ord ha ha]
  have : compare a a = .eq := by simp
  rw [this]; rfl
theorem rd_hi : Ieee.single.read 1266679808 = .number false 8388608 1 := by decide +kernel
theorem rd_lo : Ieee.single.read 3414163456 = .number true 8388608 1 := by decide +kernel
theorem pow_up (k : Nat) : ((8388608 <<< ((1 : Int) - -(k : Int)).toNat : Nat) : Int) = 16777216 * 2 ^ k := by
  have e : ((1 : Int) - -(k : Int)).toNat = k + 1 := by omega
  rw [e, Nat.shiftLeft_eq, Nat.pow_succ, Int.natCast_mul, Int.natCast_mul, Int.natCast_pow]
  show (8388608 : Int) * (2 ^ k * 2) = _
  grind
theorem f32_geq {n : Int} (h : f32I n) : ordB .geq (FloatKind.f32.format.order (FloatKind.f32.nearest n) 1266679808) = false := by
  obtain ⟨k, hk⟩ := read_nearest fmS (decide (n < 0)) h
  show ordB .geq ((Ieee.single.read (wd Ieee.single n)).order (Ieee.single.read 1266679808)) = false
  unfold wd
  rw [hk, rd_hi]
  simp only [Ieee.Datum.order]
  have hb : min (-(k : Int)) 1 = -(k : Int) := by omega
  rw [hb, signed_is n k k (Nat.le_refl _)]
  have e : Ieee.signed false 8388608 ((1 : Int) - -(k : Int)).toNat = 16777216 * 2 ^ k := pow_up k
  rw [e]
  have hp := pow_posI k
  have hlt : n * 2 ^ k < 16777216 * 2 ^ k := Int.mul_lt_mul_of_pos_right (by unfold f32I at h; omega) hp
  rw [Int.compare_eq_lt.2 hlt]; rfl
theorem f32_leq {n : Int} (h : f32I n) : ordB .leq (FloatKind.f32.format.order (FloatKind.f32.nearest n) 3414163456) = false := by
  obtain ⟨k, hk⟩ := read_nearest fmS (decide (n < 0)) h
  show ordB .leq ((Ieee.single.read (wd Ieee.single n)).order (Ieee.single.read 3414163456)) = false
  unfold wd
  rw [hk, rd_lo]
  simp only [Ieee.Datum.order]
  have hb : min (-(k : Int)) 1 = -(k : Int) := by omega
  rw [hb, signed_is n k k (Nat.le_refl _)]
  have e : Ieee.signed true 8388608 ((1 : Int) - -(k : Int)).toNat = -(16777216 * 2 ^ k) := by rw [← pow_up k]; rfl
  rw [e]
  have hp := pow_posI k
  have hlt : (-16777216) * 2 ^ k < n * 2 ^ k := Int.mul_lt_mul_of_pos_right (by unfold f32I at h; omega) hp
  have hgt : -(16777216 * 2 ^ k) < n * 2 ^ k := by rw [← Int.neg_mul]; exact hlt
  rw [Int.compare_eq_gt.2 hgt]; rfl
end Go.Proofs.YtphlaicnmmglhaaGreat.Am.M
