/- Contracts over the abstract machine: package trace: envelopes. Conditions: none. -/
import Derived.Test.YtblbnagdhcpnoaaK21
import Derived.Test.YtblbnagdhcpnoaaAmE
import Derived.Test.YtblbnagdhcpnoaaY2
set_option linter.unusedVariables false
set_option linter.unusedSimpArgs false
-- mini
namespace Go.Proofs.Ytblbnagdhcpnoaa.Am.M
open Go

def f32I (n : Int) : Prop := n.natAbs < 2 ^ 24
theorem f32_of {n : Int} (h1 : -16777215 ≤ n) (h2 : n ≤ 16777215) : f32I n := by unfold f32I; omega
theorem f32_ord {a b : Int} (ha : f32I a) (hb : f32I b) : FloatKind.f32.format.order (FloatKind.f32.nearest a) (FloatKind.f32.nearest b) = some (compare a b) := order_wd fmS ha hb
theorem f32_int {a : Int} (ha : f32I a) : floatToIntVal .f32 (FloatKind.f32.nearest a) .i64 = some a := by
  unfold floatToIntVal
  have h : (FloatKind.f32.decode (FloatKind.f32.nearest a)).toInt .zero = some a := toInt_wd fmS ha
  rw [h]
  have h1 : IntKind.i64.min ≤ a ∧ a ≤ IntKind.i64.max := by
    unfold f32I at ha
    show (-9223372036854775808 : Int) ≤ a ∧ a ≤ 9223372036854775807
    omega
  show (if IntKind.i64.min ≤ a ∧ a ≤ IntKind.i64.max then some a else none) = some a
  rw [if_pos h1]
theorem signed_neg (a : Int) (k K : Nat) (h : k ≤ K) : Ieee.signed (!(decide (a < 0))) (a.natAbs * 2 ^ k) (-(k : Int) - -(K : Int)).toNat = -(a * 2 ^ K) := by
  have e := signed_is a k K h
  unfold Ieee.signed at e ⊢
  by_cases ha : a < 0
  · rw [decide_eq_true ha, if_pos rfl] at e
    rw [decide_eq_true ha, if_neg (by simp)]; omega
  · rw [decide_eq_false ha, if_neg (by simp)] at e
    rw [decide_eq_false ha, if_pos (by simp)]; omega
theorem sub_wd {f : Ieee.Format} {p L I : Nat} (h : Fm f p L I) {a b : Int} (ha : bgI p a) (hb : bgI p b) (hc : bgI p (a - b)) : f.sub (wd f a) (wd f b) = some (wd f (a - b)) := by
  obtain ⟨k, hk⟩ := read_nearest h (decide (a < 0)) ha
  obtain ⟨j, hj⟩ := read_nearest h (decide (b < 0)) hb
  unfold Ieee.Format.sub wd
  rw [hk, hj]
  simp only [Ieee.Datum.opposite, Ieee.Datum.sum, Option.map_some, Option.some.injEq]
  obtain ⟨K, hK⟩ : ∃ K : Nat, K = max k j := ⟨_, rfl⟩
  have hb0 : min (-(k : Int)) (-(j : Int)) = -(K : Int) := by omega
  rw [hb0, signed_is a k K (by omega), signed_neg b j K (by omega), ← Int.sub_eq_add_neg, ← Int.sub_mul]
  have hp := pow_posI K
  have hna : ((a - b) * 2 ^ K).natAbs = (a - b).natAbs * 2 ^ K := by rw [Int.natAbs_mul, Int.natAbs_pow]; rfl
  have hz : ((a - b) * 2 ^ K = 0) ↔ a - b = 0 := by rw [Int.mul_eq_zero]; constructor <;> intro q <;> omega
  have hneg : ((a - b) * 2 ^ K < 0) ↔ a - b < 0 := by
    constructor
    · intro q
      by_cases q2 : a - b < 0
      · exact q2
      · have := Int.mul_nonneg (show 0 ≤ a - b by omega) (Int.le_of_lt hp); omega
    · intro q; exact Int.mul_neg_of_neg_of_pos q hp
  unfold Ieee.Format.write
  simp only [hna]
  by_cases hs : a - b = 0
  · rw [if_pos (hz.2 hs), hs]
    have : (decide (a < 0) && !decide (b < 0)) = false := by
      by_cases q : a < 0
      · rw [decide_eq_true (show b < 0 by omega)]; simp
      · rw [decide_eq_false q]; rfl
    rw [this]
    simp [nearest_zero]
  · rw [if_neg (fun q => hs (hz.1 q)), nearest_shift h _ K hc]
    congr 1
    exact decide_eq_decide.2 hneg
theorem f32_sub {a b : Int} (ha : f32I a) (hb : f32I b) (hc : f32I (a - b)) : floatBits .sub .f32 (FloatKind.f32.nearest a) (FloatKind.f32.nearest b) = some (FloatKind.f32.nearest (a - b)) := sub_wd fmS ha hb hc
theorem f32_neq {a : Int} (ha : f32I a) : ordB .neq (FloatKind.f32.format.order (FloatKind.f32.nearest a) (FloatKind.f32.nearest a)) = false := by
  rw [f32_ord ha ha]
  have : compare a a = .eq := by simp
  rw [this]; rfl
theorem rd_hi : Ieee.single.read 1266679808 = .number false 8388608 1 := by decide +kernel
theorem rd_lo : Ieee.single.read 3414163456 = .number true 8388608 1 := by decide +kernel
theorem pow_up (k : Nat) : ((8388608 <<< ((1 : Int) - -(k : Int)).toNat : Nat) : Int) = 16777216 * 2 ^ k := by
  have e : ((1 : Int) - -(k : Int)).toNat = k + 1 := by omega
  rw [e, Nat.shiftLeft_eq, Nat.pow_succ, Int.natCast_mul, Int.natCast_mul, Int.natCast_pow]
  show (8388608 : Int) * (2 ^ k * 2) = _
  grind
theorem f32_geq {n : Int} (h : f32I n) : ordB .geq (FloatKind.f32.format.order (FloatKind.f32.nearest n) 1266679808) = false := by
  obtain ⟨k, hk⟩ := read_nearest fmS (decide (n < 0)) h
  show ordB .geq ((Ieee.single.read (wd Ieee.single n)).order (Ieee.single.read 1266679808)) = false
  unfold wd
  rw [hk, rd_hi]
  simp only [Ieee.Datum.order]
  have hb : min (-(k : Int)) 1 = -(k : Int) := by omega
  rw [hb, signed_is n k k (Nat.le_refl _)]
  have e : Ieee.signed false 8388608 ((1 : Int) - -(k : Int)).toNat = 16777216 * 2 ^ k := pow_up k
  rw [e]
  have hp := pow_posI k
  have hlt : n * 2 ^ k < 16777216 * 2 ^ k := Int.mul_lt_mul_of_pos_right (by unfold f32I at h; omega) hp
  rw [Int.compare_eq_lt.2 hlt]; rfl
theorem f32_leq {n : Int} (h : f32I n) : ordB .leq (FloatKind.f32.format.order (FloatKind.f32.nearest n) 3414163456) = false := by
  obtain ⟨k, hk⟩ := read_nearest fmS (decide (n < 0)) h
  show ordB .leq ((Ieee.single.read (wd Ieee.single n)).order (Ieee.single.read 3414163456)) = false
  unfold wd
  rw [hk, rd_lo]
  simp only [Ieee.Datum.order]
  have hb : min (-(k : Int)) 1 = -(k : Int) := by omega
  rw [hb, signed_is n k k (Nat.le_refl _)]
  have e : Ieee.signed true 8388608 ((1 : Int) - -(k : Int)).toNat = -(16777216 * 2 ^ k) := by rw [← pow_up k]; rfl
  rw [e]
  have hp := pow_posI k
  have hlt : (-16777216) * 2 ^ k < n * 2 ^ k := Int.mul_lt_mul_of_pos_right (by unfold f32I at h; omega) hp
  have hgt : -(16777216 * 2 ^ k) < n * 2 ^ k := by rw [← Int.neg_mul]; exact hlt
  rw [Int.compare_eq_gt.2 hgt]; rfl
set_option maxRecDepth 100000 in
theorem tsmall_p (n m : Int) (h1 : 0 ≤ m) (h2 : m ≤ 1000000000000) : PC Try.prog 126 [.v (.int .i64 (n)), .v (.int .i64 (m))] (.v (.bool (inR (-m) n m))) := by
  refine pc_of_awp Try.func126 rfl Try.ntmps126 (rs := [.tmp 4]) Try.results126 (by simp) fun w0 => ?_
  refine awp_seq ?_
  refine awp_region 1 mixed (by kernel_rfl) ?_
  refine rg_q (q_assign (x := .d (.v _)) rfl) ?_
  refine rg_nil ?_
  refine aops_nil ?_
  change Awp _ _ _ _ _
  refine awp_seq ?_
  refine awp_region 6 mixed (by kernel_rfl) ?_
  refine rg_q (q_move (x := .d (.v _)) rfl) ?_
  refine rg_q (q_move (x := .d (.v _)) rfl) ?_
  refine rg_q (q_neg rfl (In64.mk (by omega) (by omega))) ?_
  refine rg_q (q_move (x := .d (.v _)) rfl) ?_
  refine rg_q (q_call en99 (.cons rfl (.cons rfl (.cons rfl .nil))) rfl (twithin_p _ _ _)) ?_
  refine rg_q (q_assign (x := .d (.v _)) rfl) ?_
  refine rg_nil ?_
  refine aops_nil ?_
  change Awp _ _ _ _ _
  refine awp_ret ?_
  refine ⟨_, (.cons (.tmp (by exact .d _)) .nil), ?_⟩
  rfl
set_option maxRecDepth 100000 in
theorem tsampleErr_p (n : Int) (h1 : -2047 ≤ n) (h2 : n ≤ 2047) : PC Try.prog 122 [fv n] (.v (.int .i64 (0))) := by
  have hf := f32_of (show -16777215 ≤ n by omega) (by omega)
  have hr : inR (-2047) n 2047 = true := by simp [inR]; omega
  have hs0 : floatBits .sub .f32 (FloatKind.f32.nearest n) (FloatKind.f32.nearest n) = some 0 := by have h := f32_sub hf hf (by rw [Int.sub_self]; exact f32_of (by decide) (by decide)); rw [Int.sub_self] at h; exact h
  have h00 : ordB .neq (FloatKind.f32.format.order 0 0) = false := f32_neq (a := 0) (f32_of (by decide) (by decide))
  refine pc_of_awp Try.func122 rfl Try.ntmps122 (rs := [.tmp 2]) Try.results122 (by simp) fun w0 => ?_
  refine awp_seq ?_
  refine awp_region 1 mixed (by kernel_rfl) ?_
  refine rg_q (q_assign (x := .d (.v _)) rfl) ?_
  refine rg_nil ?_
  refine aops_nil ?_
  change Awp _ _ _ _ _
  refine awp_seq ?_
  refine awp_block ?_
  refine awp_seq ?_
  refine awp_region 10 mixed (by kernel_rfl) ?_
  refine rg_q (q_move (x := .d (.v _)) rfl) ?_
  refine rg_q (q_move (x := .d (.v _)) rfl) ?_
  refine rg_q (q_fcmp (by decide) rfl rfl (f32_neq hf)) ?_
  refine rg_q (q_move (x := .d (.v _)) rfl) ?_
  refine rg_g rfl rfl (fun hG => (q_move (x := .d (.v _)) rfl)) ?_
  refine rg_g rfl rfl (fun hG => (q_move (x := .d (.v _)) rfl)) ?_
  refine rg_g rfl rfl (fun hG => (q_fbin (by decide) rfl rfl hs0)) ?_
  refine rg_g rfl rfl (fun hG => (q_fcmp (by decide) rfl rfl h00)) ?_
  refine rg_pick rfl rfl rfl rfl rfl rfl ?_
  refine rg_q (q_assign (x := .d (.v _)) rfl) ?_
  refine rg_nil ?_
  refine aops_nil ?_
  change Awp _ _ _ _ _
  refine awp_cond rfl (fun hc1 => ?_) (fun hc1 => ?_)
  ·
    cases hc1
  ·
    (try simp only [decide_eq_true_eq, decide_eq_false_iff_not, Bool.and_eq_true, Bool.or_eq_true, Bool.and_eq_false_iff, Bool.or_eq_false_iff, Bool.not_eq_true', Bool.not_eq_false', Bool.not_true, Bool.not_false, bif_and, bif_or, Bool.not_not, ne_eq, Decidable.not_not, not_true_eq_false, not_false_eq_true, Int.not_le, Int.not_lt] at hc1)
    refine awp_seq ?_
    refine awp_region 7 mixed (by kernel_rfl) ?_
    refine rg_q (q_move (x := .d (.v _)) rfl) ?_
    refine rg_q (q_fcmp (by decide) rfl rfl (f32_geq hf)) ?_
    refine rg_q (q_move (x := .d (.v _)) rfl) ?_
    refine rg_g rfl rfl (fun hG => (q_move (x := .d (.v _)) rfl)) ?_
    refine rg_g rfl rfl (fun hG => (q_fcmp (by decide) rfl rfl (f32_leq hf))) ?_
    refine rg_pick rfl rfl rfl rfl rfl rfl ?_
    refine rg_q (q_assign (x := .d (.v _)) rfl) ?_
    refine rg_nil ?_
    refine aops_nil ?_
    change Awp _ _ _ _ _
    refine awp_cond rfl (fun hc3 => ?_) (fun hc3 => ?_)
    ·
      cases hc3
    ·
      (try simp only [decide_eq_true_eq, decide_eq_false_iff_not, Bool.and_eq_true, Bool.or_eq_true, Bool.and_eq_false_iff, Bool.or_eq_false_iff, Bool.not_eq_true', Bool.not_eq_false', Bool.not_true, Bool.not_false, bif_and, bif_or, Bool.not_not, ne_eq, Decidable.not_not, not_true_eq_false, not_false_eq_true, Int.not_le, Int.not_lt] at hc3)
      refine awp_seq ?_
      refine awp_region 6 mixed (by kernel_rfl) ?_
      refine rg_q (q_move (x := .d (.v _)) rfl) ?_
      refine rg_q (q_convfi flt59 int3 rfl (f32_int hf)) ?_
      refine rg_q (q_convf int3 flt59 rfl) ?_
      refine rg_q (q_move (x := .d (.v _)) rfl) ?_
      refine rg_q (q_fcmp (by decide) rfl rfl (f32_neq hf)) ?_
      refine rg_q (q_assign (x := .d (.v _)) rfl) ?_
      refine rg_nil ?_
      refine aops_nil ?_
      change Awp _ _ _ _ _
      refine awp_cond rfl (fun hc5 => ?_) (fun hc5 => ?_)
      ·
        cases hc5
      ·
        (try simp only [decide_eq_true_eq, decide_eq_false_iff_not, Bool.and_eq_true, Bool.or_eq_true, Bool.and_eq_false_iff, Bool.or_eq_false_iff, Bool.not_eq_true', Bool.not_eq_false', Bool.not_true, Bool.not_false, bif_and, bif_or, Bool.not_not, ne_eq, Decidable.not_not, not_true_eq_false, not_false_eq_true, Int.not_le, Int.not_lt] at hc5)
        refine awp_seq ?_
        refine awp_region 5 mixed (by kernel_rfl) ?_
        refine rg_q (q_move (x := .d (.v _)) rfl) ?_
        refine rg_q (q_convfi flt59 int3 rfl (f32_int hf)) ?_
        refine rg_q (q_call en126 (.cons rfl (.cons rfl .nil)) rfl (tsmall_p _ _ (by omega) (by omega))) ?_
        refine rg_q (q_not rfl) ?_
        refine rg_q (q_assign (x := .d (.v _)) rfl) ?_
        refine rg_nil ?_
        refine aops_nil ?_
        change Awp _ _ _ _ _
        refine awp_cond rfl (fun hc7 => ?_) (fun hc7 => ?_)
        ·
          rw [show inR (-2047) n 2047 = true from hr] at hc7
          cases hc7
        ·
          (try simp only [decide_eq_true_eq, decide_eq_false_iff_not, Bool.and_eq_true, Bool.or_eq_true, Bool.and_eq_false_iff, Bool.or_eq_false_iff, Bool.not_eq_true', Bool.not_eq_false', Bool.not_true, Bool.not_false, bif_and, bif_or, Bool.not_not, ne_eq, Decidable.not_not, not_true_eq_false, not_false_eq_true, Int.not_le, Int.not_lt] at hc7)
          refine awp_skip ?_
          change Awp _ _ _ _ _
          refine awp_seq ?_
          refine awp_region 1 mixed (by kernel_rfl) ?_
          refine rg_q (q_assign (x := .d (.v _)) rfl) ?_
          refine rg_nil ?_
          refine aops_nil ?_
          change Awp _ _ _ _ _
          refine awp_ret ?_
          refine ⟨_, (.cons (.tmp (by exact .d _)) .nil), ?_⟩
          rfl
set_option maxRecDepth 100000 in
theorem tsamplesErr_p (S : List Int) (hb : ∀ v ∈ S, -2047 ≤ v ∧ v ≤ 2047) : PC Try.prog 114 [.sl 1 (S.map fun v => [fv v])] (.tup [.v (.int .i64 (0)), .v (.int .i64 (0))]) := by
  refine pc_of_awp Try.func114 rfl Try.ntmps114 (rs := [.tmp 2, .tmp 3]) Try.results114 (by simp) fun w0 => ?_
  refine awp_seq ?_
  refine awp_region 2 mixed (by kernel_rfl) ?_
  refine rg_q (q_assign (x := .d (.v _)) rfl) ?_
  refine rg_q (q_assign (x := .d (.v _)) rfl) ?_
  refine rg_nil ?_
  refine aops_nil ?_
  change Awp _ _ _ _ _
  refine awp_seq ?_
  refine awp_seq ?_
  refine awp_region 3 mixed (by kernel_rfl) ?_
  refine rg_q (q_move (x := .d (.sl _ _)) rfl) ?_
  refine rg_q (q_len isl84 rfl (by exact len_map _ _)) ?_
  refine rg_q (q_move (x := .d (.v _)) rfl) ?_
  refine rg_nil ?_
  refine aops_nil ?_
  change Awp _ _ _ _ _
  refine awp_len (t := 7) rfl (fun hl7 => ?_)
  (try simp only [List.length_map] at hl7)
  refine awp_block ?_
  refine awp_loopH [2, 3, 4, 5, 6, 9, 10, 11, 12, 13, 14, 15, 16, 17, 18, 19, 20] [] (α := Nat) (fun k => [(9, T.i (k : Int))]) (fun k => []) (fun k => k ≤ S.length) (fun k => S.length - k) 0 (Nat.zero_le _) ?_ ?_
  · exact le_head (ms := []) (by repeat (exact Out.refl _)) ⟨(by rfl), trivial⟩ trivial rfl rfl rfl rfl
  ·
    intro k hk
    refine awp_seq ?_
    refine awp_region 1 mixed (by kernel_rfl) ?_
    refine rg_q (q_lss rfl rfl) ?_
    refine rg_nil ?_
    refine aops_nil ?_
    change Awp _ _ _ _ _
    refine awp_seq ?_
    refine awp_cond rfl (fun hc2 => ?_) (fun hc2 => ?_)
    ·
      (try simp only [decide_eq_true_eq, decide_eq_false_iff_not, Bool.and_eq_true, Bool.or_eq_true, Bool.and_eq_false_iff, Bool.or_eq_false_iff, Bool.not_eq_true', Bool.not_eq_false', Bool.not_true, Bool.not_false, bif_and, bif_or, Bool.not_not, ne_eq, Decidable.not_not, not_true_eq_false, not_false_eq_true, Int.not_le, Int.not_lt] at hc2)
      have hlt : k < S.length := by omega
      obtain ⟨x, hx⟩ : ∃ x, S[k]? = some x := ⟨_, List.getElem?_eq_getElem hlt⟩
      obtain ⟨hx1, hx2⟩ := hb x (List.mem_of_getElem? hx)
      refine awp_skip ?_
      change Awp _ _ _ _ _
      refine awp_seq ?_
      refine awp_block ?_
      refine awp_seq ?_
      refine awp_region 5 mixed (by kernel_rfl) ?_
      refine rg_q (q_move (x := .d (.v _)) rfl) ?_
      refine rg_q (q_indexAddr sl84 rfl rfl (by omega) (map_at (by omega) hx)) ?_
      refine rg_q (q_load sz59 rfl rfl) ?_
      refine rg_q (q_assign (x := .d (.v _)) rfl) ?_
      refine rg_q (q_assign (x := .d (.v _)) rfl) ?_
      refine rg_nil ?_
      refine aops_nil ?_
      change Awp _ _ _ _ _
      refine awp_seq ?_
      refine awp_region 3 mixed (by kernel_rfl) ?_
      refine rg_q (q_move (x := .d (.v _)) rfl) ?_
      refine rg_q (q_call en122 (.cons rfl .nil) rfl (tsampleErr_p _ (by assumption) (by assumption))) ?_
      refine rg_q (q_assign (x := .d (.v _)) rfl) ?_
      refine rg_nil ?_
      refine aops_nil ?_
      change Awp _ _ _ _ _
      refine awp_seq ?_
      refine awp_region 2 mixed (by kernel_rfl) ?_
      refine rg_q (q_move (x := .d (.v _)) rfl) ?_
      refine rg_q (q_neq rfl rfl) ?_
      refine rg_nil ?_
      refine aops_nil ?_
      change Awp _ _ _ _ _
      refine awp_cond rfl (fun hc5 => ?_) (fun hc5 => ?_)
      ·
        simp at hc5
      ·
        (try simp only [decide_eq_true_eq, decide_eq_false_iff_not, Bool.and_eq_true, Bool.or_eq_true, Bool.and_eq_false_iff, Bool.or_eq_false_iff, Bool.not_eq_true', Bool.not_eq_false', Bool.not_true, Bool.not_false, bif_and, bif_or, Bool.not_not, ne_eq, Decidable.not_not, not_true_eq_false, not_false_eq_true, Int.not_le, Int.not_lt] at hc5)
        refine awp_skip ?_
        change Awp _ _ _ _ _
        refine awp_region 2 mixed (by kernel_rfl) ?_
        refine rg_q (q_add rfl rfl (In64.mk (by omega) (by omega))) ?_
        refine rg_q (q_move (x := .d (.v _)) rfl) ?_
        refine rg_nil ?_
        refine aops_nil ?_
        refine ⟨k + 1, by omega, by omega, ?_⟩
        exact le_head (ms := []) (by repeat (first | exact Out.head rfl rfl | (refine Out.put ?_ rfl))) ⟨(by rfl), trivial⟩ trivial rfl rfl rfl rfl
    ·
      (try simp only [decide_eq_true_eq, decide_eq_false_iff_not, Bool.and_eq_true, Bool.or_eq_true, Bool.and_eq_false_iff, Bool.or_eq_false_iff, Bool.not_eq_true', Bool.not_eq_false', Bool.not_true, Bool.not_false, bif_and, bif_or, Bool.not_not, ne_eq, Decidable.not_not, not_true_eq_false, not_false_eq_true, Int.not_le, Int.not_lt] at hc2)
      refine awp_exit ?_
      change Awp _ _ _ _ _
      refine awp_seq ?_
      refine awp_region 2 mixed (by kernel_rfl) ?_
      refine rg_q (q_assign (x := .d (.v _)) rfl) ?_
      refine rg_q (q_assign (x := .d (.v _)) rfl) ?_
      refine rg_nil ?_
      refine aops_nil ?_
      change Awp _ _ _ _ _
      refine awp_ret ?_
      refine ⟨_, (.cons (.tmp (by exact .d _)) (.cons (.tmp (by exact .d _)) .nil)), ?_⟩
      rfl
set_option maxRecDepth 100000 in
theorem tcheckTrace_p (S : List Int) (hS : S.length = 64) (hb : ∀ v ∈ S, -2047 ≤ v ∧ v ≤ 2047) : PC Try.prog 118 [.agg (S.map fv)] (.tup [.v (.int .i64 (0)), .v (.int .i64 (0))]) := by
  refine pc_of_awp Try.func118 rfl Try.ntmps118 (rs := [.tmp 2, .tmp 3]) Try.results118 (by simp) fun w0 => ?_
  refine awp_seq ?_
  refine awp_region 3 mixed (by kernel_rfl) ?_
  refine rg_q (q_box rfl (by exact .inr ⟨_, rfl⟩)) ?_
  refine rg_q (q_assign (x := .d (.v _)) rfl) ?_
  refine rg_q (q_assign (x := .d (.v _)) rfl) ?_
  refine rg_nil ?_
  refine aops_nil ?_
  change Awp _ _ _ _ _
  refine awp_seq ?_
  refine awp_region 6 mixed (by kernel_rfl) ?_
  refine rg_q (q_sliceP (es := S.map fun v => [fv v]) ar61 rfl (by show (S.map fv).length = 64; rw [List.length_map]; exact hS) (by decide) (by decide) (by show (S.map fv).map (fun d => [d]) = _; rw [List.map_map]; rfl)) ?_
  refine rg_q (q_call en114 (.cons rfl .nil) rfl (tsamplesErr_p S hb)) ?_
  refine rg_q (q_extract rfl rfl) ?_
  refine rg_q (q_extract rfl rfl) ?_
  refine rg_q (q_assign (x := .d (.v _)) rfl) ?_
  refine rg_q (q_assign (x := .d (.v _)) rfl) ?_
  refine rg_nil ?_
  refine aops_nil ?_
  change Awp _ _ _ _ _
  refine awp_ret ?_
  refine ⟨_, (.cons (.tmp (by exact .d _)) (.cons (.tmp (by exact .d _)) .nil)), ?_⟩
  rfl
set_option maxRecDepth 100000 in
theorem traceErr_p (S : List Int) (hS : S.length = 64) (hb : ∀ v ∈ S, -2047 ≤ v ∧ v ≤ 2047) : PC Try.prog 90 [.agg (S.map fv)] (.v (.int .i64 (0))) := by
  refine pc_of_awp Try.func90 rfl Try.ntmps90 (rs := [.tmp 2]) Try.results90 (by simp) fun w0 => ?_
  refine awp_seq ?_
  refine awp_region 2 mixed (by kernel_rfl) ?_
  refine rg_q (q_box rfl (by exact .inr ⟨_, rfl⟩)) ?_
  refine rg_q (q_assign (x := .d (.v _)) rfl) ?_
  refine rg_nil ?_
  refine aops_nil ?_
  change Awp _ _ _ _ _
  refine awp_seq ?_
  refine awp_region 7 mixed (by kernel_rfl) ?_
  refine rg_q (q_loadA (ds := S.map fv) sz61 rfl (by rw [List.drop_zero]; exact List.take_of_length_le (by show (S.map fv).length ≤ 64; rw [List.length_map]; omega)) (by rw [List.length_map]; exact hS)) ?_
  refine rg_q (q_call en118 (.cons rfl .nil) rfl (tcheckTrace_p _ (by assumption) (by assumption))) ?_
  refine rg_q (q_move (x := .d (.tup _)) rfl) ?_
  refine rg_q (q_extract rfl rfl) ?_
  refine rg_q (q_extract rfl rfl) ?_
  refine rg_q (q_assign (x := .d (.v _)) rfl) ?_
  refine rg_q (q_assign (x := .d (.v _)) rfl) ?_
  refine rg_nil ?_
  refine aops_nil ?_
  change Awp _ _ _ _ _
  refine awp_seq ?_
  refine awp_region 2 mixed (by kernel_rfl) ?_
  refine rg_q (q_move (x := .d (.v _)) rfl) ?_
  refine rg_q (q_assign (x := .d (.v _)) rfl) ?_
  refine rg_nil ?_
  refine aops_nil ?_
  change Awp _ _ _ _ _
  refine awp_ret ?_
  refine ⟨_, (.cons (.tmp (by exact .d _)) .nil), ?_⟩
  rfl

def outN (S : List Int) (k : Nat) : List D := (S.take k).map iv ++ List.replicate (64 - k) (iv 0)
theorem outN_len {S : List Int} {k : Nat} (hS : S.length = 64) (hk : k ≤ 64) : (outN S k).length = 64 := by unfold outN; rw [List.length_append, List.length_map, List.length_take, List.length_replicate]; omega
theorem outN_set {S : List Int} {k : Nat} {x : Int} (hS : S.length = 64) (h : S[k]? = some x) : setCs (outN S k) (0 + (k : Int).toNat * 1) [iv x] = outN S (k + 1) := by
  obtain ⟨hlt, hx⟩ := List.getElem?_eq_some_iff.1 h
  have hl : ((S.take k).map iv).length = k := by rw [List.length_map, List.length_take]; omega
  rw [Int.toNat_natCast, Nat.zero_add, Nat.mul_one, setCs_one (by rw [outN_len hS (by omega)]; omega)]
  unfold outN
  rw [List.set_append_right _ _ (by omega), hl, Nat.sub_self, show 64 - k = (64 - (k + 1)) + 1 by omega, List.replicate_succ, List.set_cons_zero, List.take_succ_eq_append_getElem hlt, hx, List.map_append, List.append_assoc]
  rfl
theorem outN_all {S : List Int} (hS : S.length = 64) : outN S 64 = S.map iv := by
  unfold outN
  rw [List.take_of_length_le (by omega)]; simp
theorem fv_at {S : List Int} {k : Nat} {x : Int} (h : S[k]? = some x) : (S.map fv)[0 + (k : Int).toNat * 1]? = some (fv x) := by rw [Int.toNat_natCast, Nat.zero_add, Nat.mul_one, List.getElem?_map, h]; rfl
set_option maxRecDepth 100000 in
theorem numbersOf_p (S : List Int) (hS : S.length = 64) (hb : ∀ v ∈ S, -2047 ≤ v ∧ v ≤ 2047) : PC Try.prog 91 [.pt (S.map fv) 0] (.agg (S.map iv)) := by
  refine pc_of_awp Try.func91 rfl Try.ntmps91 (rs := [.cell 2 152]) Try.results91 (by simp) fun w0 => ?_
  refine awp_seq ?_
  refine awp_region 0 mixed (by kernel_rfl) ?_
  refine rg_nil ?_
  refine aops_alloc zr152 rfl rfl rfl ?_
  refine aops_nil ?_
  change Awp _ _ _ _ _
  refine awp_seq ?_
  refine awp_seq ?_
  refine awp_region 2 mixed (by kernel_rfl) ?_
  refine rg_q (q_move (x := .d (.pt _ _)) rfl) ?_
  refine rg_q (q_move (x := .d (.v _)) rfl) ?_
  refine rg_nil ?_
  refine aops_nil ?_
  change Awp _ _ _ _ _
  refine awp_block ?_
  refine awp_loopH [3, 4, 6, 7, 8, 9, 10, 11, 12, 13, 14, 15, 16] [2] (α := Nat) (fun k => [(6, T.i (k : Int))]) (fun k => [(2, .box (outN S k))]) (fun k => k ≤ 64) (fun k => 64 - k) 0 (Nat.zero_le _) ?_ ?_
  · exact le_head (ms := [2]) (by repeat (exact Out.refl _)) ⟨(by rfl), trivial⟩ ⟨(by rfl), trivial⟩ rfl rfl rfl rfl
  ·
    intro k hk
    refine awp_seq ?_
    refine awp_region 1 mixed (by kernel_rfl) ?_
    refine rg_q (q_lss rfl rfl) ?_
    refine rg_nil ?_
    refine aops_nil ?_
    change Awp _ _ _ _ _
    refine awp_seq ?_
    refine awp_cond rfl (fun hc2 => ?_) (fun hc2 => ?_)
    ·
      (try simp only [decide_eq_true_eq, decide_eq_false_iff_not, Bool.and_eq_true, Bool.or_eq_true, Bool.and_eq_false_iff, Bool.or_eq_false_iff, Bool.not_eq_true', Bool.not_eq_false', Bool.not_true, Bool.not_false, bif_and, bif_or, Bool.not_not, ne_eq, Decidable.not_not, not_true_eq_false, not_false_eq_true, Int.not_le, Int.not_lt] at hc2)
      have hlt : k < S.length := by omega
      obtain ⟨x, hx⟩ : ∃ x, S[k]? = some x := ⟨_, List.getElem?_eq_getElem hlt⟩
      obtain ⟨hx1, hx2⟩ := hb x (List.mem_of_getElem? hx)
      have hld := fv_at hx
      have hst := outN_set hS hx
      have hol := outN_len (k := k) hS (by omega)
      refine awp_skip ?_
      change Awp _ _ _ _ _
      refine awp_seq ?_
      refine awp_block ?_
      refine awp_seq ?_
      refine awp_region 6 mixed (by kernel_rfl) ?_
      refine rg_q (q_move (x := .d (.v _)) rfl) ?_
      refine rg_q (q_nilCheck rfl) ?_
      refine rg_q (q_indexAddr_ar ar61 rfl rfl (by omega) (by omega)) ?_
      refine rg_q (q_load sz59 rfl hld) ?_
      refine rg_q (q_assign (x := .d (.v _)) rfl) ?_
      refine rg_q (q_assign (x := .d (.v _)) rfl) ?_
      refine rg_nil ?_
      refine aops_nil ?_
      change Awp _ _ _ _ _
      refine awp_region 4 mixed (by kernel_rfl) ?_
      refine rg_q (q_move (x := .d (.v _)) rfl) ?_
      refine rg_q (q_move (x := .d (.v _)) rfl) ?_
      refine rg_q (q_convfi flt59 int3 rfl (f32_int (f32_of (by omega) (by omega)))) ?_
      refine rg_q (q_indexAddr_aref ar152 rfl rfl (by omega) (by omega)) ?_
      refine rg_nil ?_
      refine aops_store (cs' := outN S (k + 1)) sz3 rfl rfl (by exact .inl rfl) rfl rfl (by rw [hol]; omega) hst ?_
      refine aops_nil ?_
      change Awp _ _ _ _ _
      refine awp_region 2 mixed (by kernel_rfl) ?_
      refine rg_q (q_add rfl rfl (In64.mk (by omega) (by omega))) ?_
      refine rg_q (q_move (x := .d (.v _)) rfl) ?_
      refine rg_nil ?_
      refine aops_nil ?_
      refine ⟨k + 1, by omega, by omega, ?_⟩
      exact le_head (ms := [2]) (by repeat (first | exact Out.head rfl rfl | (refine Out.put ?_ rfl) | (refine Out.site ?_ rfl))) ⟨(by rfl), trivial⟩ ⟨(by rfl), trivial⟩ rfl rfl rfl rfl
    ·
      (try simp only [decide_eq_true_eq, decide_eq_false_iff_not, Bool.and_eq_true, Bool.or_eq_true, Bool.and_eq_false_iff, Bool.or_eq_false_iff, Bool.not_eq_true', Bool.not_eq_false', Bool.not_true, Bool.not_false, bif_and, bif_or, Bool.not_not, ne_eq, Decidable.not_not, not_true_eq_false, not_false_eq_true, Int.not_le, Int.not_lt] at hc2)
      have hk64 : k = 64 := by omega
      subst hk64
      rw [outN_all hS]
      refine awp_exit ?_
      change Awp _ _ _ _ _
      refine awp_seq ?_
      refine awp_region 1 mixed (by kernel_rfl) ?_
      refine rg_q (q_load_refA (ds := S.map iv) sz152 rfl rfl (by rw [List.drop_zero]; exact List.take_of_length_le (by rw [List.length_map]; omega)) (by rw [List.length_map]; exact hS)) ?_
      refine rg_nil ?_
      refine aops_store (cs' := S.map iv) sz152 rfl rfl (by exact .inr ⟨_, rfl⟩) (by show (S.map iv).length = 64; rw [List.length_map]; exact hS) rfl (by rw [List.length_map, hS]; decide) (setCs_all (by show (S.map iv).length = (S.map iv).length; rfl)) ?_
      refine aops_nil ?_
      change Awp _ _ _ _ _
      refine awp_ret ?_
      refine ⟨_, (.cons (.cellA rfl rfl sz152 (by show (S.map iv).length = _; rw [List.length_map]; exact hS)) .nil), ?_⟩
      rfl

def sAt (S : List Int) (k : Nat) : Int := S.getD k 0
def reI (S : List Int) (k : Nat) : Int := sAt S k - sAt S (k + 2)
def imI (S : List Int) (k : Nat) : Int := sAt S (k + 1) - sAt S (k + 3)
def sqI (S : List Int) (k : Nat) : Int := reI S k * reI S k + imI S k * imI S k
theorem win4 {S : List Int} (hS : S.length = 64) {k : Nat} (hk : k < 61) : ((((S.map iv).take (k + 4)).drop k).map fun d => [d]) = [iv (sAt S k), iv (sAt S (k + 1)), iv (sAt S (k + 2)), iv (sAt S (k + 3))].map fun d => [d] := by
  congr 1
  have hg : ∀ i, i < 64 → S[i]? = some (sAt S i) := fun i hi => by
    unfold sAt
    rw [List.getD_eq_getElem?_getD, List.getElem?_eq_getElem (by omega)]; rfl
  apply List.ext_getElem?
  intro i
  rw [List.getElem?_drop, List.getElem?_take, List.getElem?_map]
  match i with
  | 0 => rw [if_pos (by omega), hg _ (by omega)]; rfl
  | 1 => rw [if_pos (by omega), hg _ (by omega)]; rfl
  | 2 => rw [if_pos (by omega), hg _ (by omega)]; rfl
  | 3 => rw [if_pos (by omega), hg _ (by omega)]; rfl
  | i + 4 => rw [if_neg (by omega)]; rfl
theorem sAt_in {S : List Int} (hb : ∀ v ∈ S, -2047 ≤ v ∧ v ≤ 2047) (k : Nat) : -2047 ≤ sAt S k ∧ sAt S k ≤ 2047 := by
  unfold sAt
  rw [List.getD_eq_getElem?_getD]
  cases h : S[k]? with
  | none => exact ⟨by decide, by decide⟩
  | some v => exact hb v (List.mem_of_getElem? h)
set_option maxRecDepth 100000 in
theorem tparts_p (S : List Int) (hS : S.length = 64) (hb : ∀ v ∈ S, -2047 ≤ v ∧ v ≤ 2047) (k : Nat) (hk : k < 61) : PC Try.prog 119 [.pt (S.map iv) 0, .v (.int .i64 ((k : Int)))] (.tup [.v (.int .i64 (reI S k)), .v (.int .i64 (imI S k))]) := by
  have b0 := sAt_in hb k
  have b1 := sAt_in hb (k + 1)
  have b2 := sAt_in hb (k + 2)
  have b3 := sAt_in hb (k + 3)
  have hlm : (S.map iv).length = 64 := by rw [List.length_map]; exact hS
  refine pc_of_awpN Try.func119 rfl Try.ntmps119 (rs := [.tmp 4, .tmp 5]) Try.results119 (by simp) fun w0 hmine hrnd hpn => ?_
  refine awp_seq ?_
  refine awp_region 2 mixed (by kernel_rfl) ?_
  refine rg_q (q_assign (x := .d (.v _)) rfl) ?_
  refine rg_q (q_assign (x := .d (.v _)) rfl) ?_
  refine rg_nil ?_
  refine aops_nil ?_
  change Awp _ _ _ _ _
  refine awp_seq ?_
  refine awp_region 8 mixed (by kernel_rfl) ?_
  refine rg_q (q_move (x := .d (.pt _ _)) rfl) ?_
  refine rg_q (q_nilCheck rfl) ?_
  refine rg_q (q_move (x := .d (.v _)) rfl) ?_
  refine rg_q (q_move (x := .d (.v _)) rfl) ?_
  refine rg_q (q_add rfl rfl (In64.mk (by omega) (by omega))) ?_
  refine rg_q (q_slicePP (lo := k) (hi := k + 4) (es := [iv (sAt S k), iv (sAt S (k + 1)), iv (sAt S (k + 2)), iv (sAt S (k + 3))].map fun d => [d]) ar152 rfl hlm (by decide) rfl rfl (by omega) (by omega) (by omega) (win4 hS hk)) ?_
  refine rg_q (q_toArr (cs := [iv (sAt S k), iv (sAt S (k + 1)), iv (sAt S (k + 2)), iv (sAt S (k + 3))]) ar178 rfl rfl rfl (by decide)) ?_
  refine rg_q (q_loadA (ds := [_, _, _, _]) sz178 rfl rfl rfl) ?_
  refine rg_nil ?_
  refine aops_alloc zr178 rfl rfl rfl ?_
  refine aops_store sz178 rfl rfl (by exact .inr ⟨_, rfl⟩) rfl rfl (by decide) rfl ?_
  refine aops_nil ?_
  change Awp _ _ _ _ _
  refine awp_seq ?_
  refine awp_region 12 mixed (by kernel_rfl) ?_
  refine rg_q (q_indexAddr_aref ar178 rfl rfl (by omega) (by omega)) ?_
  refine rg_q (q_load_ref sz3 rfl rfl rfl) ?_
  refine rg_q (q_indexAddr_aref ar178 rfl rfl (by omega) (by omega)) ?_
  refine rg_q (q_load_ref sz3 rfl rfl rfl) ?_
  refine rg_q (q_sub rfl rfl (In64.mk (by omega) (by omega))) ?_
  refine rg_q (q_indexAddr_aref ar178 rfl rfl (by omega) (by omega)) ?_
  refine rg_q (q_load_ref sz3 rfl rfl rfl) ?_
  refine rg_q (q_indexAddr_aref ar178 rfl rfl (by omega) (by omega)) ?_
  refine rg_q (q_load_ref sz3 rfl rfl rfl) ?_
  refine rg_q (q_sub rfl rfl (In64.mk (by omega) (by omega))) ?_
  refine rg_q (q_assign (x := .d (.v _)) rfl) ?_
  refine rg_q (q_assign (x := .d (.v _)) rfl) ?_
  refine rg_nil ?_
  refine aops_nil ?_
  change Awp _ _ _ _ _
  refine awp_ret ?_
  refine ⟨_, (.cons (.tmp (by exact .d _)) (.cons (.tmp (by exact .d _)) .nil)), ?_⟩
  rfl

theorem sq_bnd {S : List Int} (hb : ∀ v ∈ S, -2047 ≤ v ∧ v ≤ 2047) (k : Nat) : (-4094 ≤ reI S k ∧ reI S k ≤ 4094) ∧ (-4094 ≤ imI S k ∧ imI S k ≤ 4094) := by
  have b0 := sAt_in hb k
  have b1 := sAt_in hb (k + 1)
  have b2 := sAt_in hb (k + 2)
  have b3 := sAt_in hb (k + 3)
  unfold reI imI; omega
set_option maxRecDepth 100000 in
theorem tsquare_p (S : List Int) (hS : S.length = 64) (hb : ∀ v ∈ S, -2047 ≤ v ∧ v ≤ 2047) (k : Nat) (hk : k < 61) : PC Try.prog 92 [.pt (S.map iv) 0, .v (.int .i64 ((k : Int)))] (.v (.int .i64 (sqI S k))) := by
  obtain ⟨⟨b0, b1⟩, b2, b3⟩ := sq_bnd hb k
  have m1 := mulb (a := reI S k) (b := reI S k) (A := 4094) (B := 4094) (by omega) (by omega) (by omega) (by omega)
  have m2 := mulb (a := imI S k) (b := imI S k) (A := 4094) (B := 4094) (by omega) (by omega) (by omega) (by omega)
  refine pc_of_awp Try.func92 rfl Try.ntmps92 (rs := [.tmp 4]) Try.results92 (by simp) fun w0 => ?_
  refine awp_seq ?_
  refine awp_region 1 mixed (by kernel_rfl) ?_
  refine rg_q (q_assign (x := .d (.v _)) rfl) ?_
  refine rg_nil ?_
  refine aops_nil ?_
  change Awp _ _ _ _ _
  refine awp_seq ?_
  refine awp_region 8 mixed (by kernel_rfl) ?_
  refine rg_q (q_move (x := .d (.pt _ _)) rfl) ?_
  refine rg_q (q_move (x := .d (.v _)) rfl) ?_
  refine rg_q (q_call en119 (.cons rfl (.cons rfl .nil)) rfl (tparts_p S hS hb k hk)) ?_
  refine rg_q (q_move (x := .d (.tup _)) rfl) ?_
  refine rg_q (q_extract rfl rfl) ?_
  refine rg_q (q_extract rfl rfl) ?_
  refine rg_q (q_assign (x := .d (.v _)) rfl) ?_
  refine rg_q (q_assign (x := .d (.v _)) rfl) ?_
  refine rg_nil ?_
  refine aops_nil ?_
  change Awp _ _ _ _ _
  refine awp_seq ?_
  refine awp_region 8 mixed (by kernel_rfl) ?_
  refine rg_q (q_move (x := .d (.v _)) rfl) ?_
  refine rg_q (q_move (x := .d (.v _)) rfl) ?_
  refine rg_q (q_mul rfl rfl (In64.mk (by omega) (by omega))) ?_
  refine rg_q (q_move (x := .d (.v _)) rfl) ?_
  refine rg_q (q_move (x := .d (.v _)) rfl) ?_
  refine rg_q (q_mul rfl rfl (In64.mk (by omega) (by omega))) ?_
  refine rg_q (q_add rfl rfl (In64.mk (by omega) (by omega))) ?_
  refine rg_q (q_assign (x := .d (.v _)) rfl) ?_
  refine rg_nil ?_
  refine aops_nil ?_
  change Awp _ _ _ _ _
  refine awp_ret ?_
  refine ⟨_, (.cons (.tmp (by exact .d _)) .nil), ?_⟩
  rfl

def envL (S : List Int) : List Int := (List.range 61).map (sqI S)
def outE (S : List Int) (k : Nat) : List D := ((List.range k).map (sqI S)).map iv ++ List.replicate (61 - k) (iv 0)
theorem outE_len {S : List Int} {k : Nat} (hk : k ≤ 61) : (outE S k).length = 61 := by unfold outE; rw [List.length_append, List.length_map, List.length_map, List.length_range, List.length_replicate]; omega
theorem outE_set {S : List Int} {k : Nat} (hk : k < 61) : setCs (outE S k) (0 + (k : Int).toNat * 1) [iv (sqI S k)] = outE S (k + 1) := by
  have hl : (((List.range k).map (sqI S)).map iv).length = k := by rw [List.length_map, List.length_map, List.length_range]
  rw [Int.toNat_natCast, Nat.zero_add, Nat.mul_one, setCs_one (by rw [outE_len (by omega)]; omega)]
  unfold outE
  rw [List.set_append_right _ _ (by omega), hl, Nat.sub_self, show 61 - k = (61 - (k + 1)) + 1 by omega, List.replicate_succ, List.set_cons_zero, List.range_succ, List.map_append, List.map_append, List.append_assoc]
  rfl
theorem outE_all (S : List Int) : outE S 61 = (envL S).map iv := by unfold outE envL; simp
theorem envL_len (S : List Int) : ((envL S).map iv).length = 61 := by unfold envL; rw [List.length_map, List.length_map, List.length_range]
set_option maxRecDepth 100000 in
theorem envelope_p (S : List Int) (hS : S.length = 64) (hb : ∀ v ∈ S, -2047 ≤ v ∧ v ≤ 2047) : PC Try.prog 46 [.agg (S.map fv)] (.tup [.agg ((envL S).map iv), .v (.int .i64 (0))]) := by
  have hlm : (S.map iv).length = 64 := by rw [List.length_map]; exact hS
  refine pc_of_awpN Try.func46 rfl Try.ntmps46 (rs := [.cell 2 95, .tmp 3]) Try.results46 (by simp) fun w0 hmine hrnd hpn => ?_
  refine awp_seq ?_
  refine awp_region 1 mixed (by kernel_rfl) ?_
  refine rg_q (q_box rfl (by exact .inr ⟨_, rfl⟩)) ?_
  refine rg_nil ?_
  refine aops_alloc zr95 rfl rfl rfl ?_
  refine aops_q rfl (q_assign (x := .d (.v _)) rfl) ?_
  refine aops_nil ?_
  change Awp _ _ _ _ _
  refine awp_seq ?_
  refine awp_region 0 mixed (by kernel_rfl) ?_
  refine rg_nil ?_
  refine aops_alloc zr95 rfl rfl rfl ?_
  refine aops_nil ?_
  change Awp _ _ _ _ _
  refine awp_seq ?_
  refine awp_seq ?_
  refine awp_region 3 mixed (by kernel_rfl) ?_
  refine rg_q (q_loadA (ds := S.map fv) sz61 rfl (by rw [List.drop_zero]; exact List.take_of_length_le (by show (S.map fv).length ≤ 64; rw [List.length_map]; omega)) (by rw [List.length_map]; exact hS)) ?_
  refine rg_q (q_call en90 (.cons rfl .nil) rfl (traceErr_p _ (by assumption) (by assumption))) ?_
  refine rg_q (q_assign (x := .d (.v _)) rfl) ?_
  refine rg_nil ?_
  refine aops_nil ?_
  change Awp _ _ _ _ _
  refine awp_seq ?_
  refine awp_region 2 mixed (by kernel_rfl) ?_
  refine rg_q (q_move (x := .d (.v _)) rfl) ?_
  refine rg_q (q_neq rfl rfl) ?_
  refine rg_nil ?_
  refine aops_nil ?_
  change Awp _ _ _ _ _
  refine awp_cond rfl (fun hc3 => ?_) (fun hc3 => ?_)
  ·
    simp at hc3
  ·
    (try simp only [decide_eq_true_eq, decide_eq_false_iff_not, Bool.and_eq_true, Bool.or_eq_true, Bool.and_eq_false_iff, Bool.or_eq_false_iff, Bool.not_eq_true', Bool.not_eq_false', Bool.not_true, Bool.not_false, bif_and, bif_or, Bool.not_not, ne_eq, Decidable.not_not, not_true_eq_false, not_false_eq_true, Int.not_le, Int.not_lt] at hc3)
    refine awp_skip ?_
    change Awp _ _ _ _ _
    refine awp_seq ?_
    refine awp_region 1 mixed (by kernel_rfl) ?_
    refine rg_q (q_call en91 (.cons rfl .nil) rfl (numbersOf_p S hS hb)) ?_
    refine rg_nil ?_
    refine aops_allocD zr152 rfl sz152 rfl rfl (by exact .inr ⟨_, rfl⟩) hlm rfl ?_
    refine aops_nil ?_
    change Awp _ _ _ _ _
    refine awp_seq ?_
    refine awp_seq ?_
    refine awp_region 1 mixed (by kernel_rfl) ?_
    refine rg_q (q_move (x := .d (.v _)) rfl) ?_
    refine rg_nil ?_
    refine aops_nil ?_
    change Awp _ _ _ _ _
    refine awp_block ?_
    refine awp_loopH [7, 15, 16, 17, 18, 19, 20, 21, 22] [4] (α := Nat) (fun k => [(15, T.i (k : Int))]) (fun k => [(4, .box (outE S k))]) (fun k => k ≤ 61) (fun k => 61 - k) 0 (Nat.zero_le _) ?_ ?_
    · exact le_head (ms := [4]) (by repeat (exact Out.refl _)) ⟨(by rfl), trivial⟩ ⟨(by rfl), trivial⟩ rfl rfl rfl rfl
    ·
      intro k hk
      refine awp_seq ?_
      refine awp_region 1 mixed (by kernel_rfl) ?_
      refine rg_q (q_lss rfl rfl) ?_
      refine rg_nil ?_
      refine aops_nil ?_
      change Awp _ _ _ _ _
      refine awp_seq ?_
      refine awp_cond rfl (fun hc7 => ?_) (fun hc7 => ?_)
      ·
        (try simp only [decide_eq_true_eq, decide_eq_false_iff_not, Bool.and_eq_true, Bool.or_eq_true, Bool.and_eq_false_iff, Bool.or_eq_false_iff, Bool.not_eq_true', Bool.not_eq_false', Bool.not_true, Bool.not_false, bif_and, bif_or, Bool.not_not, ne_eq, Decidable.not_not, not_true_eq_false, not_false_eq_true, Int.not_le, Int.not_lt] at hc7)
        have hlt : k < 61 := by omega
        have hst := outE_set (S := S) hlt
        have hol := outE_len (S := S) (k := k) (by omega)
        refine awp_skip ?_
        change Awp _ _ _ _ _
        refine awp_seq ?_
        refine awp_block ?_
        refine awp_seq ?_
        refine awp_region 2 mixed (by kernel_rfl) ?_
        refine rg_q (q_move (x := .d (.v _)) rfl) ?_
        refine rg_q (q_assign (x := .d (.v _)) rfl) ?_
        refine rg_nil ?_
        refine aops_nil ?_
        change Awp _ _ _ _ _
        refine awp_region 4 mixed (by kernel_rfl) ?_
        refine rg_q (q_move (x := .d (.v _)) rfl) ?_
        refine rg_q (q_move (x := .d (.v _)) rfl) ?_
        refine rg_q (q_call en92 (.cons rfl (.cons rfl .nil)) rfl (tsquare_p S hS hb k hlt)) ?_
        refine rg_q (q_indexAddr_aref ar95 rfl rfl (by omega) (by omega)) ?_
        refine rg_nil ?_
        refine aops_store (cs' := outE S (k + 1)) sz3 rfl rfl (by exact .inl rfl) rfl rfl (by rw [hol]; omega) hst ?_
        refine aops_nil ?_
        change Awp _ _ _ _ _
        refine awp_region 2 mixed (by kernel_rfl) ?_
        refine rg_q (q_add rfl rfl (In64.mk (by omega) (by omega))) ?_
        refine rg_q (q_move (x := .d (.v _)) rfl) ?_
        refine rg_nil ?_
        refine aops_nil ?_
        refine ⟨k + 1, by omega, by omega, ?_⟩
        exact le_head (ms := [4]) (by repeat (first | exact Out.head rfl rfl | (refine Out.put ?_ rfl) | (refine Out.site ?_ rfl))) ⟨(by rfl), trivial⟩ ⟨(by rfl), trivial⟩ rfl rfl rfl rfl
      ·
        (try simp only [decide_eq_true_eq, decide_eq_false_iff_not, Bool.and_eq_true, Bool.or_eq_true, Bool.and_eq_false_iff, Bool.or_eq_false_iff, Bool.not_eq_true', Bool.not_eq_false', Bool.not_true, Bool.not_false, bif_and, bif_or, Bool.not_not, ne_eq, Decidable.not_not, not_true_eq_false, not_false_eq_true, Int.not_le, Int.not_lt] at hc7)
        have hk61 : k = 61 := by omega
        subst hk61
        rw [outE_all]
        refine awp_exit ?_
        change Awp _ _ _ _ _
        refine awp_seq ?_
        refine awp_region 1 mixed (by kernel_rfl) ?_
        refine rg_q (q_load_refA (ds := (envL S).map iv) sz95 rfl rfl (by rw [List.drop_zero]; exact List.take_of_length_le (by rw [envL_len]; exact Nat.le_refl _)) (envL_len S)) ?_
        refine rg_nil ?_
        refine aops_store (cs' := (envL S).map iv) sz95 rfl rfl (by exact .inr ⟨_, rfl⟩) (envL_len S) rfl (Nat.le_of_ble_eq_true rfl) (setCs_all (envL_len S)) ?_
        refine aops_q rfl (q_assign (x := .d (.v _)) rfl) ?_
        refine aops_nil ?_
        change Awp _ _ _ _ _
        refine awp_ret ?_
        refine ⟨_, (.cons (.cellA rfl rfl sz95 (envL_len S)) (.cons (.tmp (by exact .d _)) .nil)), ?_⟩
        rfl
end Go.Proofs.Ytblbnagdhcpnoaa.Am.M
