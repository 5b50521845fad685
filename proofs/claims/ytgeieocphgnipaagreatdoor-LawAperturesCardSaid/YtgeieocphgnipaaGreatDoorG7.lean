/- Contracts over the abstract machine: losses: the reference, the law. Conditions: none. -/
import Derived.Test.YtgeieocphgnipaaGreatDoorG6
set_option linter.unusedVariables false
set_option linter.unusedSimpArgs false
-- mini
namespace Go.Proofs.YtgeieocphgnipaaGreatDoor.Am.M
open Go
set_option maxRecDepth 100000 in
theorem rlossOf_p (s p : Int) : PC Tryz.prog 33 [.v (.int .i64 (s)), .v (.int .i64 (p))] (.tup [.v (.int .i64 ((lossR s p).1)), .v (.int .i64 ((lossR s p).2))]) := by
  refine pc_of_awp Tryz.func33 rfl Tryz.ntmps33 (rs := [.tmp 4, .tmp 5]) Tryz.results33 (by simp) fun w0 => ?_
  refine awp_seq ?_
  refine awp_region 2 mixed (by kernel_rfl) ?_
  refine rg_q (q_assign (x := .d (.v _)) rfl) ?_
  refine rg_q (q_assign (x := .d (.v _)) rfl) ?_
  refine rg_nil ?_
  refine aops_nil ?_
  change Awp _ _ _ _ _
  refine awp_seq ?_
  refine awp_seq ?_
  refine awp_region 8 mixed (by kernel_rfl) ?_
  refine rg_q (q_move (x := .d (.v _)) rfl) ?_
  refine rg_q (q_call en34 (.cons rfl (.cons rfl (.cons rfl .nil))) rfl (Within_p _ _ _)) ?_
  refine rg_q (q_not rfl) ?_
  refine rg_q (q_move (x := .d (.v _)) rfl) ?_
  refine rg_g rfl rfl (fun hG => (q_move (x := .d (.v _)) rfl)) ?_
  refine rg_g rfl rfl (fun hG => (q_call en34 (.cons rfl (.cons rfl (.cons rfl .nil))) rfl (Within_p _ _ _))) ?_
  refine rg_g rfl rfl (fun hG => (q_not rfl)) ?_
  refine rg_pick rfl rfl rfl rfl rfl rfl ?_
  refine rg_nil ?_
  refine aops_nil ?_
  change Awp _ _ _ _ _
  refine awp_cond rfl (fun hc1 => ?_) (fun hc1 => ?_)
  ·
    (try simp only [decide_eq_true_eq, decide_eq_false_iff_not, Bool.and_eq_true, Bool.or_eq_true, Bool.and_eq_false_iff, Bool.or_eq_false_iff, Bool.not_eq_true', Bool.not_eq_false', Bool.not_true, Bool.not_false, bif_and, bif_or, Bool.not_not, ne_eq, Decidable.not_not, not_true_eq_false, not_false_eq_true, Int.not_le, Int.not_lt] at hc1)
    have hz : lossR s p = (0, 2) := by unfold lossR; rw [if_pos (by simp_all)]
    refine awp_seq ?_
    refine awp_region 2 mixed (by kernel_rfl) ?_
    refine rg_q (q_assign (x := .d (.v _)) rfl) ?_
    refine rg_q (q_assign (x := .d (.v _)) rfl) ?_
    refine rg_nil ?_
    refine aops_nil ?_
    change Awp _ _ _ _ _
    refine awp_ret ?_
    refine ⟨_, (.cons (.tmp (by exact .d _)) (.cons (.tmp (by exact .d _)) .nil)), ?_⟩
    rw [hz]; rfl
  ·
    (try simp only [decide_eq_true_eq, decide_eq_false_iff_not, Bool.and_eq_true, Bool.or_eq_true, Bool.and_eq_false_iff, Bool.or_eq_false_iff, Bool.not_eq_true', Bool.not_eq_false', Bool.not_true, Bool.not_false, bif_and, bif_or, Bool.not_not, ne_eq, Decidable.not_not, not_true_eq_false, not_false_eq_true, Int.not_le, Int.not_lt] at hc1)
    have h1 : ¬ (!inR 0 s 1000000000000 || !inR 1 p 10000000) = true := by simp_all
    have h1s := h1
    simp [inR] at h1s
    obtain ⟨⟨s1, s2⟩, p1, p2⟩ := h1s
    refine awp_skip ?_
    change Awp _ _ _ _ _
    refine awp_seq ?_
    refine awp_seq ?_
    refine awp_region 3 mixed (by kernel_rfl) ?_
    refine rg_q (q_move (x := .d (.v _)) rfl) ?_
    refine rg_q (q_move (x := .d (.v _)) rfl) ?_
    refine rg_q (q_geq rfl rfl) ?_
    refine rg_nil ?_
    refine aops_nil ?_
    change Awp _ _ _ _ _
    refine awp_cond rfl (fun hc3 => ?_) (fun hc3 => ?_)
    ·
      (try simp only [decide_eq_true_eq, decide_eq_false_iff_not, Bool.and_eq_true, Bool.or_eq_true, Bool.and_eq_false_iff, Bool.or_eq_false_iff, Bool.not_eq_true', Bool.not_eq_false', Bool.not_true, Bool.not_false, bif_and, bif_or, Bool.not_not, ne_eq, Decidable.not_not, not_true_eq_false, not_false_eq_true, Int.not_le, Int.not_lt] at hc3)
      have hz : lossR s p = (1000, 0) := by unfold lossR; rw [if_neg h1, if_pos hc3]
      refine awp_seq ?_
      refine awp_region 2 mixed (by kernel_rfl) ?_
      refine rg_q (q_assign (x := .d (.v _)) rfl) ?_
      refine rg_q (q_assign (x := .d (.v _)) rfl) ?_
      refine rg_nil ?_
      refine aops_nil ?_
      change Awp _ _ _ _ _
      refine awp_ret ?_
      refine ⟨_, (.cons (.tmp (by exact .d _)) (.cons (.tmp (by exact .d _)) .nil)), ?_⟩
      rw [hz]; rfl
    ·
      (try simp only [decide_eq_true_eq, decide_eq_false_iff_not, Bool.and_eq_true, Bool.or_eq_true, Bool.and_eq_false_iff, Bool.or_eq_false_iff, Bool.not_eq_true', Bool.not_eq_false', Bool.not_true, Bool.not_false, bif_and, bif_or, Bool.not_not, ne_eq, Decidable.not_not, not_true_eq_false, not_false_eq_true, Int.not_le, Int.not_lt] at hc3)
      have hsp : s < p := by omega
      have hz : lossR s p = (min 1000 (ceilI (5000 * s * s) (p * p)), 0) := by unfold lossR; rw [if_neg h1, if_neg (by omega)]
      have m1 := mulb (a := 5000 * s) (b := s) (A := 50000000000) (B := 10000000) (by omega) (by omega) (by omega) (by omega)
      have m2 := mulb (a := p) (b := p) (A := 10000000) (B := 10000000) (by omega) (by omega) (by omega) (by omega)
      have m3 : 0 < p * p := Int.mul_pos (by omega) (by omega)
      have m4 : 0 ≤ 5000 * s * s := Int.mul_nonneg (by omega) (by omega)
      refine awp_skip ?_
      change Awp _ _ _ _ _
      refine awp_seq ?_
      refine awp_region 11 mixed (by kernel_rfl) ?_
      refine rg_q (q_move (x := .d (.v _)) rfl) ?_
      refine rg_q (q_mul rfl rfl (In64.mk (by omega) (by omega))) ?_
      refine rg_q (q_move (x := .d (.v _)) rfl) ?_
      refine rg_q (q_mul rfl rfl (In64.mk (by omega) (by omega))) ?_
      refine rg_q (q_move (x := .d (.v _)) rfl) ?_
      refine rg_q (q_move (x := .d (.v _)) rfl) ?_
      refine rg_q (q_mul rfl rfl (In64.mk (by omega) (by omega))) ?_
      refine rg_q (q_call en93 (.cons rfl (.cons rfl .nil)) rfl (Ceil_p _ _ ⟨by omega, by omega⟩ (by omega))) ?_
      refine rg_q (q_min rfl rfl) ?_
      refine rg_q (q_assign (x := .d (.v _)) rfl) ?_
      refine rg_q (q_assign (x := .d (.v _)) rfl) ?_
      refine rg_nil ?_
      refine aops_nil ?_
      change Awp _ _ _ _ _
      refine awp_ret ?_
      refine ⟨_, (.cons (.tmp (by exact .d _)) (.cons (.tmp (by exact .d _)) .nil)), ?_⟩
      rw [hz]; rfl

theorem ceil_mono {n n' d : Int} (hd : 0 < d) (h : n ≤ n') : ceilI n d ≤ ceilI n' d := by
  unfold ceilI
  have := Int.ediv_le_ediv hd (show -n' ≤ -n by omega)
  omega
theorem ceil_anti {n d d' : Int} (hn : 0 ≤ n) (hd : 0 < d) (h : d ≤ d') : ceilI n d' ≤ ceilI n d := by
  unfold ceilI
  have h1 : -n / d ≤ -n / d' := by
    rw [Int.le_ediv_iff_mul_le (by omega)]
    have h2 : -n / d * d ≤ -n := Int.ediv_mul_le _ (by omega)
    have h3 : -n / d ≤ 0 := by
      have := Int.ediv_le_ediv hd (show -n ≤ 0 by omega)
      simpa using this
    have h4 := Int.mul_le_mul_of_nonpos_left h3 h
    omega
  omega
theorem ceil_nonneg {n d : Int} (hn : 0 ≤ n) (hd : 0 < d) : 0 ≤ ceilI n d := by
  have := ceil_mono hd hn
  have e : ceilI 0 d = 0 := by unfold ceilI; simp
  omega
theorem lossR_ok {s p : Int} (h : (lossR s p).2 = 0) : 0 ≤ s ∧ 1 ≤ p := by
  unfold lossR at h
  by_cases h1 : (!inR 0 s 1000000000000 || !inR 1 p 10000000) = true
  · rw [if_pos h1] at h; cases h
  · simp [inR] at h1; omega
theorem lossR_e {s p : Int} (h : (lossR s p).2 = 0) : (lossR s p).1 = if p ≤ s then 1000 else min 1000 (ceilI (5000 * s * s) (p * p)) := by
  unfold lossR at h ⊢
  by_cases h1 : (!inR 0 s 1000000000000 || !inR 1 p 10000000) = true
  · rw [if_pos h1] at h; cases h
  · rw [if_neg h1]; split <;> rfl
theorem loss_in {s p : Int} (h : (lossR s p).2 = 0) : 0 ≤ (lossR s p).1 ∧ (lossR s p).1 ≤ 1000 := by
  obtain ⟨h1, h2⟩ := lossR_ok h
  rw [lossR_e h]
  split
  · omega
  · have := ceil_nonneg (n := 5000 * s * s) (d := p * p) (Int.mul_nonneg (by omega) h1) (Int.mul_pos (by omega) (by omega))
    omega
theorem loss_more {s p a : Int} (h : (lossR s p).2 = 0) (ha : 0 ≤ a) (h' : (lossR (s + a) p).2 = 0) : (lossR s p).1 ≤ (lossR (s + a) p).1 := by
  obtain ⟨h1, h2⟩ := lossR_ok h
  rw [lossR_e h, lossR_e h']
  by_cases k : p ≤ s
  · rw [if_pos k, if_pos (by omega)]; omega
  · rw [if_neg k]
    by_cases k' : p ≤ s + a
    · rw [if_pos k']; omega
    · rw [if_neg k']
      have m := Int.mul_le_mul (show 5000 * s ≤ 5000 * (s + a) by omega) (show s ≤ s + a by omega) h1 (show 0 ≤ 5000 * (s + a) by omega)
      have := ceil_mono (d := p * p) (Int.mul_pos (by omega) (by omega)) m
      omega
theorem loss_less {s p b : Int} (h : (lossR s p).2 = 0) (hb : 0 ≤ b) (h' : (lossR s (p + b)).2 = 0) : (lossR s (p + b)).1 ≤ (lossR s p).1 := by
  obtain ⟨h1, h2⟩ := lossR_ok h
  have hi := loss_in h'
  rw [lossR_e h]
  by_cases k : p ≤ s
  · rw [if_pos k]; omega
  · rw [if_neg k, lossR_e h', if_neg (by omega)]
    have m := Int.mul_le_mul (show p ≤ p + b by omega) (show p ≤ p + b by omega) (show 0 ≤ p by omega) (show 0 ≤ p + b by omega)
    have := ceil_anti (n := 5000 * s * s) (Int.mul_nonneg (by omega) h1) (Int.mul_pos (by omega) (by omega)) m
    omega
theorem loss_zero {p : Int} (h : (lossR 0 p).2 = 0) : (lossR 0 p).1 = 0 := by
  obtain ⟨h1, h2⟩ := lossR_ok h
  rw [lossR_e h, if_neg (by omega)]
  have : ceilI (5000 * 0 * 0) (p * p) = 0 := by unfold ceilI; simp
  rw [this]; decide
set_option maxRecDepth 100000 in
theorem lawLosses_p (s p m n : Int) : PCG Tryz.prog GW 5 [.v (.int .i64 (s)), .v (.int .i64 (p)), .agg [.v (.int .i64 (m)), .v (.int .i64 (n))]] (.v (.bool (true))) := by
  refine pcg_of_awpN gw_keep Tryz.func5 rfl Tryz.ntmps5 (rs := [.tmp 6]) Tryz.results5 (by simp) fun w0 hmine hrnd hpn hG => ?_
  refine awp_seq ?_
  refine awp_region 2 mixed (by kernel_rfl) ?_
  refine rg_q (q_box rfl (by exact .inr ⟨_, rfl⟩)) ?_
  refine rg_q (q_assign (x := .d (.v _)) rfl) ?_
  refine rg_nil ?_
  refine aops_nil ?_
  change Awp _ _ _ _ _
  refine awp_seq ?_
  refine awp_seq ?_
  refine awp_region 2 mixed (by kernel_rfl) ?_
  refine rg_q (q_callG en17 .nil rfl hG (awake_p)) ?_
  refine rg_q (q_not rfl) ?_
  refine rg_nil ?_
  refine aops_nil ?_
  change Awp _ _ _ _ _
  refine awp_cond rfl (fun hc1 => ?_) (fun hc1 => ?_)
  ·
    simp at hc1
  ·
    (try simp only [decide_eq_true_eq, decide_eq_false_iff_not, Bool.and_eq_true, Bool.or_eq_true, Bool.and_eq_false_iff, Bool.or_eq_false_iff, Bool.not_eq_true', Bool.not_eq_false', Bool.not_true, Bool.not_false, bif_and, bif_or, Bool.not_not, ne_eq, Decidable.not_not, not_true_eq_false, not_false_eq_true, Int.not_le, Int.not_lt] at hc1)
    refine awp_skip ?_
    change Awp _ _ _ _ _
    refine awp_seq ?_
    refine awp_region 8 mixed (by kernel_rfl) ?_
    refine rg_q (q_move (x := .d (.v _)) rfl) ?_
    refine rg_q (q_move (x := .d (.v _)) rfl) ?_
    refine rg_q (q_call en32 (.cons rfl (.cons rfl .nil)) rfl (lossOf_p _ _)) ?_
    refine rg_q (q_move (x := .d (.tup _)) rfl) ?_
    refine rg_q (q_extract rfl rfl) ?_
    refine rg_q (q_extract rfl rfl) ?_
    refine rg_q (q_assign (x := .d (.v _)) rfl) ?_
    refine rg_q (q_assign (x := .d (.v _)) rfl) ?_
    refine rg_nil ?_
    refine aops_nil ?_
    change Awp _ _ _ _ _
    refine awp_seq ?_
    refine awp_region 8 mixed (by kernel_rfl) ?_
    refine rg_q (q_move (x := .d (.v _)) rfl) ?_
    refine rg_q (q_move (x := .d (.v _)) rfl) ?_
    refine rg_q (q_call en33 (.cons rfl (.cons rfl .nil)) rfl (rlossOf_p _ _)) ?_
    refine rg_q (q_move (x := .d (.tup _)) rfl) ?_
    refine rg_q (q_extract rfl rfl) ?_
    refine rg_q (q_extract rfl rfl) ?_
    refine rg_q (q_assign (x := .d (.v _)) rfl) ?_
    refine rg_q (q_assign (x := .d (.v _)) rfl) ?_
    refine rg_nil ?_
    refine aops_nil ?_
    change Awp _ _ _ _ _
    refine awp_seq ?_
    refine awp_seq ?_
    refine awp_region 8 mixed (by kernel_rfl) ?_
    refine rg_q (q_move (x := .d (.v _)) rfl) ?_
    refine rg_q (q_move (x := .d (.v _)) rfl) ?_
    refine rg_q (q_neq rfl rfl) ?_
    refine rg_q (q_move (x := .d (.v _)) rfl) ?_
    refine rg_g rfl rfl (fun hG => (q_move (x := .d (.v _)) rfl)) ?_
    refine rg_g rfl rfl (fun hG => (q_move (x := .d (.v _)) rfl)) ?_
    refine rg_g rfl rfl (fun hG => (q_neq rfl rfl)) ?_
    refine rg_pick rfl rfl rfl rfl rfl rfl ?_
    refine rg_nil ?_
    refine aops_nil ?_
    change Awp _ _ _ _ _
    refine awp_cond rfl (fun hc5 => ?_) (fun hc5 => ?_)
    ·
      simp at hc5
    ·
      (try simp only [decide_eq_true_eq, decide_eq_false_iff_not, Bool.and_eq_true, Bool.or_eq_true, Bool.and_eq_false_iff, Bool.or_eq_false_iff, Bool.not_eq_true', Bool.not_eq_false', Bool.not_true, Bool.not_false, bif_and, bif_or, Bool.not_not, ne_eq, Decidable.not_not, not_true_eq_false, not_false_eq_true, Int.not_le, Int.not_lt] at hc5)
      refine awp_skip ?_
      change Awp _ _ _ _ _
      refine awp_seq ?_
      refine awp_seq ?_
      refine awp_region 14 mixed (by kernel_rfl) ?_
      refine rg_q (q_move (x := .d (.v _)) rfl) ?_
      refine rg_q (q_neq rfl rfl) ?_
      refine rg_q (q_move (x := .d (.v _)) rfl) ?_
      refine rg_g rfl rfl (fun hG => (q_indexAddr_ar ar58 rfl rfl (by (have hg0 := T.bool_inj (a := _) hG.1; (try simp only [decide_eq_true_eq, decide_eq_false_iff_not, Bool.and_eq_true, Bool.or_eq_true, Bool.and_eq_false_iff, Bool.or_eq_false_iff, Bool.not_eq_true', Bool.not_eq_false', Bool.not_true, Bool.not_false, bif_and, bif_or, Bool.not_not, ne_eq, Decidable.not_not, not_true_eq_false, not_false_eq_true, Int.not_le, Int.not_lt] at hg0); omega)) (by (have hg0 := T.bool_inj (a := _) hG.1; (try simp only [decide_eq_true_eq, decide_eq_false_iff_not, Bool.and_eq_true, Bool.or_eq_true, Bool.and_eq_false_iff, Bool.or_eq_false_iff, Bool.not_eq_true', Bool.not_eq_false', Bool.not_true, Bool.not_false, bif_and, bif_or, Bool.not_not, ne_eq, Decidable.not_not, not_true_eq_false, not_false_eq_true, Int.not_le, Int.not_lt] at hg0); omega)))) ?_
      refine rg_g rfl rfl (fun hG => (q_load sz3 rfl rfl)) ?_
      refine rg_g rfl rfl (fun hG => (q_call en34 (.cons rfl (.cons rfl (.cons rfl .nil))) rfl (Within_p _ _ _))) ?_
      refine rg_g rfl rfl (fun hG => (q_not rfl)) ?_
      refine rg_pick rfl rfl rfl rfl rfl rfl ?_
      refine rg_q (q_move (x := .d (.v _)) rfl) ?_
      refine rg_g rfl rfl (fun hG => (q_indexAddr_ar ar58 rfl rfl (by (have hg0 := T.bool_inj (a := _) hG.1; (try simp only [decide_eq_true_eq, decide_eq_false_iff_not, Bool.and_eq_true, Bool.or_eq_true, Bool.and_eq_false_iff, Bool.or_eq_false_iff, Bool.not_eq_true', Bool.not_eq_false', Bool.not_true, Bool.not_false, bif_and, bif_or, Bool.not_not, ne_eq, Decidable.not_not, not_true_eq_false, not_false_eq_true, Int.not_le, Int.not_lt] at hg0); omega)) (by (have hg0 := T.bool_inj (a := _) hG.1; (try simp only [decide_eq_true_eq, decide_eq_false_iff_not, Bool.and_eq_true, Bool.or_eq_true, Bool.and_eq_false_iff, Bool.or_eq_false_iff, Bool.not_eq_true', Bool.not_eq_false', Bool.not_true, Bool.not_false, bif_and, bif_or, Bool.not_not, ne_eq, Decidable.not_not, not_true_eq_false, not_false_eq_true, Int.not_le, Int.not_lt] at hg0); omega)))) ?_
      refine rg_g rfl rfl (fun hG => (q_load sz3 rfl rfl)) ?_
      refine rg_g rfl rfl (fun hG => (q_call en34 (.cons rfl (.cons rfl (.cons rfl .nil))) rfl (Within_p _ _ _))) ?_
      refine rg_g rfl rfl (fun hG => (q_not rfl)) ?_
      refine rg_pick rfl rfl rfl rfl rfl rfl ?_
      refine rg_nil ?_
      refine aops_nil ?_
      change Awp _ _ _ _ _
      refine awp_cond rfl (fun hc7 => ?_) (fun hc7 => ?_)
      ·
        (try simp only [decide_eq_true_eq, decide_eq_false_iff_not, Bool.and_eq_true, Bool.or_eq_true, Bool.and_eq_false_iff, Bool.or_eq_false_iff, Bool.not_eq_true', Bool.not_eq_false', Bool.not_true, Bool.not_false, bif_and, bif_or, Bool.not_not, ne_eq, Decidable.not_not, not_true_eq_false, not_false_eq_true, Int.not_le, Int.not_lt] at hc7)
        refine awp_seq ?_
        refine awp_region 1 mixed (by kernel_rfl) ?_
        refine rg_q (q_assign (x := .d (.v _)) rfl) ?_
        refine rg_nil ?_
        refine aops_nil ?_
        change Awp _ _ _ _ _
        refine awp_ret ?_
        refine ⟨_, (.cons (.tmp (by exact .d _)) .nil), ?_⟩
        rfl
      ·
        (try simp only [decide_eq_true_eq, decide_eq_false_iff_not, Bool.and_eq_true, Bool.or_eq_true, Bool.and_eq_false_iff, Bool.or_eq_false_iff, Bool.not_eq_true', Bool.not_eq_false', Bool.not_true, Bool.not_false, bif_and, bif_or, Bool.not_not, ne_eq, Decidable.not_not, not_true_eq_false, not_false_eq_true, Int.not_le, Int.not_lt] at hc7)
        have he0 : (lossR s p).2 = 0 := by omega
        have hm : 0 ≤ m ∧ m ≤ 1000000000 := by simp_all [inR]
        have hn : 0 ≤ n ∧ n ≤ 1000000000 := by simp_all [inR]
        have hsb : s ≤ 1000000000000 ∧ p ≤ 10000000 := by
          unfold lossR at he0
          by_cases h1 : (!inR 0 s 1000000000000 || !inR 1 p 10000000) = true
          · rw [if_pos h1] at he0; cases he0
          · simp [inR] at h1; omega
        obtain ⟨s0, p0⟩ := lossR_ok he0
        obtain ⟨l1, l2⟩ := loss_in he0
        have l3 := loss_more (a := m) he0 hm.1
        have l4 := loss_less (b := n) he0 hn.1
        have l5 : s = 0 → (lossR s p).1 = 0 := fun e => by subst e; exact loss_zero he0
        refine awp_skip ?_
        change Awp _ _ _ _ _
        refine awp_seq ?_
        refine awp_region 11 mixed (by kernel_rfl) ?_
        refine rg_q (q_move (x := .d (.v _)) rfl) ?_
        refine rg_q (q_indexAddr_ar ar58 rfl rfl (by omega) (by omega)) ?_
        refine rg_q (q_load sz3 rfl rfl) ?_
        refine rg_q (q_add rfl rfl (In64.mk (by omega) (by omega))) ?_
        refine rg_q (q_move (x := .d (.v _)) rfl) ?_
        refine rg_q (q_call en32 (.cons rfl (.cons rfl .nil)) rfl (lossOf_p _ _)) ?_
        refine rg_q (q_move (x := .d (.tup _)) rfl) ?_
        refine rg_q (q_extract rfl rfl) ?_
        refine rg_q (q_extract rfl rfl) ?_
        refine rg_q (q_assign (x := .d (.v _)) rfl) ?_
        refine rg_q (q_assign (x := .d (.v _)) rfl) ?_
        refine rg_nil ?_
        refine aops_nil ?_
        change Awp _ _ _ _ _
        refine awp_seq ?_
        refine awp_region 11 mixed (by kernel_rfl) ?_
        refine rg_q (q_move (x := .d (.v _)) rfl) ?_
        refine rg_q (q_move (x := .d (.v _)) rfl) ?_
        refine rg_q (q_indexAddr_ar ar58 rfl rfl (by omega) (by omega)) ?_
        refine rg_q (q_load sz3 rfl rfl) ?_
        refine rg_q (q_add rfl rfl (In64.mk (by omega) (by omega))) ?_
        refine rg_q (q_call en32 (.cons rfl (.cons rfl .nil)) rfl (lossOf_p _ _)) ?_
        refine rg_q (q_move (x := .d (.tup _)) rfl) ?_
        refine rg_q (q_extract rfl rfl) ?_
        refine rg_q (q_extract rfl rfl) ?_
        refine rg_q (q_assign (x := .d (.v _)) rfl) ?_
        refine rg_q (q_assign (x := .d (.v _)) rfl) ?_
        refine rg_nil ?_
        refine aops_nil ?_
        change Awp _ _ _ _ _
        refine awp_seq ?_
        refine awp_region 29 mixed (by kernel_rfl) ?_
        refine rg_q (q_move (x := .d (.v _)) rfl) ?_
        refine rg_q (q_call en34 (.cons rfl (.cons rfl (.cons rfl .nil))) rfl (Within_p _ _ _)) ?_
        refine rg_q (q_move (x := .d (.v _)) rfl) ?_
        refine rg_g rfl rfl (fun hG => (q_move (x := .d (.v _)) rfl)) ?_
        refine rg_g rfl rfl (fun hG => (q_neq rfl rfl)) ?_
        refine rg_g rfl rfl (fun hG => (q_move (x := .d (.v _)) rfl)) ?_
        refine rg_g rfl rfl (fun hG => (q_move (x := .d (.v _)) rfl)) ?_
        refine rg_g rfl rfl (fun hG => (q_move (x := .d (.v _)) rfl)) ?_
        refine rg_g rfl rfl (fun hG => (q_geq rfl rfl)) ?_
        refine rg_pickg rfl rfl rfl rfl rfl rfl rfl rfl ?_
        refine rg_pick rfl rfl rfl rfl rfl rfl ?_
        refine rg_q (q_move (x := .d (.v _)) rfl) ?_
        refine rg_g rfl rfl (fun hG => (q_move (x := .d (.v _)) rfl)) ?_
        refine rg_g rfl rfl (fun hG => (q_neq rfl rfl)) ?_
        refine rg_g rfl rfl (fun hG => (q_move (x := .d (.v _)) rfl)) ?_
        refine rg_g rfl rfl (fun hG => (q_move (x := .d (.v _)) rfl)) ?_
        refine rg_g rfl rfl (fun hG => (q_move (x := .d (.v _)) rfl)) ?_
        refine rg_g rfl rfl (fun hG => (q_leq rfl rfl)) ?_
        refine rg_pickg rfl rfl rfl rfl rfl rfl rfl rfl ?_
        refine rg_pick rfl rfl rfl rfl rfl rfl ?_
        refine rg_q (q_move (x := .d (.v _)) rfl) ?_
        refine rg_g rfl rfl (fun hG => (q_move (x := .d (.v _)) rfl)) ?_
        refine rg_g rfl rfl (fun hG => (q_neq rfl rfl)) ?_
        refine rg_g rfl rfl (fun hG => (q_move (x := .d (.v _)) rfl)) ?_
        refine rg_g rfl rfl (fun hG => (q_move (x := .d (.v _)) rfl)) ?_
        refine rg_g rfl rfl (fun hG => (q_eql rfl rfl)) ?_
        refine rg_pickg rfl rfl rfl rfl rfl rfl rfl rfl ?_
        refine rg_pick rfl rfl rfl rfl rfl rfl ?_
        refine rg_q (q_assign (x := .d (.v _)) rfl) ?_
        refine rg_nil ?_
        refine aops_nil ?_
        change Awp _ _ _ _ _
        refine awp_ret ?_
        refine ⟨_, (.cons (.tmp (by exact .d _)) .nil), ?_⟩
        have b1 : inR 0 (lossR s p).1 1000 = true := by simp [inR]; omega
        by_cases k1 : (lossR (s + m) p).2 = 0 <;> by_cases k2 : (lossR s (p + n)).2 = 0 <;> by_cases k3 : s = 0 <;> simp_all [retD]
end Go.Proofs.YtgeieocphgnipaaGreatDoor.Am.M
