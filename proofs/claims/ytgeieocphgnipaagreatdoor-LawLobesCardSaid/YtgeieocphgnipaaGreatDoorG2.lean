/- Contracts over the abstract machine: package law: directions, losses, lobes. Conditions: none. -/
import Derived.Test.YtgeieocphgnipaaGreatDoorG1
set_option linter.unusedVariables false
set_option linter.unusedSimpArgs false
-- mini
namespace Go.Proofs.YtgeieocphgnipaaGreatDoor.Am.M
open Go

structure Trn where
  p : Int
  q : Int
  r : Int
def trnC (t : Trn) : List D := [.v (.int .i64 t.p), .v (.int .i64 t.q), .v (.int .i64 t.r)]
def trnE (t : Trn) : Int := if inR 1 t.r 1000 = false then 2 else if (!inR (-t.r) t.p t.r || !inR (-t.r) t.q t.r) = true ∨ t.p * t.p + t.q * t.q ≠ t.r * t.r then 10 else if t.q ≤ 0 then 15 else 0
structure TrnOk (t : Trn) : Prop where
  r1 : 1 ≤ t.r
  r2 : t.r ≤ 1000
  p1 : -t.r ≤ t.p
  p2 : t.p ≤ t.r
  q1 : 0 < t.q
  q2 : t.q ≤ t.r
theorem trnE_ok {t : Trn} (h : trnE t = 0) : TrnOk t := by
  unfold trnE at h
  by_cases h1 : inR 1 t.r 1000 = false
  · rw [if_pos h1] at h; cases h
  rw [if_neg h1] at h
  by_cases h2 : (!inR (-t.r) t.p t.r || !inR (-t.r) t.q t.r) = true ∨ t.p * t.p + t.q * t.q ≠ t.r * t.r
  · rw [if_pos h2] at h; cases h
  rw [if_neg h2] at h
  by_cases h3 : t.q ≤ 0
  · rw [if_pos h3] at h; cases h
  simp [inR] at h1 h2
  exact ⟨by omega, by omega, by omega, by omega, by omega, by omega⟩
theorem sqb {a b : Int} (h1 : -b ≤ a) (h2 : a ≤ b) (h3 : b ≤ 1000) : 0 ≤ a * a ∧ a * a ≤ 1000000 := by
  have h0 : 0 ≤ a * a := by
    rcases Int.le_total 0 a with q | q
    · exact Int.mul_nonneg q q
    · exact Int.mul_nonneg_of_nonpos_of_nonpos q q
  refine ⟨h0, ?_⟩
  have m := mulb (a := a) (b := a) (A := 1000) (B := 1000) (by omega) (by omega) (by omega) (by omega)
  omega
set_option maxRecDepth 100000 in
theorem checkTurn_p (t : Trn) : PC Tryz.prog 39 [.agg (trnC t)] (.v (.int .i64 (trnE t))) := by
  refine pc_of_awp Tryz.func39 rfl Tryz.ntmps39 (rs := [.tmp 2]) Tryz.results39 (by simp) fun w0 => ?_
  refine awp_seq ?_
  refine awp_region 2 mixed (by kernel_rfl) ?_
  refine rg_q (q_box rfl (by exact .inr ⟨_, rfl⟩)) ?_
  refine rg_q (q_assign (x := .d (.v _)) rfl) ?_
  refine rg_nil ?_
  refine aops_nil ?_
  change Awp _ _ _ _ _
  refine awp_seq ?_
  refine awp_block ?_
  refine awp_seq ?_
  refine awp_region 5 mixed (by kernel_rfl) ?_
  refine rg_q (q_fieldAddr fld66_2 rfl) ?_
  refine rg_q (q_load sz3 rfl rfl) ?_
  refine rg_q (q_call en91 (.cons rfl (.cons rfl (.cons rfl .nil))) rfl (lwithin_p _ _ _)) ?_
  refine rg_q (q_not rfl) ?_
  refine rg_q (q_assign (x := .d (.v _)) rfl) ?_
  refine rg_nil ?_
  refine aops_nil ?_
  change Awp _ _ _ _ _
  refine awp_cond rfl (fun hc1 => ?_) (fun hc1 => ?_)
  ·
    (try simp only [decide_eq_true_eq, decide_eq_false_iff_not, Bool.and_eq_true, Bool.or_eq_true, Bool.and_eq_false_iff, Bool.or_eq_false_iff, Bool.not_eq_true', Bool.not_eq_false', Bool.not_true, Bool.not_false, bif_and, bif_or, Bool.not_not, ne_eq, Decidable.not_not, not_true_eq_false, not_false_eq_true, Int.not_le, Int.not_lt] at hc1)
    have hz : trnE t = 2 := by unfold trnE; rw [if_pos hc1]
    refine awp_seq ?_
    refine awp_region 1 mixed (by kernel_rfl) ?_
    refine rg_q (q_assign (x := .d (.v _)) rfl) ?_
    refine rg_nil ?_
    refine aops_nil ?_
    change Awp _ _ _ _ _
    refine awp_ret ?_
    refine ⟨_, (.cons (.tmp (by exact .d _)) .nil), ?_⟩
    rw [hz]; rfl
  ·
    (try simp only [decide_eq_true_eq, decide_eq_false_iff_not, Bool.and_eq_true, Bool.or_eq_true, Bool.and_eq_false_iff, Bool.or_eq_false_iff, Bool.not_eq_true', Bool.not_eq_false', Bool.not_true, Bool.not_false, bif_and, bif_or, Bool.not_not, ne_eq, Decidable.not_not, not_true_eq_false, not_false_eq_true, Int.not_le, Int.not_lt] at hc1)
    have h1 : inR 1 t.r 1000 = true := by simpa using hc1
    have h1' : ¬ inR 1 t.r 1000 = false := by rw [h1]; simp
    have h1s := h1
    simp [inR] at h1s
    obtain ⟨r1, r2⟩ := h1s
    refine awp_seq ?_
    refine awp_region 34 mixed (by kernel_rfl) ?_
    refine rg_q (q_fieldAddr fld66_0 rfl) ?_
    refine rg_q (q_load sz3 rfl rfl) ?_
    refine rg_q (q_fieldAddr fld66_2 rfl) ?_
    refine rg_q (q_load sz3 rfl rfl) ?_
    refine rg_q (q_call en95 (.cons rfl (.cons rfl .nil)) rfl (lsmall_p _ _ (by omega) (by omega))) ?_
    refine rg_q (q_not rfl) ?_
    refine rg_q (q_move (x := .d (.v _)) rfl) ?_
    refine rg_g rfl rfl (fun hG => (q_fieldAddr fld66_1 rfl)) ?_
    refine rg_g rfl rfl (fun hG => (q_load sz3 rfl rfl)) ?_
    refine rg_g rfl rfl (fun hG => (q_fieldAddr fld66_2 rfl)) ?_
    refine rg_g rfl rfl (fun hG => (q_load sz3 rfl rfl)) ?_
    refine rg_g rfl rfl (fun hG => (q_call en95 (.cons rfl (.cons rfl .nil)) rfl (lsmall_p _ _ (by omega) (by omega)))) ?_
    refine rg_g rfl rfl (fun hG => (q_not rfl)) ?_
    refine rg_pick rfl rfl rfl rfl rfl rfl ?_
    refine rg_q (q_move (x := .d (.v _)) rfl) ?_
    refine rg_g rfl rfl (fun hG => (q_fieldAddr fld66_0 rfl)) ?_
    refine rg_g rfl rfl (fun hG => (q_load sz3 rfl rfl)) ?_
    refine rg_g rfl rfl (fun hG => (q_fieldAddr fld66_0 rfl)) ?_
    refine rg_g rfl rfl (fun hG => (q_load sz3 rfl rfl)) ?_
    refine rg_g rfl rfl (fun hG => (q_mul rfl rfl (In64.mk (by (have hg0 := T.bool_inj (a := _) hG.1; (try simp only [decide_eq_true_eq, decide_eq_false_iff_not, Bool.and_eq_true, Bool.or_eq_true, Bool.and_eq_false_iff, Bool.or_eq_false_iff, Bool.not_eq_true', Bool.not_eq_false', Bool.not_true, Bool.not_false, bif_and, bif_or, Bool.not_not, ne_eq, Decidable.not_not, not_true_eq_false, not_false_eq_true, Int.not_le, Int.not_lt] at hg0); (simp only [inR, Bool.and_eq_true, decide_eq_true_eq] at hg0; have hb := sqb (a := t.p) (b := t.r) (by omega) (by omega) (by omega); have hb2 := sqb (a := t.q) (b := t.r) (by omega) (by omega) (by omega); have hb3 := sqb (a := t.r) (b := t.r) (by omega) (by omega) (by omega); omega))) (by (have hg0 := T.bool_inj (a := _) hG.1; (try simp only [decide_eq_true_eq, decide_eq_false_iff_not, Bool.and_eq_true, Bool.or_eq_true, Bool.and_eq_false_iff, Bool.or_eq_false_iff, Bool.not_eq_true', Bool.not_eq_false', Bool.not_true, Bool.not_false, bif_and, bif_or, Bool.not_not, ne_eq, Decidable.not_not, not_true_eq_false, not_false_eq_true, Int.not_le, Int.not_lt] at hg0); (simp only [inR, Bool.and_eq_true, decide_eq_true_eq] at hg0; have hb := sqb (a := t.p) (b := t.r) (by omega) (by omega) (by omega); have hb2 := sqb (a := t.q) (b := t.r) (by omega) (by omega) (by omega); have hb3 := sqb (a := t.r) (b := t.r) (by omega) (by omega) (by omega); omega)))))) ?_
    refine rg_g rfl rfl (fun hG => (q_fieldAddr fld66_1 rfl)) ?_
    refine rg_g rfl rfl (fun hG => (q_load sz3 rfl rfl)) ?_
    refine rg_g rfl rfl (fun hG => (q_fieldAddr fld66_1 rfl)) ?_
    refine rg_g rfl rfl (fun hG => (q_load sz3 rfl rfl)) ?_
    refine rg_g rfl rfl (fun hG => (q_mul rfl rfl (In64.mk (by (have hg0 := T.bool_inj (a := _) hG.1; (try simp only [decide_eq_true_eq, decide_eq_false_iff_not, Bool.and_eq_true, Bool.or_eq_true, Bool.and_eq_false_iff, Bool.or_eq_false_iff, Bool.not_eq_true', Bool.not_eq_false', Bool.not_true, Bool.not_false, bif_and, bif_or, Bool.not_not, ne_eq, Decidable.not_not, not_true_eq_false, not_false_eq_true, Int.not_le, Int.not_lt] at hg0); (simp only [inR, Bool.and_eq_true, decide_eq_true_eq] at hg0; have hb := sqb (a := t.p) (b := t.r) (by omega) (by omega) (by omega); have hb2 := sqb (a := t.q) (b := t.r) (by omega) (by omega) (by omega); have hb3 := sqb (a := t.r) (b := t.r) (by omega) (by omega) (by omega); omega))) (by (have hg0 := T.bool_inj (a := _) hG.1; (try simp only [decide_eq_true_eq, decide_eq_false_iff_not, Bool.and_eq_true, Bool.or_eq_true, Bool.and_eq_false_iff, Bool.or_eq_false_iff, Bool.not_eq_true', Bool.not_eq_false', Bool.not_true, Bool.not_false, bif_and, bif_or, Bool.not_not, ne_eq, Decidable.not_not, not_true_eq_false, not_false_eq_true, Int.not_le, Int.not_lt] at hg0); (simp only [inR, Bool.and_eq_true, decide_eq_true_eq] at hg0; have hb := sqb (a := t.p) (b := t.r) (by omega) (by omega) (by omega); have hb2 := sqb (a := t.q) (b := t.r) (by omega) (by omega) (by omega); have hb3 := sqb (a := t.r) (b := t.r) (by omega) (by omega) (by omega); omega)))))) ?_
    refine rg_g rfl rfl (fun hG => (q_add rfl rfl (In64.mk (by (have hg0 := T.bool_inj (a := _) hG.1; (try simp only [decide_eq_true_eq, decide_eq_false_iff_not, Bool.and_eq_true, Bool.or_eq_true, Bool.and_eq_false_iff, Bool.or_eq_false_iff, Bool.not_eq_true', Bool.not_eq_false', Bool.not_true, Bool.not_false, bif_and, bif_or, Bool.not_not, ne_eq, Decidable.not_not, not_true_eq_false, not_false_eq_true, Int.not_le, Int.not_lt] at hg0); (simp only [inR, Bool.and_eq_true, decide_eq_true_eq] at hg0; have hb := sqb (a := t.p) (b := t.r) (by omega) (by omega) (by omega); have hb2 := sqb (a := t.q) (b := t.r) (by omega) (by omega) (by omega); have hb3 := sqb (a := t.r) (b := t.r) (by omega) (by omega) (by omega); omega))) (by (have hg0 := T.bool_inj (a := _) hG.1; (try simp only [decide_eq_true_eq, decide_eq_false_iff_not, Bool.and_eq_true, Bool.or_eq_true, Bool.and_eq_false_iff, Bool.or_eq_false_iff, Bool.not_eq_true', Bool.not_eq_false', Bool.not_true, Bool.not_false, bif_and, bif_or, Bool.not_not, ne_eq, Decidable.not_not, not_true_eq_false, not_false_eq_true, Int.not_le, Int.not_lt] at hg0); (simp only [inR, Bool.and_eq_true, decide_eq_true_eq] at hg0; have hb := sqb (a := t.p) (b := t.r) (by omega) (by omega) (by omega); have hb2 := sqb (a := t.q) (b := t.r) (by omega) (by omega) (by omega); have hb3 := sqb (a := t.r) (b := t.r) (by omega) (by omega) (by omega); omega)))))) ?_
    refine rg_g rfl rfl (fun hG => (q_fieldAddr fld66_2 rfl)) ?_
    refine rg_g rfl rfl (fun hG => (q_load sz3 rfl rfl)) ?_
    refine rg_g rfl rfl (fun hG => (q_fieldAddr fld66_2 rfl)) ?_
    refine rg_g rfl rfl (fun hG => (q_load sz3 rfl rfl)) ?_
    refine rg_g rfl rfl (fun hG => (q_mul rfl rfl (In64.mk (by (have hg0 := T.bool_inj (a := _) hG.1; (try simp only [decide_eq_true_eq, decide_eq_false_iff_not, Bool.and_eq_true, Bool.or_eq_true, Bool.and_eq_false_iff, Bool.or_eq_false_iff, Bool.not_eq_true', Bool.not_eq_false', Bool.not_true, Bool.not_false, bif_and, bif_or, Bool.not_not, ne_eq, Decidable.not_not, not_true_eq_false, not_false_eq_true, Int.not_le, Int.not_lt] at hg0); (simp only [inR, Bool.and_eq_true, decide_eq_true_eq] at hg0; have hb := sqb (a := t.p) (b := t.r) (by omega) (by omega) (by omega); have hb2 := sqb (a := t.q) (b := t.r) (by omega) (by omega) (by omega); have hb3 := sqb (a := t.r) (b := t.r) (by omega) (by omega) (by omega); omega))) (by (have hg0 := T.bool_inj (a := _) hG.1; (try simp only [decide_eq_true_eq, decide_eq_false_iff_not, Bool.and_eq_true, Bool.or_eq_true, Bool.and_eq_false_iff, Bool.or_eq_false_iff, Bool.not_eq_true', Bool.not_eq_false', Bool.not_true, Bool.not_false, bif_and, bif_or, Bool.not_not, ne_eq, Decidable.not_not, not_true_eq_false, not_false_eq_true, Int.not_le, Int.not_lt] at hg0); (simp only [inR, Bool.and_eq_true, decide_eq_true_eq] at hg0; have hb := sqb (a := t.p) (b := t.r) (by omega) (by omega) (by omega); have hb2 := sqb (a := t.q) (b := t.r) (by omega) (by omega) (by omega); have hb3 := sqb (a := t.r) (b := t.r) (by omega) (by omega) (by omega); omega)))))) ?_
    refine rg_g rfl rfl (fun hG => (q_neq rfl rfl)) ?_
    refine rg_pick rfl rfl rfl rfl rfl rfl ?_
    refine rg_q (q_assign (x := .d (.v _)) rfl) ?_
    refine rg_nil ?_
    refine aops_nil ?_
    change Awp _ _ _ _ _
    refine awp_cond rfl (fun hc3 => ?_) (fun hc3 => ?_)
    ·
      (try simp only [decide_eq_true_eq, decide_eq_false_iff_not, Bool.and_eq_true, Bool.or_eq_true, Bool.and_eq_false_iff, Bool.or_eq_false_iff, Bool.not_eq_true', Bool.not_eq_false', Bool.not_true, Bool.not_false, bif_and, bif_or, Bool.not_not, ne_eq, Decidable.not_not, not_true_eq_false, not_false_eq_true, Int.not_le, Int.not_lt] at hc3)
      have hz : trnE t = 10 := by unfold trnE; rw [if_neg h1', if_pos (by simp_all)]
      refine awp_seq ?_
      refine awp_region 1 mixed (by kernel_rfl) ?_
      refine rg_q (q_assign (x := .d (.v _)) rfl) ?_
      refine rg_nil ?_
      refine aops_nil ?_
      change Awp _ _ _ _ _
      refine awp_ret ?_
      refine ⟨_, (.cons (.tmp (by exact .d _)) .nil), ?_⟩
      rw [hz]; rfl
    ·
      (try simp only [decide_eq_true_eq, decide_eq_false_iff_not, Bool.and_eq_true, Bool.or_eq_true, Bool.and_eq_false_iff, Bool.or_eq_false_iff, Bool.not_eq_true', Bool.not_eq_false', Bool.not_true, Bool.not_false, bif_and, bif_or, Bool.not_not, ne_eq, Decidable.not_not, not_true_eq_false, not_false_eq_true, Int.not_le, Int.not_lt] at hc3)
      have h2 : ¬ ((!inR (-t.r) t.p t.r || !inR (-t.r) t.q t.r) = true ∨ t.p * t.p + t.q * t.q ≠ t.r * t.r) := by simp_all
      refine awp_seq ?_
      refine awp_region 4 mixed (by kernel_rfl) ?_
      refine rg_q (q_fieldAddr fld66_1 rfl) ?_
      refine rg_q (q_load sz3 rfl rfl) ?_
      refine rg_q (q_leq rfl rfl) ?_
      refine rg_q (q_assign (x := .d (.v _)) rfl) ?_
      refine rg_nil ?_
      refine aops_nil ?_
      change Awp _ _ _ _ _
      refine awp_cond rfl (fun hc5 => ?_) (fun hc5 => ?_)
      ·
        (try simp only [decide_eq_true_eq, decide_eq_false_iff_not, Bool.and_eq_true, Bool.or_eq_true, Bool.and_eq_false_iff, Bool.or_eq_false_iff, Bool.not_eq_true', Bool.not_eq_false', Bool.not_true, Bool.not_false, bif_and, bif_or, Bool.not_not, ne_eq, Decidable.not_not, not_true_eq_false, not_false_eq_true, Int.not_le, Int.not_lt] at hc5)
        have hz : trnE t = 15 := by unfold trnE; rw [if_neg h1', if_neg h2, if_pos hc5]
        refine awp_seq ?_
        refine awp_region 1 mixed (by kernel_rfl) ?_
        refine rg_q (q_assign (x := .d (.v _)) rfl) ?_
        refine rg_nil ?_
        refine aops_nil ?_
        change Awp _ _ _ _ _
        refine awp_ret ?_
        refine ⟨_, (.cons (.tmp (by exact .d _)) .nil), ?_⟩
        rw [hz]; rfl
      ·
        (try simp only [decide_eq_true_eq, decide_eq_false_iff_not, Bool.and_eq_true, Bool.or_eq_true, Bool.and_eq_false_iff, Bool.or_eq_false_iff, Bool.not_eq_true', Bool.not_eq_false', Bool.not_true, Bool.not_false, bif_and, bif_or, Bool.not_not, ne_eq, Decidable.not_not, not_true_eq_false, not_false_eq_true, Int.not_le, Int.not_lt] at hc5)
        have hz : trnE t = 0 := by unfold trnE; rw [if_neg h1', if_neg h2, if_neg (by omega)]
        refine awp_skip ?_
        change Awp _ _ _ _ _
        refine awp_seq ?_
        refine awp_region 1 mixed (by kernel_rfl) ?_
        refine rg_q (q_assign (x := .d (.v _)) rfl) ?_
        refine rg_nil ?_
        refine aops_nil ?_
        change Awp _ _ _ _ _
        refine awp_ret ?_
        refine ⟨_, (.cons (.tmp (by exact .d _)) .nil), ?_⟩
        rw [hz]; rfl

def lossR (s p : Int) : Int × Int := if (!inR 0 s 1000000000000 || !inR 1 p 10000000) = true then (0, 2) else if p ≤ s then (1000, 0) else (min 1000 (ceilI (5000 * s * s) (p * p)), 0)
set_option maxRecDepth 100000 in
theorem lossOf_p (s p : Int) : PC Tryz.prog 32 [.v (.int .i64 (s)), .v (.int .i64 (p))] (.tup [.v (.int .i64 ((lossR s p).1)), .v (.int .i64 ((lossR s p).2))]) := by
  refine pc_of_awp Tryz.func32 rfl Tryz.ntmps32 (rs := [.tmp 4, .tmp 5]) Tryz.results32 (by simp) fun w0 => ?_
  refine awp_seq ?_
  refine awp_region 2 mixed (by kernel_rfl) ?_
  refine rg_q (q_assign (x := .d (.v _)) rfl) ?_
  refine rg_q (q_assign (x := .d (.v _)) rfl) ?_
  refine rg_nil ?_
  refine aops_nil ?_
  change Awp _ _ _ _ _
  refine awp_seq ?_
  refine awp_block ?_
  refine awp_seq ?_
  refine awp_region 9 mixed (by kernel_rfl) ?_
  refine rg_q (q_move (x := .d (.v _)) rfl) ?_
  refine rg_q (q_call en91 (.cons rfl (.cons rfl (.cons rfl .nil))) rfl (lwithin_p _ _ _)) ?_
  refine rg_q (q_not rfl) ?_
  refine rg_q (q_move (x := .d (.v _)) rfl) ?_
  refine rg_g rfl rfl (fun hG => (q_move (x := .d (.v _)) rfl)) ?_
  refine rg_g rfl rfl (fun hG => (q_call en91 (.cons rfl (.cons rfl (.cons rfl .nil))) rfl (lwithin_p _ _ _))) ?_
  refine rg_g rfl rfl (fun hG => (q_not rfl)) ?_
  refine rg_pick rfl rfl rfl rfl rfl rfl ?_
  refine rg_q (q_assign (x := .d (.v _)) rfl) ?_
  refine rg_nil ?_
  refine aops_nil ?_
  change Awp _ _ _ _ _
  refine awp_cond rfl (fun hc1 => ?_) (fun hc1 => ?_)
  ·
    (try simp only [decide_eq_true_eq, decide_eq_false_iff_not, Bool.and_eq_true, Bool.or_eq_true, Bool.and_eq_false_iff, Bool.or_eq_false_iff, Bool.not_eq_true', Bool.not_eq_false', Bool.not_true, Bool.not_false, bif_and, bif_or, Bool.not_not, ne_eq, Decidable.not_not, not_true_eq_false, not_false_eq_true, Int.not_le, Int.not_lt] at hc1)
    have hz : lossR s p = (0, 2) := by unfold lossR; rw [if_pos (by simp_all)]
    refine awp_seq ?_
    refine awp_region 2 mixed (by kernel_rfl) ?_
    refine rg_q (q_assign (x := .d (.v _)) rfl) ?_
    refine rg_q (q_assign (x := .d (.v _)) rfl) ?_
    refine rg_nil ?_
    refine aops_nil ?_
    change Awp _ _ _ _ _
    refine awp_ret ?_
    refine ⟨_, (.cons (.tmp (by exact .d _)) (.cons (.tmp (by exact .d _)) .nil)), ?_⟩
    rw [hz]; rfl
  ·
    (try simp only [decide_eq_true_eq, decide_eq_false_iff_not, Bool.and_eq_true, Bool.or_eq_true, Bool.and_eq_false_iff, Bool.or_eq_false_iff, Bool.not_eq_true', Bool.not_eq_false', Bool.not_true, Bool.not_false, bif_and, bif_or, Bool.not_not, ne_eq, Decidable.not_not, not_true_eq_false, not_false_eq_true, Int.not_le, Int.not_lt] at hc1)
    have h1 : ¬ (!inR 0 s 1000000000000 || !inR 1 p 10000000) = true := by simp_all
    have h1s := h1
    simp [inR] at h1s
    obtain ⟨⟨s1, s2⟩, p1, p2⟩ := h1s
    refine awp_seq ?_
    refine awp_region 4 mixed (by kernel_rfl) ?_
    refine rg_q (q_move (x := .d (.v _)) rfl) ?_
    refine rg_q (q_move (x := .d (.v _)) rfl) ?_
    refine rg_q (q_geq rfl rfl) ?_
    refine rg_q (q_assign (x := .d (.v _)) rfl) ?_
    refine rg_nil ?_
    refine aops_nil ?_
    change Awp _ _ _ _ _
    refine awp_cond rfl (fun hc3 => ?_) (fun hc3 => ?_)
    ·
      (try simp only [decide_eq_true_eq, decide_eq_false_iff_not, Bool.and_eq_true, Bool.or_eq_true, Bool.and_eq_false_iff, Bool.or_eq_false_iff, Bool.not_eq_true', Bool.not_eq_false', Bool.not_true, Bool.not_false, bif_and, bif_or, Bool.not_not, ne_eq, Decidable.not_not, not_true_eq_false, not_false_eq_true, Int.not_le, Int.not_lt] at hc3)
      have hz : lossR s p = (1000, 0) := by unfold lossR; rw [if_neg h1, if_pos hc3]
      refine awp_seq ?_
      refine awp_region 2 mixed (by kernel_rfl) ?_
      refine rg_q (q_assign (x := .d (.v _)) rfl) ?_
      refine rg_q (q_assign (x := .d (.v _)) rfl) ?_
      refine rg_nil ?_
      refine aops_nil ?_
      change Awp _ _ _ _ _
      refine awp_ret ?_
      refine ⟨_, (.cons (.tmp (by exact .d _)) (.cons (.tmp (by exact .d _)) .nil)), ?_⟩
      rw [hz]; rfl
    ·
      (try simp only [decide_eq_true_eq, decide_eq_false_iff_not, Bool.and_eq_true, Bool.or_eq_true, Bool.and_eq_false_iff, Bool.or_eq_false_iff, Bool.not_eq_true', Bool.not_eq_false', Bool.not_true, Bool.not_false, bif_and, bif_or, Bool.not_not, ne_eq, Decidable.not_not, not_true_eq_false, not_false_eq_true, Int.not_le, Int.not_lt] at hc3)
      have hsp : s < p := by omega
      have hz : lossR s p = (min 1000 (ceilI (5000 * s * s) (p * p)), 0) := by unfold lossR; rw [if_neg h1, if_neg (by omega)]
      have m1 := mulb (a := 5000 * s) (b := s) (A := 50000000000) (B := 10000000) (by omega) (by omega) (by omega) (by omega)
      have m2 := mulb (a := p) (b := p) (A := 10000000) (B := 10000000) (by omega) (by omega) (by omega) (by omega)
      have m3 : 0 < p * p := Int.mul_pos (by omega) (by omega)
      have m4 : 0 ≤ 5000 * s * s := Int.mul_nonneg (by omega) (by omega)
      refine awp_skip ?_
      change Awp _ _ _ _ _
      refine awp_seq ?_
      refine awp_region 11 mixed (by kernel_rfl) ?_
      refine rg_q (q_move (x := .d (.v _)) rfl) ?_
      refine rg_q (q_mul rfl rfl (In64.mk (by omega) (by omega))) ?_
      refine rg_q (q_move (x := .d (.v _)) rfl) ?_
      refine rg_q (q_mul rfl rfl (In64.mk (by omega) (by omega))) ?_
      refine rg_q (q_move (x := .d (.v _)) rfl) ?_
      refine rg_q (q_move (x := .d (.v _)) rfl) ?_
      refine rg_q (q_mul rfl rfl (In64.mk (by omega) (by omega))) ?_
      refine rg_q (q_call en92 (.cons rfl (.cons rfl .nil)) rfl (lceil_p _ _ ⟨by omega, by omega⟩ (by omega))) ?_
      refine rg_q (q_min rfl rfl) ?_
      refine rg_q (q_assign (x := .d (.v _)) rfl) ?_
      refine rg_q (q_assign (x := .d (.v _)) rfl) ?_
      refine rg_nil ?_
      refine aops_nil ?_
      change Awp _ _ _ _ _
      refine awp_ret ?_
      refine ⟨_, (.cons (.tmp (by exact .d _)) (.cons (.tmp (by exact .d _)) .nil)), ?_⟩
      rw [hz]; rfl

structure Ptc where
  p : Int
  v : Int
  k : Int
  t : Trn
def ptcC (x : Ptc) : List D := [.v (.int .i64 x.p), .v (.int .i64 x.v), .v (.int .i64 x.k), .v (.int .i64 x.t.p), .v (.int .i64 x.t.q), .v (.int .i64 x.t.r)]
def ptcE (x : Ptc) : Int := if (!inR 1 x.p 1000 || !inR 500 x.v 10000 || !inR 1 x.k 50000) = true then 2 else 0
theorem ptcE_ok {x : Ptc} (h : ptcE x = 0) : (1 ≤ x.p ∧ x.p ≤ 1000) ∧ (500 ≤ x.v ∧ x.v ≤ 10000) ∧ 1 ≤ x.k ∧ x.k ≤ 50000 := by
  unfold ptcE at h
  by_cases h1 : (!inR 1 x.p 1000 || !inR 500 x.v 10000 || !inR 1 x.k 50000) = true
  · rw [if_pos h1] at h; cases h
  · simp [inR] at h1; omega
def lobR (x : Ptc) : Int × Int × Int := if ptcE x ≠ 0 then (0, 0, ptcE x) else (100 * x.v, x.p * x.k, 0)
set_option maxRecDepth 100000 in
theorem lobes_p (x : Ptc) : PC Tryz.prog 110 [.agg (ptcC x)] (.tup [.v (.int .i64 ((lobR x).1)), .v (.int .i64 ((lobR x).2.1)), .v (.int .i64 ((lobR x).2.2))]) := by
  refine pc_of_awp Tryz.func110 rfl Tryz.ntmps110 (rs := [.tmp 2, .tmp 3, .tmp 4]) Tryz.results110 (by simp) fun w0 => ?_
  refine awp_seq ?_
  refine awp_region 4 mixed (by kernel_rfl) ?_
  refine rg_q (q_box rfl (by exact .inr ⟨_, rfl⟩)) ?_
  refine rg_q (q_assign (x := .d (.v _)) rfl) ?_
  refine rg_q (q_assign (x := .d (.v _)) rfl) ?_
  refine rg_q (q_assign (x := .d (.v _)) rfl) ?_
  refine rg_nil ?_
  refine aops_nil ?_
  change Awp _ _ _ _ _
  refine awp_seq ?_
  refine awp_seq ?_
  refine awp_region 16 mixed (by kernel_rfl) ?_
  refine rg_q (q_fieldAddr fld89_0 rfl) ?_
  refine rg_q (q_load sz3 rfl rfl) ?_
  refine rg_q (q_call en91 (.cons rfl (.cons rfl (.cons rfl .nil))) rfl (lwithin_p _ _ _)) ?_
  refine rg_q (q_not rfl) ?_
  refine rg_q (q_move (x := .d (.v _)) rfl) ?_
  refine rg_g rfl rfl (fun hG => (q_fieldAddr fld89_1 rfl)) ?_
  refine rg_g rfl rfl (fun hG => (q_load sz3 rfl rfl)) ?_
  refine rg_g rfl rfl (fun hG => (q_call en111 (.cons rfl .nil) rfl (lisSpeed_p _))) ?_
  refine rg_g rfl rfl (fun hG => (q_not rfl)) ?_
  refine rg_pick rfl rfl rfl rfl rfl rfl ?_
  refine rg_q (q_move (x := .d (.v _)) rfl) ?_
  refine rg_g rfl rfl (fun hG => (q_fieldAddr fld89_2 rfl)) ?_
  refine rg_g rfl rfl (fun hG => (q_load sz3 rfl rfl)) ?_
  refine rg_g rfl rfl (fun hG => (q_call en112 (.cons rfl .nil) rfl (lisFreq_p _))) ?_
  refine rg_g rfl rfl (fun hG => (q_not rfl)) ?_
  refine rg_pick rfl rfl rfl rfl rfl rfl ?_
  refine rg_nil ?_
  refine aops_nil ?_
  change Awp _ _ _ _ _
  refine awp_cond rfl (fun hc1 => ?_) (fun hc1 => ?_)
  ·
    (try simp only [decide_eq_true_eq, decide_eq_false_iff_not, Bool.and_eq_true, Bool.or_eq_true, Bool.and_eq_false_iff, Bool.or_eq_false_iff, Bool.not_eq_true', Bool.not_eq_false', Bool.not_true, Bool.not_false, bif_and, bif_or, Bool.not_not, ne_eq, Decidable.not_not, not_true_eq_false, not_false_eq_true, Int.not_le, Int.not_lt] at hc1)
    have hz0 : ptcE x = 2 := by unfold ptcE; rw [if_pos (by simp_all)]
    have hz : lobR x = (0, 0, 2) := by unfold lobR; rw [hz0]; rfl
    refine awp_seq ?_
    refine awp_region 3 mixed (by kernel_rfl) ?_
    refine rg_q (q_assign (x := .d (.v _)) rfl) ?_
    refine rg_q (q_assign (x := .d (.v _)) rfl) ?_
    refine rg_q (q_assign (x := .d (.v _)) rfl) ?_
    refine rg_nil ?_
    refine aops_nil ?_
    change Awp _ _ _ _ _
    refine awp_ret ?_
    refine ⟨_, (.cons (.tmp (by exact .d _)) (.cons (.tmp (by exact .d _)) (.cons (.tmp (by exact .d _)) .nil))), ?_⟩
    rw [hz]; rfl
  ·
    (try simp only [decide_eq_true_eq, decide_eq_false_iff_not, Bool.and_eq_true, Bool.or_eq_true, Bool.and_eq_false_iff, Bool.or_eq_false_iff, Bool.not_eq_true', Bool.not_eq_false', Bool.not_true, Bool.not_false, bif_and, bif_or, Bool.not_not, ne_eq, Decidable.not_not, not_true_eq_false, not_false_eq_true, Int.not_le, Int.not_lt] at hc1)
    have hz0 : ptcE x = 0 := by unfold ptcE; rw [if_neg (by simp_all)]
    have hz : lobR x = (100 * x.v, x.p * x.k, 0) := by unfold lobR; rw [if_neg (fun h => h hz0)]
    obtain ⟨⟨p1, p2⟩, ⟨v1, v2⟩, k1, k2⟩ := ptcE_ok hz0
    have m1 := mulb (a := x.p) (b := x.k) (A := 1000) (B := 50000) (by omega) (by omega) (by omega) (by omega)
    have m0 : 0 < x.p * x.k := Int.mul_pos (by omega) (by omega)
    refine awp_skip ?_
    change Awp _ _ _ _ _
    refine awp_seq ?_
    refine awp_region 11 mixed (by kernel_rfl) ?_
    refine rg_q (q_fieldAddr fld89_1 rfl) ?_
    refine rg_q (q_load sz3 rfl rfl) ?_
    refine rg_q (q_mul rfl rfl (In64.mk (by omega) (by omega))) ?_
    refine rg_q (q_fieldAddr fld89_0 rfl) ?_
    refine rg_q (q_load sz3 rfl rfl) ?_
    refine rg_q (q_fieldAddr fld89_2 rfl) ?_
    refine rg_q (q_load sz3 rfl rfl) ?_
    refine rg_q (q_mul rfl rfl (In64.mk (by omega) (by omega))) ?_
    refine rg_q (q_assign (x := .d (.v _)) rfl) ?_
    refine rg_q (q_assign (x := .d (.v _)) rfl) ?_
    refine rg_q (q_assign (x := .d (.v _)) rfl) ?_
    refine rg_nil ?_
    refine aops_nil ?_
    change Awp _ _ _ _ _
    refine awp_ret ?_
    refine ⟨_, (.cons (.tmp (by exact .d _)) (.cons (.tmp (by exact .d _)) (.cons (.tmp (by exact .d _)) .nil))), ?_⟩
    rw [hz]; rfl

def sizI (n : Int) : Int := max n (-n)
def gfE (x : Ptc) : Int := firstE [ptcE x, trnE x.t]
def gfR (x : Ptc) : Bool × Int := if gfE x ≠ 0 then (false, gfE x) else (decide (x.p * x.k * (x.t.r + sizI x.t.p) ≤ 100 * x.v * x.t.r), 0)
theorem lobR_e (x : Ptc) : (lobR x).2.2 = ptcE x := by
  unfold lobR
  by_cases h : ptcE x ≠ 0
  · rw [if_pos h]
  · rw [if_neg h]; exact (Decidable.not_not.1 h).symm
theorem gfE_ok {x : Ptc} (h : gfE x = 0) : ptcE x = 0 ∧ trnE x.t = 0 := by
  unfold gfE at h
  rw [first_zero] at h
  simp only [List.mem_cons, List.not_mem_nil, or_false, forall_eq_or_imp, forall_eq] at h
  exact h
set_option maxRecDepth 100000 in
theorem gratingFree_p (x : Ptc) : PC Tryz.prog 51 [.agg (ptcC x)] (.tup [.v (.bool ((gfR x).1)), .v (.int .i64 ((gfR x).2))]) := by
  have hle := lobR_e x
  refine pc_of_awp Tryz.func51 rfl Tryz.ntmps51 (rs := [.tmp 2, .tmp 3]) Tryz.results51 (by simp) fun w0 => ?_
  refine awp_seq ?_
  refine awp_region 3 mixed (by kernel_rfl) ?_
  refine rg_q (q_box rfl (by exact .inr ⟨_, rfl⟩)) ?_
  refine rg_q (q_assign (x := .d (.v _)) rfl) ?_
  refine rg_q (q_assign (x := .d (.v _)) rfl) ?_
  refine rg_nil ?_
  refine aops_nil ?_
  change Awp _ _ _ _ _
  refine awp_seq ?_
  refine awp_region 9 mixed (by kernel_rfl) ?_
  refine rg_q (q_loadA (ds := [_, _, _, _, _, _]) sz89 rfl rfl rfl) ?_
  refine rg_q (q_call en110 (.cons rfl .nil) rfl (lobes_p _)) ?_
  refine rg_q (q_move (x := .d (.tup _)) rfl) ?_
  refine rg_q (q_extract rfl rfl) ?_
  refine rg_q (q_extract rfl rfl) ?_
  refine rg_q (q_extract rfl rfl) ?_
  refine rg_q (q_assign (x := .d (.v _)) rfl) ?_
  refine rg_q (q_assign (x := .d (.v _)) rfl) ?_
  refine rg_q (q_assign (x := .d (.v _)) rfl) ?_
  refine rg_nil ?_
  refine aops_nil ?_
  change Awp _ _ _ _ _
  refine awp_seq ?_
  refine awp_seq ?_
  refine awp_region 7 mixed (by kernel_rfl) ?_
  refine rg_q (q_move (x := .d (.v _)) rfl) ?_
  refine rg_q (q_fieldAddr fld89_3 rfl) ?_
  refine rg_q (q_loadA (ds := [_, _, _]) sz66 rfl rfl rfl) ?_
  refine rg_q (q_call en39 (.cons rfl .nil) rfl (checkTurn_p x.t)) ?_
  refine rg_q (q_buildSlice sl178 zr34 rfl rfl (by decide) (.cons rfl (by exact .inl rfl) (.cons rfl (by exact .inl rfl) .nil)) ⟨rfl, rfl, rfl, rfl, trivial⟩ rfl (by decide) rfl) ?_
  refine rg_q (q_call en96 (.cons rfl .nil) rfl (lfirst_p [(lobR x).2.2, trnE x.t])) ?_
  refine rg_q (q_assign (x := .d (.v _)) rfl) ?_
  refine rg_nil ?_
  refine aops_nil ?_
  change Awp _ _ _ _ _
  refine awp_seq ?_
  refine awp_region 2 mixed (by kernel_rfl) ?_
  refine rg_q (q_move (x := .d (.v _)) rfl) ?_
  refine rg_q (q_neq rfl rfl) ?_
  refine rg_nil ?_
  refine aops_nil ?_
  change Awp _ _ _ _ _
  refine awp_cond rfl (fun hc3 => ?_) (fun hc3 => ?_)
  ·
    (try simp only [decide_eq_true_eq, decide_eq_false_iff_not, Bool.and_eq_true, Bool.or_eq_true, Bool.and_eq_false_iff, Bool.or_eq_false_iff, Bool.not_eq_true', Bool.not_eq_false', Bool.not_true, Bool.not_false, bif_and, bif_or, Bool.not_not, ne_eq, Decidable.not_not, not_true_eq_false, not_false_eq_true, Int.not_le, Int.not_lt] at hc3)
    rw [hle] at *
    have hz : gfR x = (false, gfE x) := by unfold gfR; rw [if_pos (show gfE x ≠ 0 from hc3)]
    refine awp_seq ?_
    refine awp_region 3 mixed (by kernel_rfl) ?_
    refine rg_q (q_move (x := .d (.v _)) rfl) ?_
    refine rg_q (q_assign (x := .d (.v _)) rfl) ?_
    refine rg_q (q_assign (x := .d (.v _)) rfl) ?_
    refine rg_nil ?_
    refine aops_nil ?_
    change Awp _ _ _ _ _
    refine awp_ret ?_
    refine ⟨_, (.cons (.tmp (by exact .d _)) (.cons (.tmp (by exact .d _)) .nil)), ?_⟩
    rw [hz]; rfl
  ·
    (try simp only [decide_eq_true_eq, decide_eq_false_iff_not, Bool.and_eq_true, Bool.or_eq_true, Bool.and_eq_false_iff, Bool.or_eq_false_iff, Bool.not_eq_true', Bool.not_eq_false', Bool.not_true, Bool.not_false, bif_and, bif_or, Bool.not_not, ne_eq, Decidable.not_not, not_true_eq_false, not_false_eq_true, Int.not_le, Int.not_lt] at hc3)
    rw [hle] at *
    have hg0 : gfE x = 0 := hc3
    obtain ⟨hz0, ht0⟩ := gfE_ok hg0
    obtain ⟨r1, r2, q1, q2, _, _⟩ := trnE_ok ht0
    obtain ⟨⟨p1, p2⟩, ⟨v1, v2⟩, k1, k2⟩ := ptcE_ok hz0
    have m1 := mulb (a := x.p) (b := x.k) (A := 1000) (B := 50000) (by omega) (by omega) (by omega) (by omega)
    have m0 : 0 < x.p * x.k := Int.mul_pos (by omega) (by omega)
    have hlb : lobR x = (100 * x.v, x.p * x.k, 0) := by unfold lobR; rw [if_neg (fun h => h hz0)]
    have hz : gfR x = (decide (x.p * x.k * (x.t.r + sizI x.t.p) ≤ 100 * x.v * x.t.r), 0) := by unfold gfR; rw [if_neg (fun h => h hg0)]
    have hs : sizI x.t.p ≤ 1000 ∧ 0 ≤ sizI x.t.p := by unfold sizI; omega
    rw [hlb]
    have m2 := mulb (a := x.p * x.k) (b := x.t.r + sizI x.t.p) (A := 50000000) (B := 2000) (by omega) (by omega) (by omega) (by omega)
    have m3 := mulb (a := 100 * x.v) (b := x.t.r) (A := 1000000) (B := 1000) (by omega) (by omega) (by omega) (by omega)
    unfold sizI at m2 hs
    refine awp_skip ?_
    change Awp _ _ _ _ _
    refine awp_seq ?_
    refine awp_region 22 mixed (by kernel_rfl) ?_
    refine rg_q (q_move (x := .d (.v _)) rfl) ?_
    refine rg_q (q_fieldAddr fld89_3 rfl) ?_
    refine rg_q (q_fieldAddr fld66_2 rfl) ?_
    refine rg_q (q_load sz3 rfl rfl) ?_
    refine rg_q (q_fieldAddr fld89_3 rfl) ?_
    refine rg_q (q_fieldAddr fld66_0 rfl) ?_
    refine rg_q (q_load sz3 rfl rfl) ?_
    refine rg_q (q_fieldAddr fld89_3 rfl) ?_
    refine rg_q (q_fieldAddr fld66_0 rfl) ?_
    refine rg_q (q_load sz3 rfl rfl) ?_
    refine rg_q (q_neg rfl (In64.mk (by omega) (by omega))) ?_
    refine rg_q (q_max rfl rfl) ?_
    refine rg_q (q_add rfl rfl (In64.mk (by omega) (by omega))) ?_
    refine rg_q (q_mul rfl rfl (In64.mk (by (simp only; omega)) (by (simp only; omega)))) ?_
    refine rg_q (q_move (x := .d (.v _)) rfl) ?_
    refine rg_q (q_fieldAddr fld89_3 rfl) ?_
    refine rg_q (q_fieldAddr fld66_2 rfl) ?_
    refine rg_q (q_load sz3 rfl rfl) ?_
    refine rg_q (q_mul rfl rfl (In64.mk (by (simp only; omega)) (by (simp only; omega)))) ?_
    refine rg_q (q_leq rfl rfl) ?_
    refine rg_q (q_assign (x := .d (.v _)) rfl) ?_
    refine rg_q (q_assign (x := .d (.v _)) rfl) ?_
    refine rg_nil ?_
    refine aops_nil ?_
    change Awp _ _ _ _ _
    refine awp_ret ?_
    refine ⟨_, (.cons (.tmp (by exact .d _)) (.cons (.tmp (by exact .d _)) .nil)), ?_⟩
    rw [hz]; rfl
end Go.Proofs.YtgeieocphgnipaaGreatDoor.Am.M
