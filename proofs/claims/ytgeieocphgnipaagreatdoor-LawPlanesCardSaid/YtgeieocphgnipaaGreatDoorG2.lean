/- Contracts over the abstract machine: package law: directions, losses, lobes. Conditions: none. -/
import Derived.Test.YtgeieocphgnipaaGreatDoorG1
set_option linter.unusedVariables false
set_option linter.unusedSimpArgs false
-- mini
namespace Go.Proofs.YtgeieocphgnipaaGreatDoor.Am.M
open Go

structure Trn where
  p : Int
  q : Int
  r : Int
def trnC (t : Trn) : List D := [.v (.int .i64 t.p), .v (.int .i64 t.q), .v (.int .i64 t.r)]
def trnE (t : Trn) : Int := if inR 1 t.r 1000 = false then 2 else if (!inR (-t.r) t.p t.r || !inR (-t.r) t.q t.r) = true ∨ t.p * t.p + t.q * t.q ≠ t.r * t.r then 10 else if t.q ≤ 0 then 15 else 0
structure TrnOk (t : Trn) : Prop where
  r1 : 1 ≤ t.r
  r2 : t.r ≤ 1000
  p1 : -t.r ≤ t.p
  p2 : t.p ≤ t.r
  q1 : 0 < t.q
  q2 : t.q ≤ t.r
theorem trnE_ok {t : Trn} (h : trnE t = 0) : TrnOk t := by
  unfold trnE at h
  by_cases h1 : inR 1 t.r 1000 = false
  · rw [if_pos h1] at h; cases h
  rw [if_neg h1] at h
  by_cases h2 : (!inR (-t.r) t.p t.r || !inR (-t.r) t.q t.r) = true ∨ t.p * t.p + t.q * t.q ≠ t.r * t.r
  · rw [if_pos h2] at h; cases h
  rw [if_neg h2] at h
  by_cases h3 : t.q ≤ 0
  · rw [if_pos h3] at h; cases h
  simp [inR] at h1 h2
  exact ⟨by omega, by omega, by omega, by omega, by omega, by omega⟩
theorem sqb {a b : Int} (h1 : -b ≤ a) (h2 : a ≤ b) (h3 : b ≤ 1000) : 0 ≤ a * a ∧ a * a ≤ 1000000 := by
  have h0 : 0 ≤ a * a := by
    rcases Int.le_total 0 a with q | q
    · exact Int.mul_nonneg q q
    · exact Int.mul_nonneg_of_nonpos_of_nonpos q q
  refine ⟨h0, ?_⟩
  have m := mulb (a := a) (b := a) (A := 1000) (B := 1000) (by omega) (by omega) (by omega) (by omega)
  omega
set_option maxRecDepth 100000 in
theorem checkTurn_p (t : Trn) : PC Tryz.prog 39 [.agg (trnC t)] (.v (.int .i64 (trnE t))) := by
  refine pc_of_awp Tryz.func39 rfl Tryz.ntmps39 (rs := [.tmp 2]) Tryz.results39 (by simp) fun w0 => ?_
  refine awp_seq ?_
  refine awp_region 2 mixed (by kernel_rfl) ?_
  refine rg_q (q_box rfl (by exact .inr ⟨_, rfl⟩)) ?_
  refine rg_q (q_assign (x := .d (.v _)) rfl) ?_
  refine rg_nil ?_
  refine aops_nil ?_
  change Awp _ _ _ _ _
  refine awp_seq ?_
  refine awp_block ?_
  refine awp_seq ?_
  refine awp_region 5 mixed (by kernel_rfl) ?_
  refine rg_q (q_fieldAddr fld66_2 rfl) ?_
  refine rg_q (q_load sz3 rfl rfl) ?_
  refine rg_q (q_call en91 (.cons rfl (.cons rfl (.cons rfl .nil))) rfl (lwithin_p _ _ _)) ?_
  refine rg_q (q_not rfl) ?_
  refine rg_q (q_assign (x := .d (.v _)) rfl) ?_
  refine rg_nil ?_
  refine aops_nil ?_
  change Awp _ _ _ _ _
  refine awp_cond rfl (fun hc1 => ?_) (fun hc1 => ?_)
  ·
    (try simp only [decide_eq_true_eq, decide_eq_false_iff_not, Bool.and_eq_true, Bool.or_eq_true, Bool.and_eq_false_iff, Bool.or_eq_false_iff, Bool.not_eq_true', Bool.not_eq_false', Bool.not_true, Bool.not_false, bif_and, bif_or, Bool.not_not, ne_eq, Decidable.not_not, not_true_eq_false, not_false_eq_true, Int.not_le, Int.not_lt] at hc1)
    have hz : trnE t = 2 := by unfold trnE; rw [if_pos hc1]
    refine awp_seq ?_
    refine awp_region 1 mixed (by kernel_rfl) ?_
    refine rg_q (q_assign (x := .d (.v _)) rfl) ?_
    refine rg_nil ?_
    refine aops_nil ?_
    change Awp _ _ _ _ _
    refine awp_ret ?_
    refine ⟨_, (.cons (.tmp (by exact .d _)) .nil), ?_⟩
    rw [hz]; rfl
  ·
    (try simp only [decide_eq_true_eq, decide_eq_false_iff_not, Bool.and_eq_true, Bool.or_eq_true, Bool.and_eq_false_iff, Bool.or_eq_false_iff, Bool.not_eq_true', Bool.not_eq_false', Bool.not_true, Bool.not_false, bif_and, bif_or, Bool.not_not, ne_eq, Decidable.not_not, not_true_eq_false, not_false_eq_true, Int.not_le, Int.not_lt] at hc1)
    have h1 : inR 1 t.r 1000 = true := by simpa using hc1
    have h1' : ¬ inR 1 t.r 1000 = false := by rw [h1]; simp
    have h1s := h1
    simp [inR] at h1s
    obtain ⟨r1, r2⟩ := h1s
    refine awp_seq ?_
    refine awp_region 34 mixed (by kernel_rfl) ?_
    refine rg_q (q_fieldAddr fld66_0 rfl) ?_
    refine rg_q (q_load sz3 rfl rfl) ?_
    refine rg_q (q_fieldAddr fld66_2 rfl) ?_
    refine rg_q (q_load sz3 rfl rfl) ?_
    refine rg_q (q_call en95 (.cons rfl (.cons rfl .nil)) rfl (lsmall_p _ _ (by omega) (by omega))) ?_
    refine rg_q (q_not rfl) ?_
    refine rg_q (q_move (x := .d (.v _)) rfl) ?_
    refine rg_g rfl rfl (fun hG => (q_fieldAddr fld66_1 rfl)) ?_
    refine rg_g rfl rfl (fun hG => (q_load sz3 rfl rfl)) ?_
    refine rg_g rfl rfl (fun hG => (q_fieldAddr fld66_2 rfl)) ?_
    refine rg_g rfl rfl (fun hG => (q_load sz3 rfl rfl)) ?_
    refine rg_g rfl rfl (fun hG => (q_call en95 (.cons rfl (.cons rfl .nil)) rfl (lsmall_p _ _ (by omega) (by omega)))) ?_
    refine rg_g rfl rfl (fun hG => (q_not rfl)) ?_
    refine rg_pick rfl rfl rfl rfl rfl rfl ?_
    refine rg_q (q_move (x := .d (.v _)) rfl) ?_
    refine rg_g rfl rfl (fun hG => (q_fieldAddr fld66_0 rfl)) ?_
    refine rg_g rfl rfl (fun hG => (q_load sz3 rfl rfl)) ?_
    refine rg_g rfl rfl (fun hG => (q_fieldAddr fld66_0 rfl)) ?_
    refine rg_g rfl rfl (fun hG => (q_load sz3 rfl rfl)) ?_
    refine rg_g rfl rfl (fun hG => (q_mul rfl rfl (In64.mk (by (have hg0 := T.bool_inj (a := _) hG.1; (try simp only [decide_eq_true_eq, decide_eq_false_iff_not, Bool.and_eq_true, Bool.or_eq_true, Bool.and_eq_false_iff, Bool.or_eq_false_iff, Bool.not_eq_true', Bool.not_eq_false', Bool.not_true, Bool.not_false, bif_and, bif_or, Bool.not_not, ne_eq, Decidable.not_not, not_true_eq_false, not_false_eq_true, Int.not_le, Int.not_lt] at hg0); (simp only [inR, Bool.and_eq_true, decide_eq_true_eq] at hg0; have hb := sqb (a := t.p) (b := t.r) (by omega) (by omega) (by omega); have hb2 := sqb (a := t.q) (b := t.r) (by omega) (by omega) (by omega); have hb3 := sqb (a := t.r) (b := t.r) (by omega) (by omega) (by omega); omega))) (by (have hg0 := T.bool_inj (a := _) hG.1; (try simp only [decide_eq_true_eq, decide_eq_false_iff_not, Bool.and_eq_true, Bool.or_eq_true, Bool.and_eq_false_iff, Bool.or_eq_false_iff, Bool.not_eq_true', Bool.not_eq_false', Bool.not_true, Bool.not_false, bif_and, bif_or, Bool.not_not, ne_eq, Decidable.not_not, not_true_eq_false, not_false_eq_true, Int.not_le, Int.not_lt] at hg0); (simp only [inR, Bool.and_eq_true, decide_eq_true_eq] at hg0; have hb := sqb (a := t.p) (b := t.r) (by omega) (by omega) (by omega); have hb2 := sqb (a := t.q) (b := t.r) (by omega) (by omega) (by omega); have hb3 := sqb (a := t.r) (b := t.r) (by omega) (by omega) (by omega); omega)))))) ?_
    refine rg_g rfl rfl (fun hG => (q_fieldAddr fld66_1 rfl)) ?_
    refine rg_g rfl rfl (fun hG => (q_load sz3 rfl rfl)) ?_
    refine rg_g rfl rfl (fun hG => (q_fieldAddr fld66_1 rfl)) ?_
    refine rg_g rfl rfl (fun hG => (q_load sz3 rfl rfl)) ?_
    refine rg_g rfl rfl (fun hG => (q_mul rfl rfl (In64.mk (by (have hg0 := T.bool_inj (a := _) hG.1; (try simp only [decide_eq_true_eq, decide_eq_false_iff_not, Bool.and_eq_true, Bool.or_eq_true, Bool.and_eq_false_iff, Bool.or_eq_false_iff, Bool.not_eq_true', Bool.not_eq_false', Bool.not_true, Bool.not_false, bif_and, bif_or, Bool.not_not, ne_eq, Decidable.not_not, not_true_eq_false, not_false_eq_true, Int.not_le, Int.not_lt] at hg0); (simp only [inR, Bool.and_eq_true, decide_eq_true_eq] at hg0; have hb := sqb (a := t.p) (b := t.r) (by omega) (by omega) (by omega); have hb2 := sqb (a := t.q) (b := t.r) (by omega) (by omega) (by omega); have hb3 := sqb (a := t.r) (b := t.r) (by omega) (by omega) (by omega); omega))) (by (have hg0 := T.bool_inj (a := _) hG.1; (try simp only [decide_eq_true_eq, decide_eq_false_iff_not, Bool.and_eq_true, Bool.or_eq_true, Bool.and_eq_false_iff, Bool.or_eq_false_iff, Bool.not_eq_true', Bool.not_eq_false', Bool.not_true, Bool.not_false, bif_and, bif_or, Bool.not_not, ne_eq, Decidable.not_not, not_true_eq_false, not_false_eq_true, Int.not_le, Int.not_lt] at hg0); (simp only [inR, Bool.and_eq_true, decide_eq_true_eq] at hg0; have hb := sqb (a := t.p) (b := t.r) (by omega) (by omega) (by omega); have hb2 := sqb (a := t.q) (b := t.r) (by omega) (by omega) (by omega); have hb3 := sqb (a := t.r) (b := t.r) (by omega) (by omega) (by omega); omega)))))) ?_
    refine rg_g rfl rfl (fun hG => (q_add rfl rfl (In64.mk (by (have hg0 := T.bool_inj (a := _) hG.1; (try simp only [decide_eq_true_eq, decide_eq_false_iff_not, Bool.and_eq_true, Bool.or_eq_true, Bool.and_eq_false_iff, Bool.or_eq_false_iff, Bool.not_eq_true', Bool.not_eq_false', Bool.not_true, Bool.not_false, bif_and, bif_or, Bool.not_not, ne_eq, Decidable.not_not, not_true_eq_false, not_false_eq_true, Int.not_le, Int.not_lt] at hg0); (simp only [inR, Bool.and_eq_true, decide_eq_true_eq] at hg0; have hb := sqb (a := t.p) (b := t.r) (by omega) (by omega) (by omega); have hb2 := sqb (a := t.q) (b := t.r) (by omega) (by omega) (by omega); have hb3 := sqb (a := t.r) (b := t.r) (by omega) (by omega) (by omega); omega))) (by (have hg0 := T.bool_inj (a := _) hG.1; (try simp only [decide_eq_true_eq, decide_eq_false_iff_not, Bool.and_eq_true, Bool.or_eq_true, Bool.and_eq_false_iff, Bool.or_eq_false_iff, Bool.not_eq_true', Bool.not_eq_false', Bool.not_true, Bool.not_false, bif_and, bif_or, Bool.not_not, ne_eq, Decidable.not_not, not_true_eq_false, not_false_eq_true, Int.not_le, Int.not_lt] at hg0); (simp only [inR, Bool.and_eq_true, decide_eq_true_eq] at hg0; have hb := sqb (a := t.p) (b := t.r) (by omega) (by omega) (by omega); have hb2 := sqb (a := t.q) (b := t.r) (by omega) (by omega) (by omega); have hb3 := sqb (a := t.r) (b := t.r) (by omega) (by omega) (by omega); omega)))))) ?_
    refine rg_g rfl rfl (fun hG => (q_fieldAddr fld66_2 rfl)) ?_
    refine rg_g rfl rfl (fun hG => (q_load sz3 rfl rfl)) ?_
    refine rg_g rfl rfl (fun hG => (q_fieldAddr fld66_2 rfl)) ?_
    refine rg_g rfl rfl (fun hG => (q_load sz3 rfl rfl)) ?_
    refine rg_g rfl rfl (fun hG => (q_mul rfl rfl (In64.mk (by (have hg0 := T.bool_inj (a := _) hG.1; (try simp only [decide_eq_true_eq, decide_eq_false_iff_not, Bool.and_eq_true, Bool.or_eq_true, Bool.and_eq_false_iff, Bool.or_eq_false_iff, Bool.not_eq_true', Bool.not_eq_false', Bool.not_true, Bool.not_false, bif_and, bif_or, Bool.not_not, ne_eq, Decidable.not_not, not_true_eq_false, not_false_eq_true, Int.not_le, Int.not_lt] at hg0); (simp only [inR, Bool.and_eq_true, decide_eq_true_eq] at hg0; have hb := sqb (a := t.p) (b := t.r) (by omega) (by omega) (by omega); have hb2 := sqb (a := t.q) (b := t.r) (by omega) (by omega) (by omega); have hb3 := sqb (a := t.r) (b := t.r) (by omega) (by omega) (by omega); omega))) (by (have hg0 := T.bool_inj (a := _) hG.1; (try simp only [decide_eq_true_eq, decide_eq_false_iff_not, Bool.and_eq_true, Bool.or_eq_true, Bool.and_eq_false_iff, Bool.or_eq_false_iff, Bool.not_eq_true', Bool.not_eq_false', Bool.not_true, Bool.not_false, bif_and, bif_or, Bool.not_not, ne_eq, Decidable.not_not, not_true_eq_false, not_false_eq_true, Int.not_le, Int.not_lt] at hg0); (simp only [inR, Bool.and_eq_true, decide_eq_true_eq] at hg0; have hb := sqb (a := t.p) (b := t.r) (by omega) (by omega) (by omega); have hb2 := sqb (a := t.q) (b := t.r) (by omega) (by omega) (by omega); have hb3 := sqb (a := t.r) (b := t.r) (by omega) (by omega) (by omega); omega)))))) ?_
    refine rg_g rfl rfl (fun hG => (q_neq rfl rfl)) ?_
    refine rg_pick rfl rfl rfl rfl rfl rfl ?_
    refine rg_q (q_assign (x := .d (.v _)) rfl) ?_
    refine rg_nil ?_
    refine aops_nil ?_
    change Awp _ _ _ _ _
    refine awp_cond rfl (fun hc3 => ?_) (fun hc3 => ?_)
    ·
      (try simp only [decide_eq_true_eq, decide_eq_false_iff_not, Bool.and_eq_true, Bool.or_eq_true, Bool.and_eq_false_iff, Bool.or_eq_false_iff, Bool.not_eq_true', Bool.not_eq_false', Bool.not_true, Bool.not_false, bif_and, bif_or, Bool.not_not, ne_eq, Decidable.not_not, not_true_eq_false, not_false_eq_true, Int.not_le, Int.not_lt] at hc3)
      have hz : trnE t = 10 := by unfold trnE; rw [if_neg h1', if_pos (by simp_all)]
      refine awp_seq ?_
      refine awp_region 1 mixed (by kernel_rfl) ?_
      refine rg_q (q_assign (x := .d (.v _)) rfl) ?_
      refine rg_nil ?_
      refine aops_nil ?_
      change Awp _ _ _ _ _
      refine awp_ret ?_
      refine ⟨_, (.cons (.tmp (by exact .d _)) .nil), ?_⟩
      rw [hz]; rfl
    ·
      (try simp only [decide_eq_true_eq, decide_eq_false_iff_not, Bool.and_eq_true, Bool.or_eq_true, Bool.and_eq_false_iff, Bool.or_eq_false_iff, Bool.not_eq_true', Bool.not_eq_false', Bool.not_true, Bool.not_false, bif_and, bif_or, Bool.not_not, ne_eq, Decidable.not_not, not_true_eq_false, not_false_eq_true, Int.not_le, Int.not_lt] at hc3)
      have h2 : ¬ ((!inR (-t.r) t.p t.r || !inR (-t.r) t.q t.r) = true ∨ t.p * t.p + t.q * t.q ≠ t.r * t.r) := by simp_all
      refine awp_seq ?_
      refine awp_region 4 mixed (by kernel_rfl) ?_
      refine rg_q (q_fieldAddr fld66_1 rfl) ?_
      refine rg_q (q_load sz3 rfl rfl) ?_
      refine rg_q (q_leq rfl rfl) ?_
      refine rg_q (q_assign (x := .d (.v _)) rfl) ?_
      refine rg_nil ?_
      refine aops_nil ?_
      change Awp _ _ _ _ _
      refine awp_cond rfl (fun hc5 => ?_) (fun hc5 => ?_)
      ·
        (try simp only [decide_eq_true_eq, decide_eq_false_iff_not, Bool.and_eq_true, Bool.or_eq_true, Bool.and_eq_false_iff, Bool.or_eq_false_iff, Bool.not_eq_true', Bool.not_eq_false', Bool.not_true, Bool.not_false, bif_and, bif_or, Bool.not_not, ne_eq, Decidable.not_not, not_true_eq_false, not_false_eq_true, Int.not_le, Int.not_lt] at hc5)
        have hz : trnE t = 15 := by unfold trnE; rw [if_neg h1', if_neg h2, if_pos hc5]
        refine awp_seq ?_
        refine awp_region 1 mixed (by kernel_rfl) ?_
        refine rg_q (q_assign (x := .d (.v _)) rfl) ?_
        refine rg_nil ?_
        refine aops_nil ?_
        change Awp _ _ _ _ _
        refine awp_ret ?_
        refine ⟨_, (.cons (.tmp (by exact .d _)) .nil), ?_⟩
        rw [hz]; rfl
      ·
        (try simp only [decide_eq_true_eq, decide_eq_false_iff_not, Bool.and_eq_true, Bool.or_eq_true, Bool.and_eq_false_iff, Bool.or_eq_false_iff, Bool.not_eq_true', Bool.not_eq_false', Bool.not_true, Bool.not_false, bif_and, bif_or, Bool.not_not, ne_eq, Decidable.not_not, not_true_eq_false, not_false_eq_true, Int.not_le, Int.not_lt] at hc5)
        have hz : trnE t = 0 := by unfold trnE; rw [if_neg h1', if_neg h2, if_neg (by omega)]
        refine awp_skip ?_
        change Awp _ _ _ _ _
        refine awp_seq ?_
        refine awp_region 1 mixed (by kernel_rfl) ?_
        refine rg_q (q_assign (x := .d (.v _)) rfl) ?_
        refine rg_nil ?_
        refine aops_nil ?_
        change Awp _ _ _ _ _
        refine awp_ret ?_
        refine ⟨_, (.cons (.tmp (by exact .d _)) .nil), ?_⟩
        rw [hz]; rfl

end Go.Proofs.YtgeieocphgnipaaGreatDoor.Am.M
