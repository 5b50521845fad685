/- Contracts over the abstract machine: the reference of chapter 4: points of flaws. Conditions: none. -/
import Derived.Test.YtphlaicnmmglhaaGreatK16
set_option linter.unusedVariables false
set_option linter.unusedSimpArgs false
-- mini
namespace Go.Proofs.YtphlaicnmmglhaaGreat.Am.M
open Go
set_option maxRecDepth 100000 in
theorem rfloor4_p (n b : Int) (h1 : -1000000000000000000 ≤ n) (h2 : n ≤ 1000000000000000000) (hb : 0 < b) : PC Tryz.prog 273 [.v (.int .i64 (n)), .v (.int .i64 (b))] (.v (.int .i64 (n / b))) := by
 have hq := tdiv_sm (show Sm n from ⟨by omega, by omega⟩) hb
 obtain ⟨h3, h4⟩ := hq
 have hl := floor_law (n := n) hb
 refine pc_of_awp Tryz.func273 rfl Tryz.ntmps273 (rs := [.tmp 4]) Tryz.results273 (by simp) fun w0 => ?_
 refine awp_seq ?_
 refine awp_region 1 mixed (by kernel_rfl) ?_
 refine rg_q (q_assign (x := .d (.v _)) rfl) ?_
 refine rg_nil (aops_nil ?_)
 change Awp _ _ _ _ _
 refine awp_seq ?_
 refine awp_region 4 mixed (by kernel_rfl) ?_
 refine rg_q (q_move (x := .d (.v _)) rfl) (rg_q (q_move (x := .d (.v _)) rfl) ?_)
 refine rg_q (q_quo rfl rfl (by omega) (In64.mk (by omega) (by omega))) ?_
 refine rg_q (q_assign (x := .d (.v _)) rfl) ?_
 refine rg_nil (aops_nil ?_)
 change Awp _ _ _ _ _
 refine awp_seq ?_
 refine awp_seq ?_
 refine awp_region 4 mixed (by kernel_rfl) ?_
 refine rg_q (q_move (x := .d (.v _)) rfl) (rg_q (q_move (x := .d (.v _)) rfl) ?_)
 refine rg_q (q_rem rfl rfl (by omega)) ?_
 refine rg_q (q_lss rfl rfl) ?_
 refine rg_nil (aops_nil ?_)
 change Awp _ _ _ _ _
 refine awp_cond rfl (fun hc2 => ?_) (fun hc2 => ?_)
 ·
  (try simp only [nb, ne_eq] at hc2)
  rw [if_pos hc2] at hl
  refine awp_region 3 mixed (by kernel_rfl) ?_
  refine rg_q (q_move (x := .d (.v _)) rfl) ?_
  refine rg_q (q_sub rfl rfl (In64.mk (by omega) (by omega))) ?_
  refine rg_q (q_assign (x := .d (.v _)) rfl) ?_
  refine rg_nil (aops_nil ?_)
  change Awp _ _ _ _ _
  refine awp_seq ?_
  refine awp_region 2 mixed (by kernel_rfl) ?_
  refine rg_q (q_move (x := .d (.v _)) rfl) (rg_q (q_assign (x := .d (.v _)) rfl) ?_)
  refine rg_nil (aops_nil ?_)
  change Awp _ _ _ _ _
  refine awp_ret ?_
  refine ⟨_, (.cons (.tmp (by exact .d _)) .nil), ?_⟩
  rw [← hl]; rfl
 ·
  (try simp only [nb, ne_eq] at hc2)
  rw [if_neg (by omega)] at hl
  refine awp_skip ?_
  change Awp _ _ _ _ _
  refine awp_seq ?_
  refine awp_region 2 mixed (by kernel_rfl) ?_
  refine rg_q (q_move (x := .d (.v _)) rfl) (rg_q (q_assign (x := .d (.v _)) rfl) ?_)
  refine rg_nil (aops_nil ?_)
  change Awp _ _ _ _ _
  refine awp_ret ?_
  refine ⟨_, (.cons (.tmp (by exact .d _)) .nil), ?_⟩
  rw [← hl]; rfl
set_option maxRecDepth 100000 in
theorem rrounded4_p (n b : Int) (h1 : -100000000000000 ≤ n) (h2 : n ≤ 100000000000000) (h3 : 1 ≤ b) (h4 : b ≤ 100000000000000) : PC Tryz.prog 239 [.v (.int .i64 (n)), .v (.int .i64 (b))] (.v (.int .i64 (rndI n b))) := by
 refine pc_of_awp Tryz.func239 rfl Tryz.ntmps239 (rs := [.tmp 4]) Tryz.results239 (by simp) fun w0 => ?_
 refine awp_seq ?_
 refine awp_region 1 mixed (by kernel_rfl) ?_
 refine rg_q (q_assign (x := .d (.v _)) rfl) ?_
 refine rg_nil (aops_nil ?_)
 change Awp _ _ _ _ _
 refine awp_seq ?_
 refine awp_region 8 mixed (by kernel_rfl) ?_
 refine rg_q (q_move (x := .d (.v _)) rfl) ?_
 refine rg_q (q_mul rfl rfl (In64.mk (by omega) (by omega))) ?_
 refine rg_q (q_move (x := .d (.v _)) rfl) ?_
 refine rg_q (q_add rfl rfl (In64.mk (by omega) (by omega))) ?_
 refine rg_q (q_move (x := .d (.v _)) rfl) ?_
 refine rg_q (q_mul rfl rfl (In64.mk (by omega) (by omega))) ?_
 refine rg_q (q_call en273 (.cons rfl (.cons rfl .nil)) rfl (rfloor4_p _ _ (by omega) (by omega) (by omega))) ?_
 refine rg_q (q_assign (x := .d (.v _)) rfl) ?_
 refine rg_nil (aops_nil ?_)
 change Awp _ _ _ _ _
 refine awp_ret ?_
 refine ⟨_, (.cons (.tmp (by exact .d _)) .nil), ?_⟩
 rfl
end Go.Proofs.YtphlaicnmmglhaaGreat.Am.M
