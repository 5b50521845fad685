/- Contracts over the abstract machine: pulsed traces: the reference, the code. Conditions: none. -/
import Derived.Test.YtphlaicnmmglhaaGreatK7
set_option linter.unusedVariables false
set_option linter.unusedSimpArgs false
-- mini
namespace Go.Proofs.YtphlaicnmmglhaaGreat.Am.M
open Go
set_option maxRecDepth 100000 in
theorem within4_p (n lo hi : Int) : PC Tryz.prog 31 [.v (.int .i64 (n)), .v (.int .i64 (lo)), .v (.int .i64 (hi))] (.v (.bool (inR lo n hi))) := by
 refine pc_of_awp Tryz.func31 rfl Tryz.ntmps31 (rs := [.tmp 6]) Tryz.results31 (by simp) fun w0 => ?_
 refine awp_seq ?_
 refine awp_region 1 mixed (by kernel_rfl) ?_
 refine rg_q (q_assign (x := .d (.v _)) rfl) ?_
 refine rg_nil (aops_nil ?_)
 change Awp _ _ _ _ _
 refine awp_seq ?_
 refine awp_region 9 mixed (by kernel_rfl) ?_
 refine rg_q (q_move (x := .d (.v _)) rfl) (rg_q (q_move (x := .d (.v _)) rfl) (rg_q (q_leq rfl rfl) (rg_q (q_move (x := .d (.v _)) rfl) ?_)))
 refine rg_g rfl rfl (fun hG => (q_move (x := .d (.v _)) rfl)) ?_
 refine rg_g rfl rfl (fun hG => (q_move (x := .d (.v _)) rfl)) ?_
 refine rg_g rfl rfl (fun hG => (q_leq rfl rfl)) ?_
 refine rg_pick rfl rfl rfl rfl rfl rfl ?_
 refine rg_q (q_assign (x := .d (.v _)) rfl) ?_
 refine rg_nil (aops_nil ?_)
 change Awp _ _ _ _ _
 refine awp_ret ?_
 refine ⟨_, (.cons (.tmp (by exact .d _)) .nil), ?_⟩
 unfold inR; simp only [bif_and]; rfl

end Go.Proofs.YtphlaicnmmglhaaGreat.Am.M
