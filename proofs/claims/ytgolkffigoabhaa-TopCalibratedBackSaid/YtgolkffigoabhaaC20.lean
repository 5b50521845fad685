/- Contracts over the abstract machine: the reference of arcs. Conditions: none. -/
import Derived.Test.YtgolkffigoabhaaC19
set_option linter.unusedVariables false
set_option linter.unusedSimpArgs false
namespace Go.Proofs.Ytgolkffigoabhaa.Am.M
open Go

set_option maxRecDepth 100000 in
theorem copyArcs_p (l : List Arc) (hl : l.length ≤ 1000) : PC Try.prog 8 [.sl 3 (l.map arcC)] (.sl 3 (l.map arcC)) := by
  refine pc_of_awp Try.func8 rfl Try.ntmps8 (rs := [.tmp 2]) Try.results8 (by simp) fun w0 => ?_
  refine awp_seq ?_
  refine awp_region 1 mixed (by kernel_rfl) ?_
  first | refine rg_q (q_assign (x := .d (.sl _ _)) rfl) ?_ | refine rg_q (q_assign (x := .rs _) rfl) ?_ | refine rg_q (q_assign (x := .d (.v _)) rfl) ?_
  refine rg_nil ?_
  refine aops_nil ?_
  change Awp _ _ _ _ _
  refine awp_seq ?_
  refine awp_region 0 mixed (by kernel_rfl) ?_
  refine rg_nil ?_
  refine aops_empty sl25 zr34 rfl rfl ?_
  first | refine aops_q rfl (q_move (x := .d (.sl _ _)) rfl) ?_ | refine aops_q rfl (q_move (x := .rs _) rfl) ?_ | refine aops_q rfl (q_move (x := .d (.v _)) rfl) ?_
  first | refine aops_append sl25 zr34 by34 rfl (by decide) rfl rfl rfl rfl (by (try simp only [List.length_map, List.length_append, List.length_cons, List.length_nil]); omega) (by (try simp only [List.length_map, List.length_append, List.length_cons, List.length_nil]); omega) rfl rfl ?_ | refine aops_appendR sl25 zr34 by34 rfl (by decide) rfl rfl rfl rfl rfl (by (try simp only [List.length_map, List.length_append, List.length_cons, List.length_nil]); omega) (by (try simp only [List.length_map, List.length_append, List.length_cons, List.length_nil]); omega) rfl rfl ?_
  first | refine aops_q rfl (q_assign (x := .d (.sl _ _)) rfl) ?_ | refine aops_q rfl (q_assign (x := .rs _) rfl) ?_ | refine aops_q rfl (q_assign (x := .d (.v _)) rfl) ?_
  refine aops_nil ?_
  change Awp _ _ _ _ _
  refine awp_ret ?_
  refine ⟨_, (.cons (.tmp (by first | exact .d _ | exact .rs rfl | exact .ref rfl | exact .tref rfl (.cons (.d _ rfl) (.cons (.rs rfl) .nil)))) .nil), ?_⟩
  rfl

def exQ (d s : Int) (a : Arc) : Bool := !(decide (20000000 * a.r < (a.lo - d) * s) || decide ((a.hi - d) * s < 20000000 * a.r))
theorem exQ_eq (d s : Int) (a : Arc) : exQ d s a = exP d s a := by
  have e1 := Int.sub_mul a.lo d s
  have e2 := Int.sub_mul a.hi d s
  unfold exQ exP inR
  rw [e1, e2, Bool.eq_iff_iff]
  simp
  omega
end Go.Proofs.Ytgolkffigoabhaa.Am.M
