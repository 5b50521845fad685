/- Contracts over the abstract machine: small helpers of references. Conditions: none. -/
import Derived.Test.YtgdcidbpadhkpaaC10
import Derived.Test.YtgdcidbpadhkpaaAmC
set_option linter.unusedVariables false
set_option linter.unusedSimpArgs false
-- mini
namespace Go.Proofs.Ytgdcidbpadhkpaa.Am.M
open Go

theorem map_get {α : Type} {C : α → List D} {l : List α} {k : Nat} {a : α} (h : l[k]? = some a) : (l.map C)[k]? = some (C a) := by rw [List.getElem?_map, h]; rfl
theorem echoE_row {x : Int × Int} (h : RowIn x) : echoE x.2 = 0 := by
  obtain ⟨h1, h2, h3, h4⟩ := h
  have : inR 1 x.2 1000000 = true := by simp [inR]; omega
  unfold echoE; rw [this]; rfl
set_option maxRecDepth 100000 in
theorem copyInts_p (l : List Int) (hl : l.length ≤ 1000) : PC Try.prog 46 [.sl 1 (l.map iC)] (.sl 1 (l.map iC)) := by
  refine pc_of_awp Try.func46 rfl Try.ntmps46 (rs := [.tmp 2]) Try.results46 (by simp) fun w0 => ?_
  refine awp_seq ?_
  refine awp_region 1 mixed (by kernel_rfl) ?_
  refine rg_q (q_assign (x := .d (.sl _ _)) rfl) ?_
  refine rg_nil ?_
  refine aops_nil ?_
  change Awp _ _ _ _ _
  refine awp_seq ?_
  refine awp_region 0 mixed (by kernel_rfl) ?_
  refine rg_nil ?_
  refine aops_empty sl25 zr3 rfl rfl ?_
  refine aops_q rfl (q_move (x := .d (.sl _ _)) rfl) ?_
  refine aops_append sl25 zr3 by3 rfl (by decide) rfl rfl rfl rfl (by (try simp only [List.length_map, List.length_append, List.length_cons, List.length_nil]); omega) (by (try simp only [List.length_map, List.length_append, List.length_cons, List.length_nil]); omega) rfl rfl ?_
  refine aops_q rfl (q_assign (x := .rs _) rfl) ?_
  refine aops_nil ?_
  change Awp _ _ _ _ _
  refine awp_ret ?_
  refine ⟨_, (.cons (.tmp (by exact .rs rfl)) .nil), ?_⟩
  rfl
set_option maxRecDepth 100000 in
theorem Size_p (n : Int) (h : Sm n) : PC Try.prog 76 [.v (.int .i64 (n))] (.v (.int .i64 (max n (-n)))) := by
  obtain ⟨h1, h2⟩ := h
  refine pc_of_awp Try.func76 rfl Try.ntmps76 (rs := [.tmp 2]) Try.results76 (by simp) fun w0 => ?_
  refine awp_seq ?_
  refine awp_region 1 mixed (by kernel_rfl) ?_
  refine rg_q (q_assign (x := .d (.v _)) rfl) ?_
  refine rg_nil ?_
  refine aops_nil ?_
  change Awp _ _ _ _ _
  refine awp_seq ?_
  refine awp_region 5 mixed (by kernel_rfl) ?_
  refine rg_q (q_move (x := .d (.v _)) rfl) ?_
  refine rg_q (q_move (x := .d (.v _)) rfl) ?_
  refine rg_q (q_neg rfl (In64.mk (by omega) (by omega))) ?_
  refine rg_q (q_max rfl rfl) ?_
  refine rg_q (q_assign (x := .d (.v _)) rfl) ?_
  refine rg_nil ?_
  refine aops_nil ?_
  change Awp _ _ _ _ _
  refine awp_ret ?_
  refine ⟨_, (.cons (.tmp (by exact .d _)) .nil), ?_⟩
  rfl
end Go.Proofs.Ytgdcidbpadhkpaa.Am.M
