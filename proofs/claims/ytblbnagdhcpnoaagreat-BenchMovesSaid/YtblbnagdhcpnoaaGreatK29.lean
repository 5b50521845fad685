/- Contracts over the abstract machine: specimens that are changed; BenchMoves. Conditions: none. -/
import Derived.Test.YtblbnagdhcpnoaaGreatK24
import Derived.Test.YtblbnagdhcpnoaaGreatAmF
set_option linter.unusedVariables false
set_option linter.unusedSimpArgs false
namespace Go.Proofs.YtblbnagdhcpnoaaGreat.Am.M
open Go

def zF : List D := List.replicate 8 (.v (.int .i64 0))
set_option maxRecDepth 100000 in
theorem delete_p (es : List (List D)) (i : Nat) (hi : i < es.length) (hl : es.length ≤ 1000) : PCS Tryz.prog 74 [.rs 0, .d (.v (.int .i64 ((i : Int)))), .d (.v (.int .i64 (((i + 1 : Nat) : Int))))] [.row 95 8 es] (.sub 0 8 0 (es.length - 1)) [.row 95 8 ((es.take i ++ (es.take es.length).drop (i + 1) ++ es.drop (es.length - 1)).take (es.length - 1) ++ List.replicate (es.length - (es.length - 1)) zF ++ (es.take i ++ (es.take es.length).drop (i + 1) ++ es.drop (es.length - 1)).drop es.length)] := by
  refine pcs_of_awp Tryz.func74 rfl Tryz.ntmps74 (rs := [.tmp 6]) Tryz.results74 (by simp) fun w0 => ?_
  refine awp_seq ?_
  refine awp_region 1 mixed (by kernel_rfl) ?_
  first | refine rg_q (q_assign (x := .d (.sl _ _)) rfl) ?_ | refine rg_q (q_assign (x := .rs _) rfl) ?_ | refine rg_q (q_assign (x := .d (.v _)) rfl) ?_ | refine rg_q (q_assign (x := .own _ _ _ _) rfl) ?_
  refine rg_nil ?_
  refine aops_nil ?_
  change Awp _ _ _ _ _
  refine awp_seq ?_
  refine awp_region 6 mixed (by kernel_rfl) ?_
  first | refine rg_q (q_move (x := .d (.sl _ _)) rfl) ?_ | refine rg_q (q_move (x := .rs _) rfl) ?_ | refine rg_q (q_move (x := .d (.v _)) rfl) ?_ | refine rg_q (q_move (x := .own _ _ _ _) rfl) ?_
  refine rg_q (q_move (x := .d (.v _)) rfl) ?_
  refine rg_q (q_move (x := .d (.v _)) rfl) ?_
  first | refine rg_q (q_move (x := .d (.sl _ _)) rfl) ?_ | refine rg_q (q_move (x := .rs _) rfl) ?_ | refine rg_q (q_move (x := .d (.v _)) rfl) ?_ | refine rg_q (q_move (x := .own _ _ _ _) rfl) ?_
  first | refine rg_q (q_len isl30 rfl (by first | exact len_map _ _ | rfl)) ?_ | refine rg_q (q_len_rs isl30 rfl rfl) ?_ | refine rg_q (q_len_nil isl30 rfl) ?_
  refine rg_q (q_slice3 (lo := i) (hi := i + 1) (m := es.length) sl30 rfl rfl rfl rfl rfl (by omega) (by omega) (by omega)) ?_
  refine rg_nil ?_
  refine aops_nil ?_
  change Awp _ _ _ _ _
  first | refine awp_len (t := 11) rfl (fun hl11 => ?_) | skip
  (try simp only [List.length_map] at hl11)
  refine awp_seq ?_
  refine awp_seq ?_
  refine awp_region 3 mixed (by kernel_rfl) ?_
  refine rg_q (q_move (x := .d (.v _)) rfl) ?_
  refine rg_q (q_move (x := .d (.v _)) rfl) ?_
  refine rg_q (q_eql rfl rfl) ?_
  refine rg_nil ?_
  refine aops_nil ?_
  change Awp _ _ _ _ _
  refine awp_cond rfl (fun hc2 => ?_) (fun hc2 => ?_)
  ·
    exact absurd (of_decide_eq_true hc2) (by omega)
  ·
    (try simp only [decide_eq_true_eq, decide_eq_false_iff_not, Bool.and_eq_true, Bool.or_eq_true, Bool.and_eq_false_iff, Bool.or_eq_false_iff, Bool.not_eq_true', Bool.not_eq_false', Bool.not_true, Bool.not_false, bif_and, bif_or, Bool.not_not, ne_eq, Decidable.not_not, not_true_eq_false, not_false_eq_true, Int.not_le, Int.not_lt] at hc2)
    refine awp_skip ?_
    change Awp _ _ _ _ _
    refine awp_seq ?_
    refine awp_region 3 mixed (by kernel_rfl) ?_
    first | refine rg_q (q_move (x := .d (.sl _ _)) rfl) ?_ | refine rg_q (q_move (x := .rs _) rfl) ?_ | refine rg_q (q_move (x := .d (.v _)) rfl) ?_ | refine rg_q (q_move (x := .own _ _ _ _) rfl) ?_
    first | refine rg_q (q_len isl30 rfl (by first | exact len_map _ _ | rfl)) ?_ | refine rg_q (q_len_rs isl30 rfl rfl) ?_ | refine rg_q (q_len_nil isl30 rfl) ?_
    refine rg_q (q_assign (x := .d (.v _)) rfl) ?_
    refine rg_nil ?_
    refine aops_nil ?_
    change Awp _ _ _ _ _
    first | refine awp_len (t := 18) rfl (fun hl18 => ?_) | skip
    (try simp only [List.length_map] at hl18)
    refine awp_seq ?_
    refine awp_region 6 mixed (by kernel_rfl) ?_
    first | refine rg_q (q_move (x := .d (.sl _ _)) rfl) ?_ | refine rg_q (q_move (x := .rs _) rfl) ?_ | refine rg_q (q_move (x := .d (.v _)) rfl) ?_ | refine rg_q (q_move (x := .own _ _ _ _) rfl) ?_
    refine rg_q (q_move (x := .d (.v _)) rfl) ?_
    refine rg_q (q_slice_rs (lo := 0) (hi := i) sl30 rfl rfl rfl rfl (by omega) (by omega)) ?_
    first | refine rg_q (q_move (x := .d (.sl _ _)) rfl) ?_ | refine rg_q (q_move (x := .rs _) rfl) ?_ | refine rg_q (q_move (x := .d (.v _)) rfl) ?_ | refine rg_q (q_move (x := .own _ _ _ _) rfl) ?_
    refine rg_q (q_move (x := .d (.v _)) rfl) ?_
    refine rg_q (q_slice_rs (lo := i + 1) (hi := es.length) sl30 rfl rfl rfl rfl (by omega) (by omega)) ?_
    refine rg_nil ?_
    refine aops_appendIn (p := i) (lo := i + 1) (hi := es.length) (m := es.length - 1) sl30 rfl rfl rfl (by omega) (by omega) (by omega) (by omega) (by omega) rfl rfl ?_
    first | refine aops_q rfl (q_assign (x := .d (.sl _ _)) rfl) ?_ | refine aops_q rfl (q_assign (x := .rs _) rfl) ?_ | refine aops_q rfl (q_assign (x := .d (.v _)) rfl) ?_ | refine aops_q rfl (q_assign (x := .own _ _ _ _) rfl) ?_
    refine aops_nil ?_
    change Awp _ _ _ _ _
    refine awp_seq ?_
    refine awp_region 5 mixed (by kernel_rfl) ?_
    first | refine rg_q (q_move (x := .d (.sl _ _)) rfl) ?_ | refine rg_q (q_move (x := .rs _) rfl) ?_ | refine rg_q (q_move (x := .d (.v _)) rfl) ?_ | refine rg_q (q_move (x := .own _ _ _ _) rfl) ?_
    first | refine rg_q (q_move (x := .d (.sl _ _)) rfl) ?_ | refine rg_q (q_move (x := .rs _) rfl) ?_ | refine rg_q (q_move (x := .d (.v _)) rfl) ?_ | refine rg_q (q_move (x := .own _ _ _ _) rfl) ?_
    refine rg_q (q_len_sub isl30 rfl rfl) ?_
    refine rg_q (q_move (x := .d (.v _)) rfl) ?_
    refine rg_q (q_slice_sub (lo := es.length - 1) (hi := es.length) sl30 rfl rfl rfl rfl (by omega) (by simp only [List.length_append, List.length_take, List.length_drop]; omega) (by simp only [List.length_append, List.length_take, List.length_drop]; omega)) ?_
    refine rg_nil ?_
    refine aops_clearSub (lo := es.length - 1) (hi := es.length) sl30 zr95 rfl rfl (by decide) rfl rfl (by simp only [List.length_append, List.length_take, List.length_drop]; omega) (by omega) (by simp only [List.length_append, List.length_take, List.length_drop]; omega) rfl ?_
    refine aops_nil ?_
    change Awp _ _ _ _ _
    first | refine awp_len (t := 28) rfl (fun hl28 => ?_) | skip
    (try simp only [List.length_map] at hl28)
    refine awp_seq ?_
    refine awp_region 2 mixed (by kernel_rfl) ?_
    first | refine rg_q (q_move (x := .d (.sl _ _)) rfl) ?_ | refine rg_q (q_move (x := .rs _) rfl) ?_ | refine rg_q (q_move (x := .d (.v _)) rfl) ?_ | refine rg_q (q_move (x := .own _ _ _ _) rfl) ?_
    first | refine rg_q (q_assign (x := .d (.sl _ _)) rfl) ?_ | refine rg_q (q_assign (x := .rs _) rfl) ?_ | refine rg_q (q_assign (x := .d (.v _)) rfl) ?_ | refine rg_q (q_assign (x := .own _ _ _ _) rfl) ?_
    refine rg_nil ?_
    refine aops_nil ?_
    change Awp _ _ _ _ _
    refine awp_ret ?_
    exact end_mk (.inl rfl) [33] (.tmp rfl) (by repeat (first | exact trivial | refine ⟨rfl, ?_⟩)) rfl
set_option maxRecDepth 100000 in
theorem cloneS_p (es : List (List D)) (h0 : 0 < es.length) (hl : es.length ≤ 20000) : PC Tryz.prog 108 [.sl 2 es] (.sl 2 es) := by
  refine pc_of_awp Tryz.func108 rfl Tryz.ntmps108 (rs := [.tmp 2]) Tryz.results108 (by simp) fun w0 => ?_
  refine awp_seq ?_
  refine awp_region 1 mixed (by kernel_rfl) ?_
  first | refine rg_q (q_assign (x := .d (.sl _ _)) rfl) ?_ | refine rg_q (q_assign (x := .rs _) rfl) ?_ | refine rg_q (q_assign (x := .d (.v _)) rfl) ?_
  refine rg_nil ?_
  refine aops_nil ?_
  change Awp _ _ _ _ _
  refine awp_seq ?_
  refine awp_seq ?_
  refine awp_region 2 mixed (by kernel_rfl) ?_
  first | refine rg_q (q_move (x := .d (.sl _ _)) rfl) ?_ | refine rg_q (q_move (x := .rs _) rfl) ?_ | refine rg_q (q_move (x := .d (.v _)) rfl) ?_
  first | refine rg_q (q_eqnil_rs sl22 rfl rfl (by (try simp only [List.length_map]); omega)) ?_ | refine rg_q (q_eqnil_sl sl22 rfl (by (try simp only [List.length_map]); omega)) ?_
  refine rg_nil ?_
  refine aops_nil ?_
  change Awp _ _ _ _ _
  refine awp_cond rfl (fun hc1 => ?_) (fun hc1 => ?_)
  ·
    cases hc1
  ·
    (try simp only [decide_eq_true_eq, decide_eq_false_iff_not, Bool.and_eq_true, Bool.or_eq_true, Bool.and_eq_false_iff, Bool.or_eq_false_iff, Bool.not_eq_true', Bool.not_eq_false', Bool.not_true, Bool.not_false, bif_and, bif_or, Bool.not_not, ne_eq, Decidable.not_not, not_true_eq_false, not_false_eq_true, Int.not_le, Int.not_lt] at hc1)
    refine awp_skip ?_
    change Awp _ _ _ _ _
    refine awp_seq ?_
    refine awp_region 4 mixed (by kernel_rfl) ?_
    refine rg_q (q_empty0 sl22 zr50) ?_
    first | refine rg_q (q_move (x := .d (.sl _ _)) rfl) ?_ | refine rg_q (q_move (x := .rs _) rfl) ?_ | refine rg_q (q_move (x := .d (.v _)) rfl) ?_
    refine rg_q (q_append0 sl22 zr50 by50 rfl (by decide) rfl rfl rfl (by (try simp only [List.length_map]); omega) (by (try simp only [List.length_map]); omega)) ?_
    first | refine rg_q (q_assign (x := .d (.sl _ _)) rfl) ?_ | refine rg_q (q_assign (x := .rs _) rfl) ?_ | refine rg_q (q_assign (x := .d (.v _)) rfl) ?_
    refine rg_nil ?_
    refine aops_nil ?_
    change Awp _ _ _ _ _
    refine awp_ret ?_
    refine ⟨_, (.cons (.tmp (by first | exact .d _ | exact .rs rfl | exact .ref rfl | exact .tref rfl (.cons (.d _ rfl) (.cons (.rs rfl) .nil)))) .nil), ?_⟩
    rfl
set_option maxRecDepth 100000 in
theorem cloneI_p (es : List (List D)) (h0 : 0 < es.length) (hl : es.length ≤ 20000) : PC Tryz.prog 109 [.sl 1 es] (.sl 1 es) := by
  refine pc_of_awp Tryz.func109 rfl Tryz.ntmps109 (rs := [.tmp 2]) Tryz.results109 (by simp) fun w0 => ?_
  refine awp_seq ?_
  refine awp_region 1 mixed (by kernel_rfl) ?_
  first | refine rg_q (q_assign (x := .d (.sl _ _)) rfl) ?_ | refine rg_q (q_assign (x := .rs _) rfl) ?_ | refine rg_q (q_assign (x := .d (.v _)) rfl) ?_
  refine rg_nil ?_
  refine aops_nil ?_
  change Awp _ _ _ _ _
  refine awp_seq ?_
  refine awp_seq ?_
  refine awp_region 2 mixed (by kernel_rfl) ?_
  first | refine rg_q (q_move (x := .d (.sl _ _)) rfl) ?_ | refine rg_q (q_move (x := .rs _) rfl) ?_ | refine rg_q (q_move (x := .d (.v _)) rfl) ?_
  first | refine rg_q (q_eqnil_rs sl29 rfl rfl (by (try simp only [List.length_map]); omega)) ?_ | refine rg_q (q_eqnil_sl sl29 rfl (by (try simp only [List.length_map]); omega)) ?_
  refine rg_nil ?_
  refine aops_nil ?_
  change Awp _ _ _ _ _
  refine awp_cond rfl (fun hc1 => ?_) (fun hc1 => ?_)
  ·
    cases hc1
  ·
    (try simp only [decide_eq_true_eq, decide_eq_false_iff_not, Bool.and_eq_true, Bool.or_eq_true, Bool.and_eq_false_iff, Bool.or_eq_false_iff, Bool.not_eq_true', Bool.not_eq_false', Bool.not_true, Bool.not_false, bif_and, bif_or, Bool.not_not, ne_eq, Decidable.not_not, not_true_eq_false, not_false_eq_true, Int.not_le, Int.not_lt] at hc1)
    refine awp_skip ?_
    change Awp _ _ _ _ _
    refine awp_seq ?_
    refine awp_region 4 mixed (by kernel_rfl) ?_
    refine rg_q (q_empty0 sl29 zr3) ?_
    first | refine rg_q (q_move (x := .d (.sl _ _)) rfl) ?_ | refine rg_q (q_move (x := .rs _) rfl) ?_ | refine rg_q (q_move (x := .d (.v _)) rfl) ?_
    refine rg_q (q_append0 sl29 zr3 by3 rfl (by decide) rfl rfl rfl (by (try simp only [List.length_map]); omega) (by (try simp only [List.length_map]); omega)) ?_
    first | refine rg_q (q_assign (x := .d (.sl _ _)) rfl) ?_ | refine rg_q (q_assign (x := .rs _) rfl) ?_ | refine rg_q (q_assign (x := .d (.v _)) rfl) ?_
    refine rg_nil ?_
    refine aops_nil ?_
    change Awp _ _ _ _ _
    refine awp_ret ?_
    refine ⟨_, (.cons (.tmp (by first | exact .d _ | exact .rs rfl | exact .ref rfl | exact .tref rfl (.cons (.d _ rfl) (.cons (.rs rfl) .nil)))) .nil), ?_⟩
    rfl
set_option maxRecDepth 100000 in
theorem cloneV_p (A : Option Addr) (cap : Nat) : PC Tryz.prog 110 [.v (.slice A 0 cap)] (.sl 8 []) := by
  refine pc_of_awp Tryz.func110 rfl Tryz.ntmps110 (rs := [.tmp 2]) Tryz.results110 (by simp) fun w0 => ?_
  refine awp_seq ?_
  refine awp_region 1 mixed (by kernel_rfl) ?_
  refine rg_q (q_assign_nil) ?_
  refine rg_nil ?_
  refine aops_nil ?_
  change Awp _ _ _ _ _
  refine awp_seq ?_
  refine awp_seq ?_
  refine awp_region 2 mixed (by kernel_rfl) ?_
  first | refine rg_q (q_move (x := .d (.sl _ _)) rfl) ?_ | refine rg_q (q_move (x := .rs _) rfl) ?_ | refine rg_q (q_move (x := .d (.v _)) rfl) ?_
  refine rg_q (q_eqnil_v sl30 rfl rfl) ?_
  refine rg_nil ?_
  refine aops_nil ?_
  change Awp _ _ _ _ _
  refine awp_cond rfl (fun hc1 => ?_) (fun hc1 => ?_)
  ·
    (try simp only [decide_eq_true_eq, decide_eq_false_iff_not, Bool.and_eq_true, Bool.or_eq_true, Bool.and_eq_false_iff, Bool.or_eq_false_iff, Bool.not_eq_true', Bool.not_eq_false', Bool.not_true, Bool.not_false, bif_and, bif_or, Bool.not_not, ne_eq, Decidable.not_not, not_true_eq_false, not_false_eq_true, Int.not_le, Int.not_lt] at hc1)
    refine awp_seq ?_
    refine awp_region 1 mixed (by kernel_rfl) ?_
    refine rg_q (q_assign_nil) ?_
    refine rg_nil ?_
    refine aops_nil ?_
    change Awp _ _ _ _ _
    refine awp_ret ?_
    refine ⟨_, (.cons (.tmp (by first | exact .nil 8 | exact .d _ | exact .rs rfl)) .nil), ?_⟩
    rfl
  ·
    (try simp only [decide_eq_true_eq, decide_eq_false_iff_not, Bool.and_eq_true, Bool.or_eq_true, Bool.and_eq_false_iff, Bool.or_eq_false_iff, Bool.not_eq_true', Bool.not_eq_false', Bool.not_true, Bool.not_false, bif_and, bif_or, Bool.not_not, ne_eq, Decidable.not_not, not_true_eq_false, not_false_eq_true, Int.not_le, Int.not_lt] at hc1)
    refine awp_skip ?_
    change Awp _ _ _ _ _
    refine awp_seq ?_
    refine awp_region 4 mixed (by kernel_rfl) ?_
    refine rg_q (q_empty0 sl30 zr95) ?_
    first | refine rg_q (q_move (x := .d (.sl _ _)) rfl) ?_ | refine rg_q (q_move (x := .rs _) rfl) ?_ | refine rg_q (q_move (x := .d (.v _)) rfl) ?_
    first | refine rg_q (q_append0 sl30 zr95 by95 rfl (by decide) rfl rfl rfl (by (try simp only [List.length_map]); omega) (by (try simp only [List.length_map]); omega)) ?_ | refine rg_q (q_append0v sl30 zr95 rfl rfl) ?_
    first | refine rg_q (q_assign (x := .d (.sl _ _)) rfl) ?_ | refine rg_q (q_assign (x := .rs _) rfl) ?_ | refine rg_q (q_assign (x := .d (.v _)) rfl) ?_
    refine rg_nil ?_
    refine aops_nil ?_
    change Awp _ _ _ _ _
    refine awp_ret ?_
    refine ⟨_, (.cons (.tmp (by first | exact .nil 8 | exact .d _ | exact .rs rfl)) .nil), ?_⟩
    rfl

theorem cloneN_p : PC Tryz.prog 110 [.sl 8 []] (.sl 8 []) := pc_empty cloneV_p
theorem cloneE_p (es : List (List D)) (h : es = []) : PC Tryz.prog 110 [.sl 8 es] (.sl 8 es) := h ▸ cloneN_p
theorem flwC_flat (x : Flw) : ∀ d ∈ flwC x, D.Flat d := by
  intro d hd
  simp only [flwC, List.mem_cons, List.not_mem_nil, or_false] at hd
  rcases hd with rfl | rfl | rfl | rfl | rfl | rfl | rfl | rfl <;> exact .v _
set_option maxRecDepth 100000 in
theorem cloneO_p (es : List (List D)) (h0 : 0 < es.length) (hl : es.length ≤ 20000) : PCS Tryz.prog 110 [.d (.sl 8 es)] [] (.rs 0) [.row 95 8 es] := by
  refine pcs_of_awp Tryz.func110 rfl Tryz.ntmps110 (rs := [.tmp 2]) Tryz.results110 (by simp) fun w0 => ?_
  refine awp_seq ?_
  refine awp_region 1 mixed (by kernel_rfl) ?_
  first | refine rg_q (q_assign (x := .d (.sl _ _)) rfl) ?_ | refine rg_q (q_assign (x := .rs _) rfl) ?_ | refine rg_q (q_assign (x := .d (.v _)) rfl) ?_ | refine rg_q (q_assign (x := .own _ _ _ _) rfl) ?_
  refine rg_nil ?_
  refine aops_nil ?_
  change Awp _ _ _ _ _
  refine awp_seq ?_
  refine awp_seq ?_
  refine awp_region 2 mixed (by kernel_rfl) ?_
  first | refine rg_q (q_move (x := .d (.sl _ _)) rfl) ?_ | refine rg_q (q_move (x := .rs _) rfl) ?_ | refine rg_q (q_move (x := .d (.v _)) rfl) ?_ | refine rg_q (q_move (x := .own _ _ _ _) rfl) ?_
  first | refine rg_q (q_eqnil_rs sl30 rfl rfl (by (try simp only [List.length_map]); omega)) ?_ | refine rg_q (q_eqnil_sl sl30 rfl (by (try simp only [List.length_map]); omega)) ?_
  refine rg_nil ?_
  refine aops_nil ?_
  change Awp _ _ _ _ _
  refine awp_cond rfl (fun hc1 => ?_) (fun hc1 => ?_)
  ·
    cases hc1
  ·
    (try simp only [decide_eq_true_eq, decide_eq_false_iff_not, Bool.and_eq_true, Bool.or_eq_true, Bool.and_eq_false_iff, Bool.or_eq_false_iff, Bool.not_eq_true', Bool.not_eq_false', Bool.not_true, Bool.not_false, bif_and, bif_or, Bool.not_not, ne_eq, Decidable.not_not, not_true_eq_false, not_false_eq_true, Int.not_le, Int.not_lt] at hc1)
    refine awp_skip ?_
    change Awp _ _ _ _ _
    refine awp_seq ?_
    refine awp_region 2 mixed (by kernel_rfl) ?_
    refine rg_q (q_empty0 sl30 zr95) ?_
    first | refine rg_q (q_move (x := .d (.sl _ _)) rfl) ?_ | refine rg_q (q_move (x := .rs _) rfl) ?_ | refine rg_q (q_move (x := .d (.v _)) rfl) ?_ | refine rg_q (q_move (x := .own _ _ _ _) rfl) ?_
    refine rg_nil ?_
    refine aops_append0 sl30 zr95 by95 rfl (by decide) rfl rfl rfl h0 (by omega) (by omega) rfl rfl ?_
    first | refine aops_q rfl (q_assign (x := .d (.sl _ _)) rfl) ?_ | refine aops_q rfl (q_assign (x := .rs _) rfl) ?_ | refine aops_q rfl (q_assign (x := .d (.v _)) rfl) ?_ | refine aops_q rfl (q_assign (x := .own _ _ _ _) rfl) ?_
    refine aops_nil ?_
    change Awp _ _ _ _ _
    refine awp_ret ?_
    exact end_mk (.inl rfl) [7] (.tmp rfl) (by repeat (first | exact trivial | refine ⟨rfl, ?_⟩)) rfl
set_option maxRecDepth 100000 in
theorem copyO_p (s : Spc) (hl : s.ar.el.length ≤ 1000) (h2 : s.pl.length ≤ 1000) (h3 : s.fl.length ≤ 1000) (h0 : 0 < s.fl.length) : PCS Tryz.prog 12 [.d (.agg (spcC s))] [] (.ag 0 (arrC s.ar ++ [D.sl 1 (s.pl.map iC)]) []) [.row 95 8 (s.fl.map flwC)] := by
  refine pcs_of_awpA Tryz.func12 rfl Tryz.ntmps12 Tryz.results12 (by simp) fun w0 hrnd => ?_
  refine awp_seq ?_
  refine awp_region 1 mixed (by kernel_rfl) ?_
  refine rg_q (q_box rfl (by first | exact .inl rfl | exact .inr ⟨_, rfl⟩)) ?_
  refine rg_nil ?_
  refine aops_alloc zr32 rfl rfl rfl ?_
  refine aops_nil ?_
  change Awp _ _ _ _ _
  refine awp_seq ?_
  refine awp_regionM 12 [none, none, none, none, none, none, none, none, none, some 12, none, some 2] mixed (by kernel_rfl) ?_
  first | refine rgm_q rfl (q_fieldAddr fld32_0 rfl) ?_ | refine rgm_q rfl (q_fieldAddr_ref fld32_0 rfl) ?_
  first | refine rgm_q rfl (q_loadA (ds := [_, _, _, _, _, _, _, _, _, _, _]) sz28 rfl rfl rfl) ?_ | refine rgm_q rfl (q_load_refA (ds := [_, _, _, _, _, _, _, _, _, _, _]) sz28 rfl rfl rfl rfl) ?_
  first | refine rgm_q rfl (q_call en26 (.cons rfl .nil) rfl (copyArr_p s.ar (by omega))) ?_ | refine rgm_q rfl (q_callF en26 (.cons (by first | exact .d _ | exact .rs rfl | exact .ref rfl | exact .nil _ | exact .tref rfl (by repeat (first | exact .nil | refine .cons (.d _ rfl) ?_ | refine .cons (.rs rfl) ?_))) .nil) rfl (copyArr_p s.ar (by omega)) (by first | exact .v _ | exact D.Flat.tupF (by repeat first | exact trivial | refine ⟨.v _, ?_⟩) | exact D.Flat.aggF (by repeat first | exact trivial | refine ⟨.v _, ?_⟩))) ?_
  first | refine rgm_q rfl (q_fieldAddr fld32_1 rfl) ?_ | refine rgm_q rfl (q_fieldAddr_ref fld32_1 rfl) ?_
  first | refine rgm_q rfl (q_load sz29 rfl rfl) ?_ | refine rgm_q rfl (q_load_ref sz29 rfl rfl rfl) ?_ | refine rgm_q rfl (q_load_tb (x := .d _) sz29 rfl rfl rfl) ?_ | refine rgm_q rfl (q_load_tb (x := .rs _) sz29 rfl rfl rfl) ?_
  first | refine rgm_q rfl (q_call en48 (.cons rfl .nil) rfl (copyInts4_p _ (by omega))) ?_ | refine rgm_q rfl (q_callF en48 (.cons (by first | exact .d _ | exact .rs rfl | exact .ref rfl | exact .nil _ | exact .tref rfl (by repeat (first | exact .nil | refine .cons (.d _ rfl) ?_ | refine .cons (.rs rfl) ?_))) .nil) rfl (copyInts4_p _ (by omega)) (by first | exact .v _ | exact D.Flat.tupF (by repeat first | exact trivial | refine ⟨.v _, ?_⟩) | exact D.Flat.aggF (by repeat first | exact trivial | refine ⟨.v _, ?_⟩))) ?_
  refine rgm_q rfl (q_empty0 sl30 zr95) ?_
  first | refine rgm_q rfl (q_fieldAddr fld32_2 rfl) ?_ | refine rgm_q rfl (q_fieldAddr_ref fld32_2 rfl) ?_
  first | refine rgm_q rfl (q_load sz30 rfl rfl) ?_ | refine rgm_q rfl (q_load_ref sz30 rfl rfl rfl) ?_ | refine rgm_q rfl (q_load_tb (x := .d _) sz30 rfl rfl rfl) ?_ | refine rgm_q rfl (q_load_tb (x := .rs _) sz30 rfl rfl rfl) ?_
  refine rgm_m (k := 12) rfl rfl (by rfl) (m_append0 sl30 zr95 by95 rfl (by decide) rfl rfl rfl (by rw [List.length_map]; exact h0) (by rw [List.length_map]; omega) (by rw [List.length_map]; omega) rfl) ?_
  refine rgm_q rfl (q_buildR (u := (arrC s.ar ++ [D.sl 1 (s.pl.map iC)])) (v := []) pl32 zr32 rfl (by first | exact .one rfl rfl (by first | exact .one rfl rfl (by first | exact .one rfl rfl .nil | exact .agg rfl .nil) | exact .agg rfl (by first | exact .one rfl rfl .nil | exact .agg rfl .nil)) | exact .agg rfl (by first | exact .one rfl rfl (by first | exact .one rfl rfl .nil | exact .agg rfl .nil) | exact .agg rfl (by first | exact .one rfl rfl .nil | exact .agg rfl .nil))) (by exact ⟨⟨rfl, by decide⟩, ⟨rfl, by decide⟩, ⟨rfl, by decide⟩, trivial⟩) (by rfl)) ?_
  first | refine rgm_m (k := 2) rfl rfl (by rfl) (m_store sz32 rfl rfl (by first | exact .inl rfl | exact .inr ⟨_, rfl⟩) rfl rfl (by first | decide | exact Nat.le_of_ble_eq_true rfl | simp) rfl) ?_ | refine rgm_m (k := 2) rfl rfl (by rfl) (m_storeAg sz32 rfl rfl rfl rfl rfl rfl rfl) ?_
  refine rgm_nil ?_
  refine aops_nil ?_
  change Awp _ _ _ _ _
  refine awp_ret ?_
  exact enda_mk (.inl rfl) [12] ⟨2, 12, 13, (arrC s.ar ++ [D.sl 1 (s.pl.map iC)]), [], rfl, rfl, sz32, rfl, rfl⟩ (by repeat (first | exact trivial | refine ⟨rfl, ?_⟩)) rfl
set_option maxRecDepth 100000 in
theorem copiedN_p (s : Spc) (hl : s.ar.el.length ≤ 1000) (h2 : s.pl.length ≤ 1000) (h3 : s.fl.length ≤ 1000) (he : 0 < s.ar.el.length) (hp : 0 < s.pl.length) (hn : s.fl.length = 0) : PC Tryz.prog 73 [.agg (spcC s)] (.agg (spcC s)) := by
  refine pc_of_awp Tryz.func73 rfl Tryz.ntmps73 (rs := [.cell 2 32]) Tryz.results73 (by simp) fun w0 => ?_
  refine awp_seq ?_
  refine awp_region 0 mixed (by kernel_rfl) ?_
  refine rg_nil ?_
  refine aops_box rfl (by first | exact .inl rfl | exact .inr ⟨_, rfl⟩) rfl rfl rfl ?_
  refine aops_alloc zr32 rfl rfl rfl ?_
  refine aops_nil ?_
  change Awp _ _ _ _ _
  refine awp_seq ?_
  refine awp_regionM 17 [none, none, none, none, none, none, none, none, none, none, none, none, some 1, none, some 1, none, some 1] mixed (by kernel_rfl) ?_
  first | refine rgm_q rfl (q_fieldAddr fld32_0 rfl) ?_ | refine rgm_q rfl (q_fieldAddr_ref fld32_0 rfl) ?_
  first | refine rgm_q rfl (q_fieldAddr fld28_0 rfl) ?_ | refine rgm_q rfl (q_fieldAddr_ref fld28_0 rfl) ?_
  first | refine rgm_q rfl (q_load sz22 rfl rfl) ?_ | refine rgm_q rfl (q_load_ref sz22 rfl rfl rfl) ?_ | refine rgm_q rfl (q_load_tb (x := .d _) sz22 rfl rfl rfl) ?_ | refine rgm_q rfl (q_load_tb (x := .rs _) sz22 rfl rfl rfl) ?_
  first | refine rgm_q rfl (q_call en108 (.cons rfl .nil) rfl (cloneS_p _ (by rw [List.length_map]; omega) (by rw [List.length_map]; omega))) ?_ | refine rgm_q rfl (q_callF en108 (.cons (by first | exact .d _ | exact .rs rfl | exact .ref rfl | exact .nil _ | exact .tref rfl (by repeat (first | exact .nil | refine .cons (.d _ rfl) ?_ | refine .cons (.rs rfl) ?_))) .nil) rfl (cloneS_p _ (by rw [List.length_map]; omega) (by rw [List.length_map]; omega)) (by first | exact .v _ | exact D.Flat.tupF (by repeat first | exact trivial | refine ⟨.v _, ?_⟩) | exact D.Flat.aggF (by repeat first | exact trivial | refine ⟨.v _, ?_⟩))) ?_
  first | refine rgm_q rfl (q_fieldAddr fld32_1 rfl) ?_ | refine rgm_q rfl (q_fieldAddr_ref fld32_1 rfl) ?_
  first | refine rgm_q rfl (q_load sz29 rfl rfl) ?_ | refine rgm_q rfl (q_load_ref sz29 rfl rfl rfl) ?_ | refine rgm_q rfl (q_load_tb (x := .d _) sz29 rfl rfl rfl) ?_ | refine rgm_q rfl (q_load_tb (x := .rs _) sz29 rfl rfl rfl) ?_
  first | refine rgm_q rfl (q_call en109 (.cons rfl .nil) rfl (cloneI_p _ (by rw [List.length_map]; omega) (by rw [List.length_map]; omega))) ?_ | refine rgm_q rfl (q_callF en109 (.cons (by first | exact .d _ | exact .rs rfl | exact .ref rfl | exact .nil _ | exact .tref rfl (by repeat (first | exact .nil | refine .cons (.d _ rfl) ?_ | refine .cons (.rs rfl) ?_))) .nil) rfl (cloneI_p _ (by rw [List.length_map]; omega) (by rw [List.length_map]; omega)) (by first | exact .v _ | exact D.Flat.tupF (by repeat first | exact trivial | refine ⟨.v _, ?_⟩) | exact D.Flat.aggF (by repeat first | exact trivial | refine ⟨.v _, ?_⟩))) ?_
  first | refine rgm_q rfl (q_fieldAddr fld32_2 rfl) ?_ | refine rgm_q rfl (q_fieldAddr_ref fld32_2 rfl) ?_
  first | refine rgm_q rfl (q_load sz30 rfl rfl) ?_ | refine rgm_q rfl (q_load_ref sz30 rfl rfl rfl) ?_ | refine rgm_q rfl (q_load_tb (x := .d _) sz30 rfl rfl rfl) ?_ | refine rgm_q rfl (q_load_tb (x := .rs _) sz30 rfl rfl rfl) ?_
  first | refine rgm_q rfl (q_call en110 (.cons rfl .nil) rfl (cloneE_p (s.fl.map flwC) (by rw [List.length_eq_zero_iff.1 hn]; rfl))) ?_ | refine rgm_q rfl (q_callF en110 (.cons (by first | exact .d _ | exact .rs rfl | exact .ref rfl | exact .nil _ | exact .tref rfl (by repeat (first | exact .nil | refine .cons (.d _ rfl) ?_ | refine .cons (.rs rfl) ?_))) .nil) rfl (cloneE_p (s.fl.map flwC) (by rw [List.length_eq_zero_iff.1 hn]; rfl)) (by first | exact .v _ | exact D.Flat.tupF (by repeat first | exact trivial | refine ⟨.v _, ?_⟩) | exact D.Flat.aggF (by repeat first | exact trivial | refine ⟨.v _, ?_⟩))) ?_
  first | refine rgm_q rfl (q_fieldAddr fld32_0 rfl) ?_ | refine rgm_q rfl (q_fieldAddr_ref fld32_0 rfl) ?_
  first | refine rgm_q rfl (q_fieldAddr fld28_0 rfl) ?_ | refine rgm_q rfl (q_fieldAddr_ref fld28_0 rfl) ?_
  first | refine rgm_m (k := 1) rfl rfl (by rfl) (m_store sz22 rfl rfl (by first | exact .inl rfl | exact .inr ⟨_, rfl⟩) rfl rfl (by first | decide | exact Nat.le_of_ble_eq_true rfl | simp) rfl) ?_ | refine rgm_m (k := 1) rfl rfl (by rfl) (m_storeAg sz22 rfl rfl rfl rfl rfl rfl rfl) ?_
  first | refine rgm_q rfl (q_fieldAddr fld32_1 rfl) ?_ | refine rgm_q rfl (q_fieldAddr_ref fld32_1 rfl) ?_
  first | refine rgm_m (k := 1) rfl rfl (by rfl) (m_store sz29 rfl rfl (by first | exact .inl rfl | exact .inr ⟨_, rfl⟩) rfl rfl (by first | decide | exact Nat.le_of_ble_eq_true rfl | simp) rfl) ?_ | refine rgm_m (k := 1) rfl rfl (by rfl) (m_storeAg sz29 rfl rfl rfl rfl rfl rfl rfl) ?_
  first | refine rgm_q rfl (q_fieldAddr fld32_2 rfl) ?_ | refine rgm_q rfl (q_fieldAddr_ref fld32_2 rfl) ?_
  first | refine rgm_m (k := 1) rfl rfl (by rfl) (m_store sz30 rfl rfl (by first | exact .inl rfl | exact .inr ⟨_, rfl⟩) rfl rfl (by first | decide | exact Nat.le_of_ble_eq_true rfl | simp) rfl) ?_ | refine rgm_m (k := 1) rfl rfl (by rfl) (m_storeAg sz30 rfl rfl rfl rfl rfl rfl rfl) ?_
  refine rgm_nil ?_
  refine aops_nil ?_
  change Awp _ _ _ _ _
  refine awp_seq ?_
  refine awp_region 1 mixed (by kernel_rfl) ?_
  first | refine rg_q (q_loadA sz32 rfl rfl rfl) ?_ | refine rg_q (q_load_refA sz32 rfl rfl rfl rfl) ?_
  refine rg_nil ?_
  first | refine aops_store sz32 rfl rfl (by first | exact .inl rfl | exact .inr ⟨_, rfl⟩) rfl rfl (by first | decide | simp; done | exact Nat.le_of_ble_eq_true rfl) rfl ?_ | refine aops_storeT (z := .rs _) sz32 rfl rfl rfl rfl (by first | decide | simp) rfl ?_ | refine aops_storeT (z := .d _) sz32 rfl rfl rfl rfl (by first | decide | simp) rfl ?_ | refine aops_storeTA sz32 rfl rfl (by first | exact .inl rfl | exact .inr ⟨_, rfl⟩) rfl rfl (by first | decide | simp) rfl ?_
  refine aops_nil ?_
  change Awp _ _ _ _ _
  refine awp_ret ?_
  refine ⟨_, (.cons (.cellA rfl rfl sz32 rfl) .nil), ?_⟩
  rfl
set_option maxRecDepth 100000 in
theorem copiedO_p (s : Spc) (hl : s.ar.el.length ≤ 1000) (h2 : s.pl.length ≤ 1000) (h3 : s.fl.length ≤ 1000) (he : 0 < s.ar.el.length) (hp : 0 < s.pl.length) (h0 : 0 < s.fl.length) : PCS Tryz.prog 73 [.d (.agg (spcC s))] [] (.ag 0 (arrC s.ar ++ [D.sl 1 (s.pl.map iC)]) []) [.row 95 8 (s.fl.map flwC)] := by
  refine pcs_of_awpA Tryz.func73 rfl Tryz.ntmps73 Tryz.results73 (by simp) fun w0 hrnd => ?_
  refine awp_seq ?_
  refine awp_region 0 mixed (by kernel_rfl) ?_
  refine rg_nil ?_
  refine aops_box rfl (by first | exact .inl rfl | exact .inr ⟨_, rfl⟩) rfl rfl rfl ?_
  refine aops_alloc zr32 rfl rfl rfl ?_
  refine aops_nil ?_
  change Awp _ _ _ _ _
  refine awp_seq ?_
  refine awp_regionM 17 [none, none, none, none, none, none, none, none, none, some 12, none, none, some 1, none, some 1, none, some 1] mixed (by kernel_rfl) ?_
  first | refine rgm_q rfl (q_fieldAddr fld32_0 rfl) ?_ | refine rgm_q rfl (q_fieldAddr_ref fld32_0 rfl) ?_
  first | refine rgm_q rfl (q_fieldAddr fld28_0 rfl) ?_ | refine rgm_q rfl (q_fieldAddr_ref fld28_0 rfl) ?_
  first | refine rgm_q rfl (q_load sz22 rfl rfl) ?_ | refine rgm_q rfl (q_load_ref sz22 rfl rfl rfl) ?_ | refine rgm_q rfl (q_load_tb (x := .d _) sz22 rfl rfl rfl) ?_ | refine rgm_q rfl (q_load_tb (x := .rs _) sz22 rfl rfl rfl) ?_
  first | refine rgm_q rfl (q_call en108 (.cons rfl .nil) rfl (cloneS_p _ (by rw [List.length_map]; omega) (by rw [List.length_map]; omega))) ?_ | refine rgm_q rfl (q_callF en108 (.cons (by first | exact .d _ | exact .rs rfl | exact .ref rfl | exact .nil _ | exact .tref rfl (by repeat (first | exact .nil | refine .cons (.d _ rfl) ?_ | refine .cons (.rs rfl) ?_))) .nil) rfl (cloneS_p _ (by rw [List.length_map]; omega) (by rw [List.length_map]; omega)) (by first | exact .v _ | exact D.Flat.tupF (by repeat first | exact trivial | refine ⟨.v _, ?_⟩) | exact D.Flat.aggF (by repeat first | exact trivial | refine ⟨.v _, ?_⟩))) ?_
  first | refine rgm_q rfl (q_fieldAddr fld32_1 rfl) ?_ | refine rgm_q rfl (q_fieldAddr_ref fld32_1 rfl) ?_
  first | refine rgm_q rfl (q_load sz29 rfl rfl) ?_ | refine rgm_q rfl (q_load_ref sz29 rfl rfl rfl) ?_ | refine rgm_q rfl (q_load_tb (x := .d _) sz29 rfl rfl rfl) ?_ | refine rgm_q rfl (q_load_tb (x := .rs _) sz29 rfl rfl rfl) ?_
  first | refine rgm_q rfl (q_call en109 (.cons rfl .nil) rfl (cloneI_p _ (by rw [List.length_map]; omega) (by rw [List.length_map]; omega))) ?_ | refine rgm_q rfl (q_callF en109 (.cons (by first | exact .d _ | exact .rs rfl | exact .ref rfl | exact .nil _ | exact .tref rfl (by repeat (first | exact .nil | refine .cons (.d _ rfl) ?_ | refine .cons (.rs rfl) ?_))) .nil) rfl (cloneI_p _ (by rw [List.length_map]; omega) (by rw [List.length_map]; omega)) (by first | exact .v _ | exact D.Flat.tupF (by repeat first | exact trivial | refine ⟨.v _, ?_⟩) | exact D.Flat.aggF (by repeat first | exact trivial | refine ⟨.v _, ?_⟩))) ?_
  first | refine rgm_q rfl (q_fieldAddr fld32_2 rfl) ?_ | refine rgm_q rfl (q_fieldAddr_ref fld32_2 rfl) ?_
  first | refine rgm_q rfl (q_load sz30 rfl rfl) ?_ | refine rgm_q rfl (q_load_ref sz30 rfl rfl rfl) ?_ | refine rgm_q rfl (q_load_tb (x := .d _) sz30 rfl rfl rfl) ?_ | refine rgm_q rfl (q_load_tb (x := .rs _) sz30 rfl rfl rfl) ?_
  refine rgm_m (k := 12) rfl rfl (by rfl) (m_callN en110 (cloneO_p (s.fl.map flwC) (by rw [List.length_map]; exact h0) (by rw [List.length_map]; omega)) rfl (.cons rfl .nil) rfl (flat_row flwC 95 8 s.fl flwC_flat)) ?_
  first | refine rgm_q rfl (q_fieldAddr fld32_0 rfl) ?_ | refine rgm_q rfl (q_fieldAddr_ref fld32_0 rfl) ?_
  first | refine rgm_q rfl (q_fieldAddr fld28_0 rfl) ?_ | refine rgm_q rfl (q_fieldAddr_ref fld28_0 rfl) ?_
  first | refine rgm_m (k := 1) rfl rfl (by rfl) (m_store sz22 rfl rfl (by first | exact .inl rfl | exact .inr ⟨_, rfl⟩) rfl rfl (by first | decide | exact Nat.le_of_ble_eq_true rfl | simp) rfl) ?_ | refine rgm_m (k := 1) rfl rfl (by rfl) (m_storeAg sz22 rfl rfl rfl rfl rfl rfl rfl) ?_
  first | refine rgm_q rfl (q_fieldAddr fld32_1 rfl) ?_ | refine rgm_q rfl (q_fieldAddr_ref fld32_1 rfl) ?_
  first | refine rgm_m (k := 1) rfl rfl (by rfl) (m_store sz29 rfl rfl (by first | exact .inl rfl | exact .inr ⟨_, rfl⟩) rfl rfl (by first | decide | exact Nat.le_of_ble_eq_true rfl | simp) rfl) ?_ | refine rgm_m (k := 1) rfl rfl (by rfl) (m_storeAg sz29 rfl rfl rfl rfl rfl rfl rfl) ?_
  first | refine rgm_q rfl (q_fieldAddr fld32_2 rfl) ?_ | refine rgm_q rfl (q_fieldAddr_ref fld32_2 rfl) ?_
  refine rgm_m (k := 1) rfl rfl (by rfl) (m_storeR sz30 rfl rfl rfl (Nat.le_of_ble_eq_true rfl) rfl) ?_
  refine rgm_nil ?_
  refine aops_nil ?_
  change Awp _ _ _ _ _
  refine awp_seq ?_
  refine Awp.le (le_tbox (k := 2) (ts := [_, _, _, _, _, _, _, _, _, _, _, _, _]) rfl rfl) ?_
  refine awp_region 1 mixed (by kernel_rfl) ?_
  refine rg_q (q_load_ag (u := (arrC s.ar ++ [D.sl 1 (s.pl.map iC)])) (v := []) sz32 rfl rfl rfl rfl) ?_
  refine rg_nil ?_
  refine aops_storeAg sz32 rfl rfl rfl rfl rfl rfl rfl ?_
  refine aops_nil ?_
  change Awp _ _ _ _ _
  refine awp_ret ?_
  exact enda_mk (.inl rfl) [12] ⟨2, 12, 13, (arrC s.ar ++ [D.sl 1 (s.pl.map iC)]), [], rfl, rfl, sz32, rfl, rfl⟩ (by repeat (first | exact trivial | refine ⟨rfl, ?_⟩)) rfl

theorem spc_pulse {s : Spc} (h : (ckSpc s).2 = 0) : plsE s.pl = 0 := by
  unfold ckSpc at h
  by_cases h1 : (ckArr s.ar).2 ≠ 0
  · rw [if_pos h1] at h; exact absurd h h1
  rw [if_neg h1] at h
  by_cases h2 : spcE0 s ≠ 0
  · rw [if_pos h2] at h; exact absurd h h2
  have h3 := Decidable.not_not.1 h2
  unfold spcE0 at h3
  exact first_zero.1 h3 _ (by simp)
def zSpc : Spc := ⟨⟨[], ⟨0, 0, 0, 0⟩, ⟨0, 0, 0, 0⟩, (0, 0)⟩, [], []⟩
def woS (s : Spc) (i : Nat) : Spc := ⟨s.ar, s.pl, s.fl.eraseIdx i⟩
def woR0 (s : Spc) (f : Int) : Spc × Int := if inR 0 f ((s.fl.length : Int) - 1) = true then (woS s f.toNat, 0) else (zSpc, 6)
def woR (s : Spc) (f : Int) : Spc × Int := if (ckSpc s).2 ≠ 0 then (zSpc, (ckSpc s).2) else woR0 s f
theorem del_row (es : List (List D)) (i : Nat) (hi : i < es.length) : (es.take i ++ (es.take es.length).drop (i + 1) ++ es.drop (es.length - 1)).take (es.length - 1) = es.eraseIdx i := by
  have h1 : (es.take i ++ (es.take es.length).drop (i + 1)).length = es.length - 1 := by simp only [List.length_append, List.length_take, List.length_drop]; omega
  rw [List.take_append_of_le_length (by omega), List.take_of_length_le (by omega), List.take_length, List.eraseIdx_eq_take_drop_succ]
theorem del_rowZ (es : List (List D)) (i : Nat) (hi : i < es.length) (zs : List (List D)) : ((((es.take i ++ (es.take es.length).drop (i + 1) ++ es.drop (es.length - 1)).take (es.length - 1) ++ zs) ++ (es.take i ++ (es.take es.length).drop (i + 1) ++ es.drop (es.length - 1)).drop es.length).take (es.length - 1)).drop 0 = es.eraseIdx i := by
  rw [List.drop_zero, del_row es i hi]
  have h1 : (es.eraseIdx i).length = es.length - 1 := by rw [List.length_eraseIdx]; simp [hi]
  rw [List.append_assoc, List.take_append_of_le_length (by omega), List.take_of_length_le (by omega)]
theorem map_erase (l : List Flw) (i : Nat) : (l.map flwC).eraseIdx i = (l.eraseIdx i).map flwC := by
  rw [List.eraseIdx_eq_take_drop_succ, List.eraseIdx_eq_take_drop_succ, List.map_append, List.map_take, List.map_drop]
set_option maxRecDepth 100000 in
theorem without_p (s : Spc) (f : Int) : PC Tryz.prog 34 [.agg (spcC s), .v (.int .i64 (f))] (.tup [.agg (spcC (woR s f).1), .v (.int .i64 ((woR s f).2))]) := by
  refine pc_of_awpN Tryz.func34 rfl Tryz.ntmps34 (rs := [.cell 4 32, .tmp 5]) Tryz.results34 (by simp) fun w0 hmine hrnd hpn => ?_
  refine awp_seq ?_
  refine awp_region 0 mixed (by kernel_rfl) ?_
  refine rg_nil ?_
  refine aops_box rfl (by first | exact .inl rfl | exact .inr ⟨_, rfl⟩) rfl rfl rfl ?_
  refine aops_alloc zr32 rfl rfl rfl ?_
  refine aops_q rfl (q_assign (x := .d (.v _)) rfl) ?_
  refine aops_nil ?_
  change Awp _ _ _ _ _
  refine awp_seq ?_
  refine awp_seq ?_
  refine awp_region 7 mixed (by kernel_rfl) ?_
  first | refine rg_q (q_loadA sz32 rfl rfl rfl) ?_ | refine rg_q (q_load_refA sz32 rfl rfl rfl rfl) ?_
  first | refine rg_q (q_call en72 (.cons rfl .nil) rfl (checkSpecimen_p _)) ?_ | refine rg_q (q_callF en72 (.cons (by first | exact .d _ | exact .rs rfl | exact .ref rfl | exact .nil _ | exact .tref rfl (by repeat (first | exact .nil | refine .cons (.d _ rfl) ?_ | refine .cons (.rs rfl) ?_))) .nil) rfl (checkSpecimen_p _) (by first | exact .v _ | exact D.Flat.tupF (by repeat first | exact trivial | refine ⟨.v _, ?_⟩) | exact D.Flat.aggF (by repeat first | exact trivial | refine ⟨.v _, ?_⟩))) ?_
  refine rg_q (q_move (x := .d (.tup _)) rfl) ?_
  refine rg_q (q_extract rfl rfl) ?_
  refine rg_q (q_extract rfl rfl) ?_
  refine rg_q (q_assign (x := .d (.v _)) rfl) ?_
  refine rg_q (q_assign (x := .d (.v _)) rfl) ?_
  refine rg_nil ?_
  refine aops_nil ?_
  change Awp _ _ _ _ _
  refine awp_seq ?_
  refine awp_region 2 mixed (by kernel_rfl) ?_
  refine rg_q (q_move (x := .d (.v _)) rfl) ?_
  refine rg_q (q_neq rfl rfl) ?_
  refine rg_nil ?_
  refine aops_nil ?_
  change Awp _ _ _ _ _
  refine awp_cond rfl (fun hc2 => ?_) (fun hc2 => ?_)
  ·
    (try simp only [decide_eq_true_eq, decide_eq_false_iff_not, Bool.and_eq_true, Bool.or_eq_true, Bool.and_eq_false_iff, Bool.or_eq_false_iff, Bool.not_eq_true', Bool.not_eq_false', Bool.not_true, Bool.not_false, bif_and, bif_or, Bool.not_not, ne_eq, Decidable.not_not, not_true_eq_false, not_false_eq_true, Int.not_le, Int.not_lt] at hc2)
    have hz : woR s f = (zSpc, (ckSpc s).2) := by unfold woR; rw [if_pos hc2]
    refine awp_seq ?_
    refine awp_region 2 mixed (by kernel_rfl) ?_
    refine rg_q (q_build pl32 zr32 rfl .nil trivial rfl) ?_
    refine rg_q (q_move (x := .d (.v _)) rfl) ?_
    refine rg_nil ?_
    first | refine aops_store sz32 rfl rfl (by first | exact .inl rfl | exact .inr ⟨_, rfl⟩) rfl rfl (by first | decide | simp; done | exact Nat.le_of_ble_eq_true rfl) rfl ?_ | refine aops_storeT (z := .rs _) sz32 rfl rfl rfl rfl (by first | decide | simp) rfl ?_ | refine aops_storeT (z := .d _) sz32 rfl rfl rfl rfl (by first | decide | simp) rfl ?_ | refine aops_storeTA sz32 rfl rfl (by first | exact .inl rfl | exact .inr ⟨_, rfl⟩) rfl rfl (by first | decide | simp) rfl ?_
    refine aops_q rfl (q_assign (x := .d (.v _)) rfl) ?_
    refine aops_nil ?_
    change Awp _ _ _ _ _
    refine Awp.le (le_upB 4 (spcC zSpc) rfl (.cons (.nil 2) (.cons (.same _) (.cons (.same _) (.cons (.same _) (.cons (.same _) (.cons (.same _) (.cons (.same _) (.cons (.same _) (.cons (.same _) (.cons (.same _) (.cons (.same _) (.cons (.nil 1) (.cons (.nil 8) .nil)))))))))))))) ?_
    refine awp_ret ?_
    refine ⟨_, (.cons (.cellA rfl rfl sz32 rfl) (.cons (.tmp (by first | exact .d _ | exact .rs rfl | exact .ref rfl | exact .tref rfl (.cons (.d _ rfl) (.cons (.rs rfl) .nil)))) .nil)), ?_⟩
    rw [hz]; rfl
  ·
    (try simp only [decide_eq_true_eq, decide_eq_false_iff_not, Bool.and_eq_true, Bool.or_eq_true, Bool.and_eq_false_iff, Bool.or_eq_false_iff, Bool.not_eq_true', Bool.not_eq_false', Bool.not_true, Bool.not_false, bif_and, bif_or, Bool.not_not, ne_eq, Decidable.not_not, not_true_eq_false, not_false_eq_true, Int.not_le, Int.not_lt] at hc2)
    have h0 : (ckSpc s).2 = 0 := hc2
    have hsp := spc_ok h0
    have hok := hsp.ar
    have hn1 := hok.n1
    have hn2 := hok.n2
    have hp1 := hsp.p1
    have hp0 := (plsE_ok (spc_pulse h0)).1
    have hf1 := hsp.f1
    have hz : woR s f = woR0 s f := by unfold woR; rw [if_neg (fun q => q h0)]
    refine awp_skip ?_
    change Awp _ _ _ _ _
    refine awp_seq ?_
    refine awp_seq ?_
    refine awp_region 7 mixed (by kernel_rfl) ?_
    refine rg_q (q_move (x := .d (.v _)) rfl) ?_
    first | refine rg_q (q_fieldAddr fld32_2 rfl) ?_ | refine rg_q (q_fieldAddr_ref fld32_2 rfl) ?_
    first | refine rg_q (q_load sz30 rfl rfl) ?_ | refine rg_q (q_load_ref sz30 rfl rfl rfl) ?_ | refine rg_q (q_load_tb (x := .d _) sz30 rfl rfl rfl) ?_ | refine rg_q (q_load_tb (x := .rs _) sz30 rfl rfl rfl) ?_
    first | refine rg_q (q_len isl30 rfl (by first | exact len_map _ _ | rfl)) ?_ | refine rg_q (q_len_rs isl30 rfl rfl) ?_ | refine rg_q (q_len_nil isl30 rfl) ?_
    refine rg_q (q_sub rfl rfl (In64.mk (by omega) (by omega))) ?_
    first | refine rg_q (q_call en57 (.cons rfl (.cons rfl (.cons rfl .nil))) rfl (bwithin_p _ _ _)) ?_ | refine rg_q (q_callF en57 (.cons (by first | exact .d _ | exact .rs rfl | exact .ref rfl | exact .nil _ | exact .tref rfl (by repeat (first | exact .nil | refine .cons (.d _ rfl) ?_ | refine .cons (.rs rfl) ?_))) (.cons (by first | exact .d _ | exact .rs rfl | exact .ref rfl | exact .nil _ | exact .tref rfl (by repeat (first | exact .nil | refine .cons (.d _ rfl) ?_ | refine .cons (.rs rfl) ?_))) (.cons (by first | exact .d _ | exact .rs rfl | exact .ref rfl | exact .nil _ | exact .tref rfl (by repeat (first | exact .nil | refine .cons (.d _ rfl) ?_ | refine .cons (.rs rfl) ?_))) .nil))) rfl (bwithin_p _ _ _) (by first | exact .v _ | exact D.Flat.tupF (by repeat first | exact trivial | refine ⟨.v _, ?_⟩) | exact D.Flat.aggF (by repeat first | exact trivial | refine ⟨.v _, ?_⟩))) ?_
    refine rg_q (q_not rfl) ?_
    refine rg_nil ?_
    refine aops_nil ?_
    change Awp _ _ _ _ _
    first | refine awp_len (t := 19) rfl (fun hl19 => ?_) | skip
    (try simp only [List.length_map] at hl19)
    refine awp_cond rfl (fun hc4 => ?_) (fun hc4 => ?_)
    ·
      (try simp only [decide_eq_true_eq, decide_eq_false_iff_not, Bool.and_eq_true, Bool.or_eq_true, Bool.and_eq_false_iff, Bool.or_eq_false_iff, Bool.not_eq_true', Bool.not_eq_false', Bool.not_true, Bool.not_false, bif_and, bif_or, Bool.not_not, ne_eq, Decidable.not_not, not_true_eq_false, not_false_eq_true, Int.not_le, Int.not_lt] at hc4)
      have hz2 : woR0 s f = (zSpc, 6) := by unfold woR0; rw [if_neg (by rw [hc4]; decide)]
      refine awp_seq ?_
      refine awp_region 1 mixed (by kernel_rfl) ?_
      refine rg_q (q_build pl32 zr32 rfl .nil trivial rfl) ?_
      refine rg_nil ?_
      first | refine aops_store sz32 rfl rfl (by first | exact .inl rfl | exact .inr ⟨_, rfl⟩) rfl rfl (by first | decide | simp; done | exact Nat.le_of_ble_eq_true rfl) rfl ?_ | refine aops_storeT (z := .rs _) sz32 rfl rfl rfl rfl (by first | decide | simp) rfl ?_ | refine aops_storeT (z := .d _) sz32 rfl rfl rfl rfl (by first | decide | simp) rfl ?_ | refine aops_storeTA sz32 rfl rfl (by first | exact .inl rfl | exact .inr ⟨_, rfl⟩) rfl rfl (by first | decide | simp) rfl ?_
      refine aops_q rfl (q_assign (x := .d (.v _)) rfl) ?_
      refine aops_nil ?_
      change Awp _ _ _ _ _
      refine Awp.le (le_upB 4 (spcC zSpc) rfl (.cons (.nil 2) (.cons (.same _) (.cons (.same _) (.cons (.same _) (.cons (.same _) (.cons (.same _) (.cons (.same _) (.cons (.same _) (.cons (.same _) (.cons (.same _) (.cons (.same _) (.cons (.nil 1) (.cons (.nil 8) .nil)))))))))))))) ?_
      refine awp_ret ?_
      refine ⟨_, (.cons (.cellA rfl rfl sz32 rfl) (.cons (.tmp (by first | exact .d _ | exact .rs rfl | exact .ref rfl | exact .tref rfl (.cons (.d _ rfl) (.cons (.rs rfl) .nil)))) .nil)), ?_⟩
      rw [hz, hz2]; rfl
    ·
      (try simp only [decide_eq_true_eq, decide_eq_false_iff_not, Bool.and_eq_true, Bool.or_eq_true, Bool.and_eq_false_iff, Bool.or_eq_false_iff, Bool.not_eq_true', Bool.not_eq_false', Bool.not_true, Bool.not_false, bif_and, bif_or, Bool.not_not, ne_eq, Decidable.not_not, not_true_eq_false, not_false_eq_true, Int.not_le, Int.not_lt] at hc4)
      have hb : 0 ≤ f ∧ f ≤ (s.fl.length : Int) - 1 := by simpa [inR] using hc4
      obtain ⟨i, rfl⟩ : ∃ i : Nat, f = (i : Int) := ⟨f.toNat, by omega⟩
      have hi : i < s.fl.length := by omega
      have hml : (s.fl.map flwC).length = s.fl.length := List.length_map _
      have hz2 : woR0 s (i : Int) = (woS s i, 0) := by unfold woR0; rw [if_pos hc4]; rfl
      refine awp_skip ?_
      change Awp _ _ _ _ _
      refine awp_seq ?_
      refine awp_region 1 mixed (by kernel_rfl) ?_
      first | refine rg_q (q_loadA sz32 rfl rfl rfl) ?_ | refine rg_q (q_load_refA sz32 rfl rfl rfl rfl) ?_
      refine rg_nil ?_
      refine aops_callL [26] [] en73 (copiedO_p s (by omega) (by omega) (by omega) (by omega) (by omega) (by omega)) (.cons rfl .nil) rfl rfl rfl (by repeat (first | exact trivial | refine ⟨rfl, ?_⟩)) (by repeat (first | exact trivial | refine ⟨rfl, ?_⟩)) rfl ?_
      refine aops_le (le_tbox (k := 2) (ts := [_, _, _, _, _, _, _, _, _, _, _, _, _]) rfl rfl) ?_
      refine aops_storeAg sz32 rfl rfl rfl rfl rfl rfl rfl ?_
      refine aops_nil ?_
      change Awp _ _ _ _ _
      refine awp_seq ?_
      refine awp_region 5 mixed (by kernel_rfl) ?_
      first | refine rg_q (q_fieldAddr fld32_2 rfl) ?_ | refine rg_q (q_fieldAddr_ref fld32_2 rfl) ?_
      first | refine rg_q (q_load sz30 rfl rfl) ?_ | refine rg_q (q_load_ref sz30 rfl rfl rfl) ?_ | refine rg_q (q_load_tb (x := .d _) sz30 rfl rfl rfl) ?_ | refine rg_q (q_load_tb (x := .rs _) sz30 rfl rfl rfl) ?_
      refine rg_q (q_move (x := .d (.v _)) rfl) ?_
      refine rg_q (q_move (x := .d (.v _)) rfl) ?_
      refine rg_q (q_add rfl rfl (In64.mk (by omega) (by omega))) ?_
      refine rg_nil ?_
      refine aops_callL [26] [26] en74 (delete_p (s.fl.map flwC) i (by omega) (by omega)) (.cons rfl (.cons rfl (.cons rfl .nil))) rfl rfl rfl (by repeat (first | exact trivial | refine ⟨rfl, ?_⟩)) (by repeat (first | exact trivial | refine ⟨rfl, ?_⟩)) rfl ?_
      first | refine aops_q rfl (q_fieldAddr fld32_2 rfl) ?_ | refine aops_q rfl (q_fieldAddr_ref fld32_2 rfl) ?_
      refine aops_storeT (z := .own _ _ _ _) sz30 rfl rfl rfl rfl (Nat.le_of_ble_eq_true rfl) rfl ?_
      refine aops_nil ?_
      change Awp _ _ _ _ _
      refine awp_seq ?_
      refine Awp.le (le_freezeTBS 2 26 12 rfl rfl rfl rfl (by omega) (by simp only [List.length_append, List.length_take, List.length_drop, List.length_replicate]; omega) hmine) ?_
      rw [del_rowZ _ i (by omega), map_erase]
      refine Awp.le (le_boxT 2 (spcC (woS s i)) rfl rfl (by intro j d h; match j, h with | 0, h | 1, h | 2, h | 3, h | 4, h | 5, h | 6, h | 7, h | 8, h | 9, h | 10, h | 11, h | 12, h => cases h; rfl)) ?_
      refine awp_region 1 mixed (by kernel_rfl) ?_
      first | refine rg_q (q_loadA sz32 rfl rfl rfl) ?_ | refine rg_q (q_load_refA sz32 rfl rfl rfl rfl) ?_
      refine rg_nil ?_
      first | refine aops_store sz32 rfl rfl (by first | exact .inl rfl | exact .inr ⟨_, rfl⟩) rfl rfl (by first | decide | simp; done | exact Nat.le_of_ble_eq_true rfl) rfl ?_ | refine aops_storeT (z := .rs _) sz32 rfl rfl rfl rfl (by first | decide | simp) rfl ?_ | refine aops_storeT (z := .d _) sz32 rfl rfl rfl rfl (by first | decide | simp) rfl ?_ | refine aops_storeTA sz32 rfl rfl (by first | exact .inl rfl | exact .inr ⟨_, rfl⟩) rfl rfl (by first | decide | simp) rfl ?_
      refine aops_q rfl (q_assign (x := .d (.v _)) rfl) ?_
      refine aops_nil ?_
      change Awp _ _ _ _ _
      refine awp_ret ?_
      refine ⟨_, (.cons (.cellA rfl rfl sz32 rfl) (.cons (.tmp (by first | exact .d _ | exact .rs rfl | exact .ref rfl | exact .tref rfl (.cons (.d _ rfl) (.cons (.rs rfl) .nil)))) .nil)), ?_⟩
      rw [hz, hz2]; rfl
set_option maxRecDepth 100000 in
theorem rwithout_p (s : Spc) (hl : s.ar.el.length ≤ 1000) (h2 : s.pl.length ≤ 1000) (h3 : s.fl.length ≤ 1000) (f : Int) : PC Tryz.prog 37 [.agg (spcC s), .v (.int .i64 (f))] (.tup [.agg (spcC (woR0 s f).1), .v (.int .i64 ((woR0 s f).2))]) := by
  refine pc_of_awpN Tryz.func37 rfl Tryz.ntmps37 (rs := [.cell 4 32, .tmp 5]) Tryz.results37 (by simp) fun w0 hmine hrnd hpn => ?_
  refine awp_seq ?_
  refine awp_region 1 mixed (by kernel_rfl) ?_
  refine rg_q (q_box rfl (by first | exact .inl rfl | exact .inr ⟨_, rfl⟩)) ?_
  refine rg_nil ?_
  refine aops_alloc zr32 rfl rfl rfl ?_
  refine aops_q rfl (q_assign (x := .d (.v _)) rfl) ?_
  refine aops_nil ?_
  change Awp _ _ _ _ _
  refine awp_seq ?_
  refine awp_seq ?_
  refine awp_region 7 mixed (by kernel_rfl) ?_
  refine rg_q (q_move (x := .d (.v _)) rfl) ?_
  first | refine rg_q (q_fieldAddr fld32_2 rfl) ?_ | refine rg_q (q_fieldAddr_ref fld32_2 rfl) ?_
  first | refine rg_q (q_load sz30 rfl rfl) ?_ | refine rg_q (q_load_ref sz30 rfl rfl rfl) ?_ | refine rg_q (q_load_tb (x := .d _) sz30 rfl rfl rfl) ?_ | refine rg_q (q_load_tb (x := .rs _) sz30 rfl rfl rfl) ?_
  first | refine rg_q (q_len isl30 rfl (by first | exact len_map _ _ | rfl)) ?_ | refine rg_q (q_len_rs isl30 rfl rfl) ?_ | refine rg_q (q_len_nil isl30 rfl) ?_
  refine rg_q (q_sub rfl rfl (In64.mk (by omega) (by omega))) ?_
  first | refine rg_q (q_call en33 (.cons rfl (.cons rfl (.cons rfl .nil))) rfl (within4_p _ _ _)) ?_ | refine rg_q (q_callF en33 (.cons (by first | exact .d _ | exact .rs rfl | exact .ref rfl | exact .nil _ | exact .tref rfl (by repeat (first | exact .nil | refine .cons (.d _ rfl) ?_ | refine .cons (.rs rfl) ?_))) (.cons (by first | exact .d _ | exact .rs rfl | exact .ref rfl | exact .nil _ | exact .tref rfl (by repeat (first | exact .nil | refine .cons (.d _ rfl) ?_ | refine .cons (.rs rfl) ?_))) (.cons (by first | exact .d _ | exact .rs rfl | exact .ref rfl | exact .nil _ | exact .tref rfl (by repeat (first | exact .nil | refine .cons (.d _ rfl) ?_ | refine .cons (.rs rfl) ?_))) .nil))) rfl (within4_p _ _ _) (by first | exact .v _ | exact D.Flat.tupF (by repeat first | exact trivial | refine ⟨.v _, ?_⟩) | exact D.Flat.aggF (by repeat first | exact trivial | refine ⟨.v _, ?_⟩))) ?_
  refine rg_q (q_not rfl) ?_
  refine rg_nil ?_
  refine aops_nil ?_
  change Awp _ _ _ _ _
  first | refine awp_len (t := 9) rfl (fun hl9 => ?_) | skip
  (try simp only [List.length_map] at hl9)
  refine awp_cond rfl (fun hc1 => ?_) (fun hc1 => ?_)
  ·
    (try simp only [decide_eq_true_eq, decide_eq_false_iff_not, Bool.and_eq_true, Bool.or_eq_true, Bool.and_eq_false_iff, Bool.or_eq_false_iff, Bool.not_eq_true', Bool.not_eq_false', Bool.not_true, Bool.not_false, bif_and, bif_or, Bool.not_not, ne_eq, Decidable.not_not, not_true_eq_false, not_false_eq_true, Int.not_le, Int.not_lt] at hc1)
    have hz2 : woR0 s f = (zSpc, 6) := by unfold woR0; rw [if_neg (by rw [hc1]; decide)]
    refine awp_seq ?_
    refine awp_region 1 mixed (by kernel_rfl) ?_
    refine rg_q (q_build pl32 zr32 rfl .nil trivial rfl) ?_
    refine rg_nil ?_
    first | refine aops_store sz32 rfl rfl (by first | exact .inl rfl | exact .inr ⟨_, rfl⟩) rfl rfl (by first | decide | simp; done | exact Nat.le_of_ble_eq_true rfl) rfl ?_ | refine aops_storeT (z := .rs _) sz32 rfl rfl rfl rfl (by first | decide | simp) rfl ?_ | refine aops_storeT (z := .d _) sz32 rfl rfl rfl rfl (by first | decide | simp) rfl ?_ | refine aops_storeTA sz32 rfl rfl (by first | exact .inl rfl | exact .inr ⟨_, rfl⟩) rfl rfl (by first | decide | simp) rfl ?_
    refine aops_q rfl (q_assign (x := .d (.v _)) rfl) ?_
    refine aops_nil ?_
    change Awp _ _ _ _ _
    refine Awp.le (le_upB 4 (spcC zSpc) rfl (.cons (.nil 2) (.cons (.same _) (.cons (.same _) (.cons (.same _) (.cons (.same _) (.cons (.same _) (.cons (.same _) (.cons (.same _) (.cons (.same _) (.cons (.same _) (.cons (.same _) (.cons (.nil 1) (.cons (.nil 8) .nil)))))))))))))) ?_
    refine awp_ret ?_
    refine ⟨_, (.cons (.cellA rfl rfl sz32 rfl) (.cons (.tmp (by first | exact .d _ | exact .rs rfl | exact .ref rfl | exact .tref rfl (.cons (.d _ rfl) (.cons (.rs rfl) .nil)))) .nil)), ?_⟩
    rw [hz2]; rfl
  ·
    (try simp only [decide_eq_true_eq, decide_eq_false_iff_not, Bool.and_eq_true, Bool.or_eq_true, Bool.and_eq_false_iff, Bool.or_eq_false_iff, Bool.not_eq_true', Bool.not_eq_false', Bool.not_true, Bool.not_false, bif_and, bif_or, Bool.not_not, ne_eq, Decidable.not_not, not_true_eq_false, not_false_eq_true, Int.not_le, Int.not_lt] at hc1)
    have hb : 0 ≤ f ∧ f ≤ (s.fl.length : Int) - 1 := by simpa [inR] using hc1
    obtain ⟨i, rfl⟩ : ∃ i : Nat, f = (i : Int) := ⟨f.toNat, by omega⟩
    have hi : i < s.fl.length := by omega
    have hml : (s.fl.map flwC).length = s.fl.length := List.length_map _
    have hz2 : woR0 s (i : Int) = (woS s i, 0) := by unfold woR0; rw [if_pos hc1]; rfl
    refine awp_skip ?_
    change Awp _ _ _ _ _
    refine awp_seq ?_
    refine awp_region 1 mixed (by kernel_rfl) ?_
    first | refine rg_q (q_loadA sz32 rfl rfl rfl) ?_ | refine rg_q (q_load_refA sz32 rfl rfl rfl rfl) ?_
    refine rg_nil ?_
    refine aops_callL [16] [] en12 (copyO_p s (by omega) (by omega) (by omega) (by omega)) (.cons rfl .nil) rfl rfl rfl (by repeat (first | exact trivial | refine ⟨rfl, ?_⟩)) (by repeat (first | exact trivial | refine ⟨rfl, ?_⟩)) rfl ?_
    refine aops_alloc zr32 rfl rfl rfl ?_
    refine aops_le (le_tbox (k := 6) (ts := [_, _, _, _, _, _, _, _, _, _, _, _, _]) rfl rfl) ?_
    refine aops_storeAg sz32 rfl rfl rfl rfl rfl rfl rfl ?_
    refine aops_nil ?_
    change Awp _ _ _ _ _
    refine awp_seq ?_
    refine awp_regionM 12 [none, none, none, none, none, none, none, none, none, some 16, none, some 6] mixed (by kernel_rfl) ?_
    first | refine rgm_q rfl (q_fieldAddr fld32_2 rfl) ?_ | refine rgm_q rfl (q_fieldAddr_ref fld32_2 rfl) ?_
    first | refine rgm_q rfl (q_load sz30 rfl rfl) ?_ | refine rgm_q rfl (q_load_ref sz30 rfl rfl rfl) ?_ | refine rgm_q rfl (q_load_tb (x := .d _) sz30 rfl rfl rfl) ?_ | refine rgm_q rfl (q_load_tb (x := .rs _) sz30 rfl rfl rfl) ?_
    refine rgm_q rfl (q_move (x := .d (.v _)) rfl) ?_
    refine rgm_q rfl (q_slice_rs (lo := 0) (hi := i) sl30 rfl rfl rfl rfl (by omega) (by omega)) ?_
    first | refine rgm_q rfl (q_fieldAddr fld32_2 rfl) ?_ | refine rgm_q rfl (q_fieldAddr_ref fld32_2 rfl) ?_
    first | refine rgm_q rfl (q_load sz30 rfl rfl) ?_ | refine rgm_q rfl (q_load_ref sz30 rfl rfl rfl) ?_ | refine rgm_q rfl (q_load_tb (x := .d _) sz30 rfl rfl rfl) ?_ | refine rgm_q rfl (q_load_tb (x := .rs _) sz30 rfl rfl rfl) ?_
    refine rgm_q rfl (q_move (x := .d (.v _)) rfl) ?_
    refine rgm_q rfl (q_add rfl rfl (In64.mk (by omega) (by omega))) ?_
    refine rgm_q rfl (q_slice_rs (lo := i + 1) (hi := (s.fl.map flwC).length) sl30 rfl rfl rfl rfl (by omega) (by omega)) ?_
    refine rgm_m (k := 16) rfl rfl (by rfl) (m_appendIn (p := i) (lo := i + 1) (hi := (s.fl.map flwC).length) (m := (s.fl.map flwC).length - 1) sl30 rfl rfl rfl (by omega) (by omega) (by omega) (by omega) (by omega) rfl) ?_
    first | refine rgm_q rfl (q_fieldAddr fld32_2 rfl) ?_ | refine rgm_q rfl (q_fieldAddr_ref fld32_2 rfl) ?_
    refine rgm_m (k := 6) rfl rfl (by rfl) (m_storeO sz30 rfl rfl rfl rfl (Nat.le_of_ble_eq_true rfl) rfl) ?_
    refine rgm_nil ?_
    refine aops_nil ?_
    change Awp _ _ _ _ _
    refine awp_seq ?_
    refine Awp.le (le_freezeTBS 6 16 12 rfl rfl rfl rfl (by omega) (by simp only [List.length_append, List.length_take, List.length_drop]; omega) hmine) ?_
    rw [List.drop_zero, del_row _ i (by omega), map_erase]
    refine Awp.le (le_boxT 6 (spcC (woS s i)) rfl rfl (by intro j d h; match j, h with | 0, h | 1, h | 2, h | 3, h | 4, h | 5, h | 6, h | 7, h | 8, h | 9, h | 10, h | 11, h | 12, h => cases h; rfl)) ?_
    refine awp_region 1 mixed (by kernel_rfl) ?_
    first | refine rg_q (q_loadA sz32 rfl rfl rfl) ?_ | refine rg_q (q_load_refA sz32 rfl rfl rfl rfl) ?_
    refine rg_nil ?_
    first | refine aops_store sz32 rfl rfl (by first | exact .inl rfl | exact .inr ⟨_, rfl⟩) rfl rfl (by first | decide | simp; done | exact Nat.le_of_ble_eq_true rfl) rfl ?_ | refine aops_storeT (z := .rs _) sz32 rfl rfl rfl rfl (by first | decide | simp) rfl ?_ | refine aops_storeT (z := .d _) sz32 rfl rfl rfl rfl (by first | decide | simp) rfl ?_ | refine aops_storeTA sz32 rfl rfl (by first | exact .inl rfl | exact .inr ⟨_, rfl⟩) rfl rfl (by first | decide | simp) rfl ?_
    refine aops_q rfl (q_assign (x := .d (.v _)) rfl) ?_
    refine aops_nil ?_
    change Awp _ _ _ _ _
    refine awp_ret ?_
    refine ⟨_, (.cons (.cellA rfl rfl sz32 rfl) (.cons (.tmp (by first | exact .d _ | exact .rs rfl | exact .ref rfl | exact .tref rfl (.cons (.d _ rfl) (.cons (.rs rfl) .nil)))) .nil)), ?_⟩
    rw [hz2]; rfl

def mvF (b : Int) (x : Flw) : Flw := ⟨x.kd, (x.at_.1 + b, x.at_.2), if x.kd = 1 then (x.to_.1 + b, x.to_.2) else x.to_, x.pc, x.am, x.tp⟩
def mvB (b : Int) (x : Flw) : Bool := inR (-100000) (mvF b x).at_.1 100000 && inR (-100000) (mvF b x).to_.1 100000
def mvS (s : Spc) (b : Int) : Spc := ⟨s.ar, s.pl, s.fl.map (mvF b)⟩
def mvR0 (s : Spc) (b : Int) : Spc × Int := if inR (-100000) b 100000 = true then (if s.fl.all (mvB b) = true then (mvS s b, 0) else (zSpc, 2)) else (zSpc, 2)
def mvR (s : Spc) (b : Int) : Spc × Int := if (ckSpc s).2 ≠ 0 then (zSpc, (ckSpc s).2) else mvR0 s b
def mvL (b : Int) (l : List Flw) (k : Nat) : List Flw := (l.take k).map (mvF b) ++ l.drop k
theorem mvL_len (b : Int) (l : List Flw) (k : Nat) : (mvL b l k).length = l.length := by unfold mvL; simp; omega
theorem mvL_at {b : Int} {l : List Flw} {k : Nat} {x : Flw} (hx : l[k]? = some x) : (mvL b l k)[k]? = some x := by
  have hk := (List.getElem?_eq_some_iff.1 hx).1
  unfold mvL
  rw [List.getElem?_append_right (by simp; omega), List.length_map, List.length_take, Nat.min_eq_left (by omega), Nat.sub_self, List.getElem?_drop, Nat.add_zero, hx]
theorem mvL_set {b : Int} {l : List Flw} {k : Nat} {x : Flw} (hx : l[k]? = some x) : (mvL b l k).set k (mvF b x) = mvL b l (k + 1) := by
  have hk := (List.getElem?_eq_some_iff.1 hx).1
  have hl : ((l.take k).map (mvF b)).length = k := by simp; omega
  unfold mvL
  rw [List.set_append_right _ _ (by omega), hl, Nat.sub_self, List.drop_eq_getElem_cons hk, List.set_cons_zero, List.take_succ_eq_append_getElem hk, List.map_append, (List.getElem?_eq_some_iff.1 hx).2]
  simp
theorem mvL_all (b : Int) (l : List Flw) : mvL b l l.length = l.map (mvF b) := by unfold mvL; simp
theorem mvL_zero (b : Int) (l : List Flw) : mvL b l 0 = l := by simp [mvL]
theorem all_step {b : Int} {l : List Flw} {k : Nat} {x : Flw} (hx : l[k]? = some x) (h : (l.take k).all (mvB b) = true) (hb : mvB b x = true) : (l.take (k + 1)).all (mvB b) = true := by
  rw [List.take_succ_eq_append_getElem (List.getElem?_eq_some_iff.1 hx).1, (List.getElem?_eq_some_iff.1 hx).2, List.all_append, h, List.all_cons, hb]; rfl
theorem all_not {b : Int} {l : List Flw} {k : Nat} {x : Flw} (hx : l[k]? = some x) (hb : mvB b x = false) : ¬ l.all (mvB b) = true := fun q => by
  have := List.all_eq_true.1 q x (List.mem_of_getElem? hx)
  rw [hb] at this; cases this

def mvA (b : Int) (x : Flw) : Flw := ⟨x.kd, (x.at_.1 + b, x.at_.2), x.to_, x.pc, x.am, x.tp⟩
def mvT (b : Int) (x : Flw) : Flw := ⟨x.kd, (x.at_.1 + b, x.at_.2), (x.to_.1 + b, x.to_.2), x.pc, x.am, x.tp⟩
theorem mvA_eq {b : Int} {x : Flw} (h : ¬ x.kd = 1) : mvA b x = mvF b x := by unfold mvA mvF; rw [if_neg h]
theorem mvT_eq {b : Int} {x : Flw} (h : x.kd = 1) : mvT b x = mvF b x := by unfold mvT mvF; rw [if_pos h]
theorem mv_row {b : Int} {l : List Flw} {k : Nat} {x y : Flw} (hx : l[k]? = some x) (hy : y = mvF b x) : ((mvL b l k).map flwC).set k (flwC y) = (mvL b l (k + 1)).map flwC := by
  rw [hy, ← List.map_set, mvL_set hx]
theorem mv_row2 {b : Int} {l : List Flw} {k : Nat} {x : Flw} (hx : l[k]? = some x) : ((mvL b l (k + 1)).map flwC)[k]? = some (flwC (mvF b x)) := by
  have hk := (List.getElem?_eq_some_iff.1 hx).1
  rw [← mv_row hx rfl, List.getElem?_set_self (by rw [List.length_map, mvL_len]; exact hk)]
set_option maxRecDepth 100000 in
theorem movedO_p (s : Spc) (hl : s.ar.el.length ≤ 1000) (h2 : s.pl.length ≤ 1000) (h3 : s.fl.length ≤ 1000) (he : 0 < s.ar.el.length) (hp : 0 < s.pl.length) (b : Int) (h0 : 0 < s.fl.length) (hfl : ∀ x ∈ s.fl, FlwOk x) : PC Tryz.prog 75 [.agg (spcC s), .v (.int .i64 (b))] (.tup [.agg (spcC (mvR0 s b).1), .v (.int .i64 ((mvR0 s b).2))]) := by
  have hml : (s.fl.map flwC).length = s.fl.length := List.length_map _
  refine pc_of_awpN Tryz.func75 rfl Tryz.ntmps75 (rs := [.cell 4 32, .tmp 5]) Tryz.results75 (by simp) fun w0 hmine hrnd hpn => ?_
  refine awp_seq ?_
  refine awp_region 0 mixed (by kernel_rfl) ?_
  refine rg_nil ?_
  refine aops_box rfl (by first | exact .inl rfl | exact .inr ⟨_, rfl⟩) rfl rfl rfl ?_
  refine aops_alloc zr32 rfl rfl rfl ?_
  refine aops_q rfl (q_assign (x := .d (.v _)) rfl) ?_
  refine aops_nil ?_
  change Awp _ _ _ _ _
  refine awp_seq ?_
  refine awp_seq ?_
  refine awp_region 3 mixed (by kernel_rfl) ?_
  refine rg_q (q_move (x := .d (.v _)) rfl) ?_
  first | refine rg_q (q_call en78 (.cons rfl (.cons rfl .nil)) rfl (bsmall_p _ _ (by omega) (by omega))) ?_ | refine rg_q (q_callF en78 (.cons (by first | exact .d _ | exact .rs rfl | exact .ref rfl | exact .nil _ | exact .tref rfl (by repeat (first | exact .nil | refine .cons (.d _ rfl) ?_ | refine .cons (.rs rfl) ?_))) (.cons (by first | exact .d _ | exact .rs rfl | exact .ref rfl | exact .nil _ | exact .tref rfl (by repeat (first | exact .nil | refine .cons (.d _ rfl) ?_ | refine .cons (.rs rfl) ?_))) .nil)) rfl (bsmall_p _ _ (by omega) (by omega)) (by first | exact .v _ | exact D.Flat.tupF (by repeat first | exact trivial | refine ⟨.v _, ?_⟩) | exact D.Flat.aggF (by repeat first | exact trivial | refine ⟨.v _, ?_⟩))) ?_
  refine rg_q (q_not rfl) ?_
  refine rg_nil ?_
  refine aops_nil ?_
  change Awp _ _ _ _ _
  refine awp_cond rfl (fun hc1 => ?_) (fun hc1 => ?_)
  ·
    (try simp only [decide_eq_true_eq, decide_eq_false_iff_not, Bool.and_eq_true, Bool.or_eq_true, Bool.and_eq_false_iff, Bool.or_eq_false_iff, Bool.not_eq_true', Bool.not_eq_false', Bool.not_true, Bool.not_false, bif_and, bif_or, Bool.not_not, ne_eq, Decidable.not_not, not_true_eq_false, not_false_eq_true, Int.not_le, Int.not_lt] at hc1)
    have hz : mvR0 s b = (zSpc, 2) := by unfold mvR0; rw [if_neg (by rw [hc1]; decide)]
    refine awp_seq ?_
    refine awp_region 1 mixed (by kernel_rfl) ?_
    refine rg_q (q_build pl32 zr32 rfl .nil trivial rfl) ?_
    refine rg_nil ?_
    first | refine aops_store sz32 rfl rfl (by first | exact .inl rfl | exact .inr ⟨_, rfl⟩) rfl rfl (by first | decide | simp; done | exact Nat.le_of_ble_eq_true rfl) rfl ?_ | refine aops_storeT (z := .rs _) sz32 rfl rfl rfl rfl (by first | decide | simp) rfl ?_ | refine aops_storeT (z := .d _) sz32 rfl rfl rfl rfl (by first | decide | simp) rfl ?_ | refine aops_storeTA sz32 rfl rfl (by first | exact .inl rfl | exact .inr ⟨_, rfl⟩) rfl rfl (by first | decide | simp) rfl ?_
    refine aops_q rfl (q_assign (x := .d (.v _)) rfl) ?_
    refine aops_nil ?_
    change Awp _ _ _ _ _
    refine Awp.le (le_upB 4 (spcC zSpc) rfl (.cons (.nil 2) (.cons (.same _) (.cons (.same _) (.cons (.same _) (.cons (.same _) (.cons (.same _) (.cons (.same _) (.cons (.same _) (.cons (.same _) (.cons (.same _) (.cons (.same _) (.cons (.nil 1) (.cons (.nil 8) .nil)))))))))))))) ?_
    refine awp_ret ?_
    refine ⟨_, (.cons (.cellA rfl rfl sz32 rfl) (.cons (.tmp (by first | exact .d _ | exact .rs rfl | exact .ref rfl | exact .tref rfl (.cons (.d _ rfl) (.cons (.rs rfl) .nil)))) .nil)), ?_⟩
    rw [hz]; rfl
  ·
    (try simp only [decide_eq_true_eq, decide_eq_false_iff_not, Bool.and_eq_true, Bool.or_eq_true, Bool.and_eq_false_iff, Bool.or_eq_false_iff, Bool.not_eq_true', Bool.not_eq_false', Bool.not_true, Bool.not_false, bif_and, bif_or, Bool.not_not, ne_eq, Decidable.not_not, not_true_eq_false, not_false_eq_true, Int.not_le, Int.not_lt] at hc1)
    have hbb : inR (-100000) b 100000 = true := hc1
    have hb2 : -100000 ≤ b ∧ b ≤ 100000 := by simpa [inR] using hc1
    refine awp_skip ?_
    change Awp _ _ _ _ _
    refine awp_seq ?_
    refine awp_region 1 mixed (by kernel_rfl) ?_
    first | refine rg_q (q_loadA sz32 rfl rfl rfl) ?_ | refine rg_q (q_load_refA sz32 rfl rfl rfl rfl) ?_
    refine rg_nil ?_
    refine aops_callL [13] [] en73 (copiedO_p s hl h2 h3 he hp h0) (.cons rfl .nil) rfl rfl rfl (by repeat (first | exact trivial | refine ⟨rfl, ?_⟩)) (by repeat (first | exact trivial | refine ⟨rfl, ?_⟩)) rfl ?_
    refine aops_le (le_tbox (k := 2) (ts := [_, _, _, _, _, _, _, _, _, _, _, _, _]) rfl rfl) ?_
    refine aops_storeAg sz32 rfl rfl rfl rfl rfl rfl rfl ?_
    refine aops_nil ?_
    change Awp _ _ _ _ _
    refine awp_seq ?_
    refine awp_seq ?_
    refine awp_region 4 mixed (by kernel_rfl) ?_
    first | refine rg_q (q_fieldAddr fld32_2 rfl) ?_ | refine rg_q (q_fieldAddr_ref fld32_2 rfl) ?_
    first | refine rg_q (q_load sz30 rfl rfl) ?_ | refine rg_q (q_load_ref sz30 rfl rfl rfl) ?_ | refine rg_q (q_load_tb (x := .d _) sz30 rfl rfl rfl) ?_ | refine rg_q (q_load_tb (x := .rs _) sz30 rfl rfl rfl) ?_
    first | refine rg_q (q_len isl30 rfl (by first | exact len_map _ _ | rfl)) ?_ | refine rg_q (q_len_rs isl30 rfl rfl) ?_ | refine rg_q (q_len_nil isl30 rfl) ?_
    refine rg_q (q_move (x := .d (.v _)) rfl) ?_
    refine rg_nil ?_
    refine aops_nil ?_
    change Awp _ _ _ _ _
    first | refine awp_len (t := 15) rfl (fun hl15 => ?_) | skip
    (try simp only [List.length_map] at hl15)
    refine awp_block ?_
    refine awp_loopH [5, 6, 7, 17, 18, 19, 20, 21, 22, 23, 24, 25, 26, 27, 28, 29, 30, 31, 32, 33, 34, 35, 36, 37, 38, 39, 40, 41, 42, 43, 44, 45, 46, 47, 48, 49, 50, 51, 52, 53, 54, 55, 56, 57, 58, 59, 60, 61, 62, 63, 64, 65, 66] [2, 13] (α := Nat) (fun k => [(17, T.i (k : Int))]) (fun k => [(2, .tbox ((arrC s.ar ++ [D.sl 1 (s.pl.map iC)]).map T.d ++ [.rs 13])), (13, .row 95 8 ((mvL b s.fl k).map flwC))]) (fun k => k ≤ s.fl.length ∧ (s.fl.take k).all (mvB b) = true) (fun k => s.fl.length - k) 0 ⟨Nat.zero_le _, rfl⟩ ?_ ?_
    · exact le_head (ms := [2, 13]) (by repeat (first | exact Out.refl _ | exact Out.head rfl rfl | (refine Out.put ?_ rfl) | (refine Out.site ?_ rfl) | (refine Out.putn ?_) | (refine Out.headIn ?_ rfl rfl rfl) | (refine Out.called ?_ rfl rfl))) ⟨(by first | rfl | (first | rfl | (show Site.row _ _ _ = Site.row _ _ _; rw [mvL_zero]))), trivial⟩ ⟨(by first | rfl | (first | rfl | (show Site.row _ _ _ = Site.row _ _ _; rw [mvL_zero]))), (by first | rfl | (first | rfl | (show Site.row _ _ _ = Site.row _ _ _; rw [mvL_zero]))), trivial⟩ rfl rfl rfl rfl
    ·
      intro k ⟨hk, hall⟩
      refine awp_seq ?_
      refine awp_region 1 mixed (by kernel_rfl) ?_
      refine rg_q (q_lss rfl rfl) ?_
      refine rg_nil ?_
      refine aops_nil ?_
      change Awp _ _ _ _ _
      refine awp_seq ?_
      refine awp_cond rfl (fun hc5 => ?_) (fun hc5 => ?_)
      ·
        (try simp only [decide_eq_true_eq, decide_eq_false_iff_not, Bool.and_eq_true, Bool.or_eq_true, Bool.and_eq_false_iff, Bool.or_eq_false_iff, Bool.not_eq_true', Bool.not_eq_false', Bool.not_true, Bool.not_false, bif_and, bif_or, Bool.not_not, ne_eq, Decidable.not_not, not_true_eq_false, not_false_eq_true, Int.not_le, Int.not_lt] at hc5)
        have hlt : k < s.fl.length := by omega
        obtain ⟨x, hx⟩ : ∃ x, s.fl[k]? = some x := ⟨_, List.getElem?_eq_getElem hlt⟩
        have hxo := hfl x (List.mem_of_getElem? hx)
        have ha1 := hxo.a1
        have hpl := hxo.pl
        have hml2 : ((mvL b s.fl k).map flwC).length = s.fl.length := by rw [List.length_map, mvL_len]
        have hrow : ((mvL b s.fl k).map flwC)[k]? = some (flwC x) := by rw [List.getElem?_map, mvL_at hx]; rfl
        have hrow2 := mv_row2 (b := b) hx
        refine awp_skip ?_
        change Awp _ _ _ _ _
        refine awp_seq ?_
        refine awp_block ?_
        refine awp_seq ?_
        refine awp_region 2 mixed (by kernel_rfl) ?_
        refine rg_q (q_move (x := .d (.v _)) rfl) ?_
        refine rg_q (q_assign (x := .d (.v _)) rfl) ?_
        refine rg_nil ?_
        refine aops_nil ?_
        change Awp _ _ _ _ _
        refine awp_seq ?_
        refine awp_region 5 mixed (by kernel_rfl) ?_
        first | refine rg_q (q_fieldAddr fld32_2 rfl) ?_ | refine rg_q (q_fieldAddr_ref fld32_2 rfl) ?_
        first | refine rg_q (q_load sz30 rfl rfl) ?_ | refine rg_q (q_load_ref sz30 rfl rfl rfl) ?_ | refine rg_q (q_load_tb (x := .d _) sz30 rfl rfl rfl) ?_ | refine rg_q (q_load_tb (x := .rs _) sz30 rfl rfl rfl) ?_
        refine rg_q (q_move (x := .d (.v _)) rfl) ?_
        refine rg_q (q_indexAddr_rs sl30 rfl rfl rfl (by omega) (by omega)) ?_
        first | refine rg_q (q_assign (x := .d (.pt _ _)) rfl) ?_ | refine rg_q (q_assign (x := .ref _ _) rfl) ?_ | refine rg_q (q_assign (x := .d (.v _)) rfl) ?_ | refine rg_q (q_assign (x := .d _) rfl) ?_
        refine rg_nil ?_
        refine aops_nil ?_
        change Awp _ _ _ _ _
        refine awp_seq ?_
        refine awp_region 10 mixed (by kernel_rfl) ?_
        first | refine rg_q (q_move (x := .d (.pt _ _)) rfl) ?_ | refine rg_q (q_move (x := .ref _ _) rfl) ?_ | refine rg_q (q_move (x := .d (.v _)) rfl) ?_ | refine rg_q (q_move (x := .d _) rfl) ?_
        first | refine rg_q (q_nilCheck rfl) ?_ | refine rg_q (q_nilCheck_ref rfl) ?_
        first | refine rg_q (q_fieldAddr fld95_1 rfl) ?_ | refine rg_q (q_fieldAddr_ref fld95_1 rfl) ?_
        first | refine rg_q (q_fieldAddr fld50_0 rfl) ?_ | refine rg_q (q_fieldAddr_ref fld50_0 rfl) ?_
        first | refine rg_q (q_load_row sz3 rfl rfl (i := k) (j := 1) (by rw [Int.toNat_natCast]) hrow rfl) ?_ | refine rg_q (q_load sz3 rfl rfl) ?_ | refine rg_q (q_load_ref sz3 rfl rfl rfl) ?_ | refine rg_q (q_load_tb (x := .d _) sz3 rfl rfl rfl) ?_ | refine rg_q (q_load_tb (x := .rs _) sz3 rfl rfl rfl) ?_
        refine rg_q (q_move (x := .d (.v _)) rfl) ?_
        refine rg_q (q_add rfl rfl (In64.mk (by omega) (by omega))) ?_
        first | refine rg_q (q_nilCheck rfl) ?_ | refine rg_q (q_nilCheck_ref rfl) ?_
        first | refine rg_q (q_fieldAddr fld95_1 rfl) ?_ | refine rg_q (q_fieldAddr_ref fld95_1 rfl) ?_
        first | refine rg_q (q_fieldAddr fld50_0 rfl) ?_ | refine rg_q (q_fieldAddr_ref fld50_0 rfl) ?_
        refine rg_nil ?_
        refine aops_store_row sz3 rfl rfl (by first | exact .inl rfl | exact .inr ⟨_, rfl⟩) rfl rfl (i := k) (j := 1) (es' := (((mvL b s.fl k).map flwC).set k (flwC (mvA b x)))) (by rw [Int.toNat_natCast]) hrow (by decide) rfl ?_
        refine aops_nil ?_
        change Awp _ _ _ _ _
        refine awp_seq ?_
        refine awp_seq ?_
        refine awp_region 5 mixed (by kernel_rfl) ?_
        first | refine rg_q (q_move (x := .d (.pt _ _)) rfl) ?_ | refine rg_q (q_move (x := .ref _ _) rfl) ?_ | refine rg_q (q_move (x := .d (.v _)) rfl) ?_ | refine rg_q (q_move (x := .d _) rfl) ?_
        first | refine rg_q (q_nilCheck rfl) ?_ | refine rg_q (q_nilCheck_ref rfl) ?_
        first | refine rg_q (q_fieldAddr fld95_0 rfl) ?_ | refine rg_q (q_fieldAddr_ref fld95_0 rfl) ?_
        first | refine rg_q (q_load_row sz3 rfl rfl (i := k) (j := 0) (by rw [Int.toNat_natCast]) (by rw [List.getElem?_set_self (by omega)]) rfl) ?_ | refine rg_q (q_load sz3 rfl rfl) ?_ | refine rg_q (q_load_ref sz3 rfl rfl rfl) ?_ | refine rg_q (q_load_tb (x := .d _) sz3 rfl rfl rfl) ?_ | refine rg_q (q_load_tb (x := .rs _) sz3 rfl rfl rfl) ?_
        refine rg_q (q_eql rfl rfl) ?_
        refine rg_nil ?_
        refine aops_nil ?_
        change Awp _ _ _ _ _
        refine awp_cond rfl (fun hc9 => ?_) (fun hc9 => ?_)
        ·
          (try simp only [decide_eq_true_eq, decide_eq_false_iff_not, Bool.and_eq_true, Bool.or_eq_true, Bool.and_eq_false_iff, Bool.or_eq_false_iff, Bool.not_eq_true', Bool.not_eq_false', Bool.not_true, Bool.not_false, bif_and, bif_or, Bool.not_not, ne_eq, Decidable.not_not, not_true_eq_false, not_false_eq_true, Int.not_le, Int.not_lt] at hc9)
          have hk1 : x.kd = 1 := hc9
          have hpl2 := (hpl (by omega)).1
          have hpl3 : (mvA b x).to_.1 = x.to_.1 := rfl
          refine awp_region 10 mixed (by kernel_rfl) ?_
          first | refine rg_q (q_move (x := .d (.pt _ _)) rfl) ?_ | refine rg_q (q_move (x := .ref _ _) rfl) ?_ | refine rg_q (q_move (x := .d (.v _)) rfl) ?_ | refine rg_q (q_move (x := .d _) rfl) ?_
          first | refine rg_q (q_nilCheck rfl) ?_ | refine rg_q (q_nilCheck_ref rfl) ?_
          first | refine rg_q (q_fieldAddr fld95_2 rfl) ?_ | refine rg_q (q_fieldAddr_ref fld95_2 rfl) ?_
          first | refine rg_q (q_fieldAddr fld50_0 rfl) ?_ | refine rg_q (q_fieldAddr_ref fld50_0 rfl) ?_
          first | refine rg_q (q_load_row sz3 rfl rfl (i := k) (j := 3) (by rw [Int.toNat_natCast]) (by rw [List.getElem?_set_self (by omega)]) rfl) ?_ | refine rg_q (q_load sz3 rfl rfl) ?_ | refine rg_q (q_load_ref sz3 rfl rfl rfl) ?_ | refine rg_q (q_load_tb (x := .d _) sz3 rfl rfl rfl) ?_ | refine rg_q (q_load_tb (x := .rs _) sz3 rfl rfl rfl) ?_
          refine rg_q (q_move (x := .d (.v _)) rfl) ?_
          refine rg_q (q_add rfl rfl (In64.mk (by omega) (by omega))) ?_
          first | refine rg_q (q_nilCheck rfl) ?_ | refine rg_q (q_nilCheck_ref rfl) ?_
          first | refine rg_q (q_fieldAddr fld95_2 rfl) ?_ | refine rg_q (q_fieldAddr_ref fld95_2 rfl) ?_
          first | refine rg_q (q_fieldAddr fld50_0 rfl) ?_ | refine rg_q (q_fieldAddr_ref fld50_0 rfl) ?_
          refine rg_nil ?_
          refine aops_store_row sz3 rfl rfl (by first | exact .inl rfl | exact .inr ⟨_, rfl⟩) rfl rfl (i := k) (j := 3) (es' := (mvL b s.fl (k + 1)).map flwC) (by rw [Int.toNat_natCast]) (by rw [List.getElem?_set_self (by omega)]) (by decide) (by rw [List.set_set]; exact mv_row hx (mvT_eq hk1)) ?_
          refine aops_nil ?_
          change Awp _ _ _ _ _
          refine awp_seq ?_
          refine awp_region 16 mixed (by kernel_rfl) ?_
          first | refine rg_q (q_move (x := .d (.pt _ _)) rfl) ?_ | refine rg_q (q_move (x := .ref _ _) rfl) ?_ | refine rg_q (q_move (x := .d (.v _)) rfl) ?_ | refine rg_q (q_move (x := .d _) rfl) ?_
          first | refine rg_q (q_nilCheck rfl) ?_ | refine rg_q (q_nilCheck_ref rfl) ?_
          first | refine rg_q (q_fieldAddr fld95_1 rfl) ?_ | refine rg_q (q_fieldAddr_ref fld95_1 rfl) ?_
          first | refine rg_q (q_fieldAddr fld50_0 rfl) ?_ | refine rg_q (q_fieldAddr_ref fld50_0 rfl) ?_
          first | refine rg_q (q_load_row sz3 rfl rfl (i := k) (j := 1) (by rw [Int.toNat_natCast]) hrow2 rfl) ?_ | refine rg_q (q_load sz3 rfl rfl) ?_ | refine rg_q (q_load_ref sz3 rfl rfl rfl) ?_ | refine rg_q (q_load_tb (x := .d _) sz3 rfl rfl rfl) ?_ | refine rg_q (q_load_tb (x := .rs _) sz3 rfl rfl rfl) ?_
          first | refine rg_q (q_call en78 (.cons rfl (.cons rfl .nil)) rfl (bsmall_p _ _ (by omega) (by omega))) ?_ | refine rg_q (q_callF en78 (.cons (by first | exact .d _ | exact .rs rfl | exact .ref rfl | exact .nil _ | exact .tref rfl (by repeat (first | exact .nil | refine .cons (.d _ rfl) ?_ | refine .cons (.rs rfl) ?_))) (.cons (by first | exact .d _ | exact .rs rfl | exact .ref rfl | exact .nil _ | exact .tref rfl (by repeat (first | exact .nil | refine .cons (.d _ rfl) ?_ | refine .cons (.rs rfl) ?_))) .nil)) rfl (bsmall_p _ _ (by omega) (by omega)) (by first | exact .v _ | exact D.Flat.tupF (by repeat first | exact trivial | refine ⟨.v _, ?_⟩) | exact D.Flat.aggF (by repeat first | exact trivial | refine ⟨.v _, ?_⟩))) ?_
          refine rg_q (q_not rfl) ?_
          refine rg_q (q_move (x := .d (.v _)) rfl) ?_
          first | refine rg_g rfl rfl (fun hG => (q_move (x := .d (.pt _ _)) rfl)) ?_ | refine rg_g rfl rfl (fun hG => (q_move (x := .ref _ _) rfl)) ?_ | refine rg_g rfl rfl (fun hG => (q_move (x := .d (.v _)) rfl)) ?_ | refine rg_g rfl rfl (fun hG => (q_move (x := .d _) rfl)) ?_
          first | refine rg_g rfl rfl (fun hG => (q_nilCheck rfl)) ?_ | refine rg_g rfl rfl (fun hG => (q_nilCheck_ref rfl)) ?_
          first | refine rg_g rfl rfl (fun hG => (q_fieldAddr fld95_2 rfl)) ?_ | refine rg_g rfl rfl (fun hG => (q_fieldAddr_ref fld95_2 rfl)) ?_
          first | refine rg_g rfl rfl (fun hG => (q_fieldAddr fld50_0 rfl)) ?_ | refine rg_g rfl rfl (fun hG => (q_fieldAddr_ref fld50_0 rfl)) ?_
          first | refine rg_g rfl rfl (fun hG => (q_load_row sz3 rfl rfl (i := k) (j := 3) (by rw [Int.toNat_natCast]) hrow2 rfl)) ?_ | refine rg_g rfl rfl (fun hG => (q_load sz3 rfl rfl)) ?_ | refine rg_g rfl rfl (fun hG => (q_load_ref sz3 rfl rfl rfl)) ?_ | refine rg_g rfl rfl (fun hG => (q_load_tb (x := .d _) sz3 rfl rfl rfl)) ?_ | refine rg_g rfl rfl (fun hG => (q_load_tb (x := .rs _) sz3 rfl rfl rfl)) ?_
          first | refine rg_g rfl rfl (fun hG => (q_call en78 (.cons rfl (.cons rfl .nil)) rfl (bsmall_p _ _ (by omega) (by omega)))) ?_ | refine rg_g rfl rfl (fun hG => (q_callF en78 (.cons (by first | exact .d _ | exact .rs rfl | exact .ref rfl | exact .nil _ | exact .tref rfl (by repeat (first | exact .nil | refine .cons (.d _ rfl) ?_ | refine .cons (.rs rfl) ?_))) (.cons (by first | exact .d _ | exact .rs rfl | exact .ref rfl | exact .nil _ | exact .tref rfl (by repeat (first | exact .nil | refine .cons (.d _ rfl) ?_ | refine .cons (.rs rfl) ?_))) .nil)) rfl (bsmall_p _ _ (by omega) (by omega)) (by first | exact .v _ | exact D.Flat.tupF (by repeat first | exact trivial | refine ⟨.v _, ?_⟩) | exact D.Flat.aggF (by repeat first | exact trivial | refine ⟨.v _, ?_⟩)))) ?_
          refine rg_g rfl rfl (fun hG => (q_not rfl)) ?_
          first | refine rg_pick rfl rfl rfl rfl rfl rfl ?_ | refine rg_q (q_pick rfl rfl rfl) ?_
          refine rg_nil ?_
          refine aops_nil ?_
          change Awp _ _ _ _ _
          refine awp_cond rfl (fun hc11 => ?_) (fun hc11 => ?_)
          ·
            (try simp only [decide_eq_true_eq, decide_eq_false_iff_not, Bool.and_eq_true, Bool.or_eq_true, Bool.and_eq_false_iff, Bool.or_eq_false_iff, Bool.not_eq_true', Bool.not_eq_false', Bool.not_true, Bool.not_false, bif_and, bif_or, Bool.not_not, ne_eq, Decidable.not_not, not_true_eq_false, not_false_eq_true, Int.not_le, Int.not_lt] at hc11)
            have hb3 : mvB b x = false := by
              cases q : mvB b x with
              | false => rfl
              | true => unfold mvB at q; simp only [Bool.and_eq_true] at q; simp [q.1, q.2] at hc11
            have hz : mvR0 s b = (zSpc, 2) := by unfold mvR0; rw [if_pos hbb, if_neg (all_not hx hb3)]
            refine awp_seq ?_
            refine awp_region 1 mixed (by kernel_rfl) ?_
            refine rg_q (q_build pl32 zr32 rfl .nil trivial rfl) ?_
            refine rg_nil ?_
            first | refine aops_store sz32 rfl rfl (by first | exact .inl rfl | exact .inr ⟨_, rfl⟩) rfl rfl (by first | decide | simp; done | exact Nat.le_of_ble_eq_true rfl) rfl ?_ | refine aops_storeT (z := .rs _) sz32 rfl rfl rfl rfl (by first | decide | simp) rfl ?_ | refine aops_storeT (z := .d _) sz32 rfl rfl rfl rfl (by first | decide | simp) rfl ?_ | refine aops_storeTA sz32 rfl rfl (by first | exact .inl rfl | exact .inr ⟨_, rfl⟩) rfl rfl (by first | decide | simp) rfl ?_
            refine aops_q rfl (q_assign (x := .d (.v _)) rfl) ?_
            refine aops_nil ?_
            change Awp _ _ _ _ _
            refine Awp.le (le_upB 4 (spcC zSpc) rfl (.cons (.nil 2) (.cons (.same _) (.cons (.same _) (.cons (.same _) (.cons (.same _) (.cons (.same _) (.cons (.same _) (.cons (.same _) (.cons (.same _) (.cons (.same _) (.cons (.same _) (.cons (.nil 1) (.cons (.nil 8) .nil)))))))))))))) ?_
            refine awp_ret ?_
            refine ⟨_, (.cons (.cellA rfl rfl sz32 rfl) (.cons (.tmp (by first | exact .d _ | exact .rs rfl | exact .ref rfl | exact .tref rfl (.cons (.d _ rfl) (.cons (.rs rfl) .nil)))) .nil)), ?_⟩
            rw [hz]; rfl
          ·
            (try simp only [decide_eq_true_eq, decide_eq_false_iff_not, Bool.and_eq_true, Bool.or_eq_true, Bool.and_eq_false_iff, Bool.or_eq_false_iff, Bool.not_eq_true', Bool.not_eq_false', Bool.not_true, Bool.not_false, bif_and, bif_or, Bool.not_not, ne_eq, Decidable.not_not, not_true_eq_false, not_false_eq_true, Int.not_le, Int.not_lt] at hc11)
            have hb3 : mvB b x = true := by
              unfold mvB
              exact (Bool.and_eq_true _ _).mpr ⟨hc11.1, hc11.2⟩
            refine awp_skip ?_
            change Awp _ _ _ _ _
            refine awp_region 2 mixed (by kernel_rfl) ?_
            refine rg_q (q_add rfl rfl (In64.mk (by omega) (by omega))) ?_
            refine rg_q (q_move (x := .d (.v _)) rfl) ?_
            refine rg_nil ?_
            refine aops_nil ?_
            refine ⟨k + 1, ⟨by omega, all_step hx hall hb3⟩, by omega, ?_⟩
            exact le_head (ms := [2, 13]) (by repeat (first | exact Out.refl _ | exact Out.head rfl rfl | (refine Out.put ?_ rfl) | (refine Out.site ?_ rfl) | (refine Out.putn ?_) | (refine Out.headIn ?_ rfl rfl rfl) | (refine Out.called ?_ rfl rfl))) ⟨(by first | rfl | (first | rfl | (show Site.row _ _ _ = Site.row _ _ _; rw [mvL_zero]))), trivial⟩ ⟨(by first | rfl | (first | rfl | (show Site.row _ _ _ = Site.row _ _ _; rw [mvL_zero]))), (by first | rfl | (first | rfl | (show Site.row _ _ _ = Site.row _ _ _; rw [mvL_zero]))), trivial⟩ rfl rfl rfl rfl
        ·
          (try simp only [decide_eq_true_eq, decide_eq_false_iff_not, Bool.and_eq_true, Bool.or_eq_true, Bool.and_eq_false_iff, Bool.or_eq_false_iff, Bool.not_eq_true', Bool.not_eq_false', Bool.not_true, Bool.not_false, bif_and, bif_or, Bool.not_not, ne_eq, Decidable.not_not, not_true_eq_false, not_false_eq_true, Int.not_le, Int.not_lt] at hc9)
          have hk1 : ¬ x.kd = 1 := hc9
          rw [mv_row hx (mvA_eq hk1)]
          refine awp_skip ?_
          change Awp _ _ _ _ _
          refine awp_seq ?_
          refine awp_region 16 mixed (by kernel_rfl) ?_
          first | refine rg_q (q_move (x := .d (.pt _ _)) rfl) ?_ | refine rg_q (q_move (x := .ref _ _) rfl) ?_ | refine rg_q (q_move (x := .d (.v _)) rfl) ?_ | refine rg_q (q_move (x := .d _) rfl) ?_
          first | refine rg_q (q_nilCheck rfl) ?_ | refine rg_q (q_nilCheck_ref rfl) ?_
          first | refine rg_q (q_fieldAddr fld95_1 rfl) ?_ | refine rg_q (q_fieldAddr_ref fld95_1 rfl) ?_
          first | refine rg_q (q_fieldAddr fld50_0 rfl) ?_ | refine rg_q (q_fieldAddr_ref fld50_0 rfl) ?_
          first | refine rg_q (q_load_row sz3 rfl rfl (i := k) (j := 1) (by rw [Int.toNat_natCast]) hrow2 rfl) ?_ | refine rg_q (q_load sz3 rfl rfl) ?_ | refine rg_q (q_load_ref sz3 rfl rfl rfl) ?_ | refine rg_q (q_load_tb (x := .d _) sz3 rfl rfl rfl) ?_ | refine rg_q (q_load_tb (x := .rs _) sz3 rfl rfl rfl) ?_
          first | refine rg_q (q_call en78 (.cons rfl (.cons rfl .nil)) rfl (bsmall_p _ _ (by omega) (by omega))) ?_ | refine rg_q (q_callF en78 (.cons (by first | exact .d _ | exact .rs rfl | exact .ref rfl | exact .nil _ | exact .tref rfl (by repeat (first | exact .nil | refine .cons (.d _ rfl) ?_ | refine .cons (.rs rfl) ?_))) (.cons (by first | exact .d _ | exact .rs rfl | exact .ref rfl | exact .nil _ | exact .tref rfl (by repeat (first | exact .nil | refine .cons (.d _ rfl) ?_ | refine .cons (.rs rfl) ?_))) .nil)) rfl (bsmall_p _ _ (by omega) (by omega)) (by first | exact .v _ | exact D.Flat.tupF (by repeat first | exact trivial | refine ⟨.v _, ?_⟩) | exact D.Flat.aggF (by repeat first | exact trivial | refine ⟨.v _, ?_⟩))) ?_
          refine rg_q (q_not rfl) ?_
          refine rg_q (q_move (x := .d (.v _)) rfl) ?_
          first | refine rg_g rfl rfl (fun hG => (q_move (x := .d (.pt _ _)) rfl)) ?_ | refine rg_g rfl rfl (fun hG => (q_move (x := .ref _ _) rfl)) ?_ | refine rg_g rfl rfl (fun hG => (q_move (x := .d (.v _)) rfl)) ?_ | refine rg_g rfl rfl (fun hG => (q_move (x := .d _) rfl)) ?_
          first | refine rg_g rfl rfl (fun hG => (q_nilCheck rfl)) ?_ | refine rg_g rfl rfl (fun hG => (q_nilCheck_ref rfl)) ?_
          first | refine rg_g rfl rfl (fun hG => (q_fieldAddr fld95_2 rfl)) ?_ | refine rg_g rfl rfl (fun hG => (q_fieldAddr_ref fld95_2 rfl)) ?_
          first | refine rg_g rfl rfl (fun hG => (q_fieldAddr fld50_0 rfl)) ?_ | refine rg_g rfl rfl (fun hG => (q_fieldAddr_ref fld50_0 rfl)) ?_
          first | refine rg_g rfl rfl (fun hG => (q_load_row sz3 rfl rfl (i := k) (j := 3) (by rw [Int.toNat_natCast]) hrow2 rfl)) ?_ | refine rg_g rfl rfl (fun hG => (q_load sz3 rfl rfl)) ?_ | refine rg_g rfl rfl (fun hG => (q_load_ref sz3 rfl rfl rfl)) ?_ | refine rg_g rfl rfl (fun hG => (q_load_tb (x := .d _) sz3 rfl rfl rfl)) ?_ | refine rg_g rfl rfl (fun hG => (q_load_tb (x := .rs _) sz3 rfl rfl rfl)) ?_
          first | refine rg_g rfl rfl (fun hG => (q_call en78 (.cons rfl (.cons rfl .nil)) rfl (bsmall_p _ _ (by omega) (by omega)))) ?_ | refine rg_g rfl rfl (fun hG => (q_callF en78 (.cons (by first | exact .d _ | exact .rs rfl | exact .ref rfl | exact .nil _ | exact .tref rfl (by repeat (first | exact .nil | refine .cons (.d _ rfl) ?_ | refine .cons (.rs rfl) ?_))) (.cons (by first | exact .d _ | exact .rs rfl | exact .ref rfl | exact .nil _ | exact .tref rfl (by repeat (first | exact .nil | refine .cons (.d _ rfl) ?_ | refine .cons (.rs rfl) ?_))) .nil)) rfl (bsmall_p _ _ (by omega) (by omega)) (by first | exact .v _ | exact D.Flat.tupF (by repeat first | exact trivial | refine ⟨.v _, ?_⟩) | exact D.Flat.aggF (by repeat first | exact trivial | refine ⟨.v _, ?_⟩)))) ?_
          refine rg_g rfl rfl (fun hG => (q_not rfl)) ?_
          first | refine rg_pick rfl rfl rfl rfl rfl rfl ?_ | refine rg_q (q_pick rfl rfl rfl) ?_
          refine rg_nil ?_
          refine aops_nil ?_
          change Awp _ _ _ _ _
          refine awp_cond rfl (fun hc11 => ?_) (fun hc11 => ?_)
          ·
            (try simp only [decide_eq_true_eq, decide_eq_false_iff_not, Bool.and_eq_true, Bool.or_eq_true, Bool.and_eq_false_iff, Bool.or_eq_false_iff, Bool.not_eq_true', Bool.not_eq_false', Bool.not_true, Bool.not_false, bif_and, bif_or, Bool.not_not, ne_eq, Decidable.not_not, not_true_eq_false, not_false_eq_true, Int.not_le, Int.not_lt] at hc11)
            have hb3 : mvB b x = false := by
              cases q : mvB b x with
              | false => rfl
              | true => unfold mvB at q; simp only [Bool.and_eq_true] at q; simp [q.1, q.2] at hc11
            have hz : mvR0 s b = (zSpc, 2) := by unfold mvR0; rw [if_pos hbb, if_neg (all_not hx hb3)]
            refine awp_seq ?_
            refine awp_region 1 mixed (by kernel_rfl) ?_
            refine rg_q (q_build pl32 zr32 rfl .nil trivial rfl) ?_
            refine rg_nil ?_
            first | refine aops_store sz32 rfl rfl (by first | exact .inl rfl | exact .inr ⟨_, rfl⟩) rfl rfl (by first | decide | simp; done | exact Nat.le_of_ble_eq_true rfl) rfl ?_ | refine aops_storeT (z := .rs _) sz32 rfl rfl rfl rfl (by first | decide | simp) rfl ?_ | refine aops_storeT (z := .d _) sz32 rfl rfl rfl rfl (by first | decide | simp) rfl ?_ | refine aops_storeTA sz32 rfl rfl (by first | exact .inl rfl | exact .inr ⟨_, rfl⟩) rfl rfl (by first | decide | simp) rfl ?_
            refine aops_q rfl (q_assign (x := .d (.v _)) rfl) ?_
            refine aops_nil ?_
            change Awp _ _ _ _ _
            refine Awp.le (le_upB 4 (spcC zSpc) rfl (.cons (.nil 2) (.cons (.same _) (.cons (.same _) (.cons (.same _) (.cons (.same _) (.cons (.same _) (.cons (.same _) (.cons (.same _) (.cons (.same _) (.cons (.same _) (.cons (.same _) (.cons (.nil 1) (.cons (.nil 8) .nil)))))))))))))) ?_
            refine awp_ret ?_
            refine ⟨_, (.cons (.cellA rfl rfl sz32 rfl) (.cons (.tmp (by first | exact .d _ | exact .rs rfl | exact .ref rfl | exact .tref rfl (.cons (.d _ rfl) (.cons (.rs rfl) .nil)))) .nil)), ?_⟩
            rw [hz]; rfl
          ·
            (try simp only [decide_eq_true_eq, decide_eq_false_iff_not, Bool.and_eq_true, Bool.or_eq_true, Bool.and_eq_false_iff, Bool.or_eq_false_iff, Bool.not_eq_true', Bool.not_eq_false', Bool.not_true, Bool.not_false, bif_and, bif_or, Bool.not_not, ne_eq, Decidable.not_not, not_true_eq_false, not_false_eq_true, Int.not_le, Int.not_lt] at hc11)
            have hb3 : mvB b x = true := by
              unfold mvB
              exact (Bool.and_eq_true _ _).mpr ⟨hc11.1, hc11.2⟩
            refine awp_skip ?_
            change Awp _ _ _ _ _
            refine awp_region 2 mixed (by kernel_rfl) ?_
            refine rg_q (q_add rfl rfl (In64.mk (by omega) (by omega))) ?_
            refine rg_q (q_move (x := .d (.v _)) rfl) ?_
            refine rg_nil ?_
            refine aops_nil ?_
            refine ⟨k + 1, ⟨by omega, all_step hx hall hb3⟩, by omega, ?_⟩
            exact le_head (ms := [2, 13]) (by repeat (first | exact Out.refl _ | exact Out.head rfl rfl | (refine Out.put ?_ rfl) | (refine Out.site ?_ rfl) | (refine Out.putn ?_) | (refine Out.headIn ?_ rfl rfl rfl) | (refine Out.called ?_ rfl rfl))) ⟨(by first | rfl | (first | rfl | (show Site.row _ _ _ = Site.row _ _ _; rw [mvL_zero]))), trivial⟩ ⟨(by first | rfl | (first | rfl | (show Site.row _ _ _ = Site.row _ _ _; rw [mvL_zero]))), (by first | rfl | (first | rfl | (show Site.row _ _ _ = Site.row _ _ _; rw [mvL_zero]))), trivial⟩ rfl rfl rfl rfl
      ·
        (try simp only [decide_eq_true_eq, decide_eq_false_iff_not, Bool.and_eq_true, Bool.or_eq_true, Bool.and_eq_false_iff, Bool.or_eq_false_iff, Bool.not_eq_true', Bool.not_eq_false', Bool.not_true, Bool.not_false, bif_and, bif_or, Bool.not_not, ne_eq, Decidable.not_not, not_true_eq_false, not_false_eq_true, Int.not_le, Int.not_lt] at hc5)
        have hkn : k = s.fl.length := by omega
        subst hkn
        have hall2 : s.fl.all (mvB b) = true := by rw [List.take_length] at hall; exact hall
        have hz : mvR0 s b = (mvS s b, 0) := by unfold mvR0; rw [if_pos hbb, if_pos hall2]
        rw [mvL_all]
        refine awp_exit ?_
        change Awp _ _ _ _ _
        refine awp_seq ?_
        refine Awp.le (le_freezeTB 2 13 12 rfl rfl rfl rfl hmine) ?_
        refine Awp.le (le_boxT 2 (spcC (mvS s b)) rfl rfl (by intro j d h; match j, h with | 0, h | 1, h | 2, h | 3, h | 4, h | 5, h | 6, h | 7, h | 8, h | 9, h | 10, h | 11, h | 12, h => cases h; rfl)) ?_
        refine awp_region 1 mixed (by kernel_rfl) ?_
        first | refine rg_q (q_loadA sz32 rfl rfl rfl) ?_ | refine rg_q (q_load_refA sz32 rfl rfl rfl rfl) ?_
        refine rg_nil ?_
        first | refine aops_store sz32 rfl rfl (by first | exact .inl rfl | exact .inr ⟨_, rfl⟩) rfl rfl (by first | decide | simp; done | exact Nat.le_of_ble_eq_true rfl) rfl ?_ | refine aops_storeT (z := .rs _) sz32 rfl rfl rfl rfl (by first | decide | simp) rfl ?_ | refine aops_storeT (z := .d _) sz32 rfl rfl rfl rfl (by first | decide | simp) rfl ?_ | refine aops_storeTA sz32 rfl rfl (by first | exact .inl rfl | exact .inr ⟨_, rfl⟩) rfl rfl (by first | decide | simp) rfl ?_
        refine aops_q rfl (q_assign (x := .d (.v _)) rfl) ?_
        refine aops_nil ?_
        change Awp _ _ _ _ _
        refine awp_ret ?_
        refine ⟨_, (.cons (.cellA rfl rfl sz32 rfl) (.cons (.tmp (by first | exact .d _ | exact .rs rfl | exact .ref rfl | exact .tref rfl (.cons (.d _ rfl) (.cons (.rs rfl) .nil)))) .nil)), ?_⟩
        rw [hz]; rfl
set_option maxRecDepth 100000 in
theorem movedN_p (s : Spc) (hl : s.ar.el.length ≤ 1000) (h2 : s.pl.length ≤ 1000) (h3 : s.fl.length ≤ 1000) (he : 0 < s.ar.el.length) (hp : 0 < s.pl.length) (b : Int) (hn : s.fl.length = 0) : PC Tryz.prog 75 [.agg (spcC s), .v (.int .i64 (b))] (.tup [.agg (spcC (mvR0 s b).1), .v (.int .i64 ((mvR0 s b).2))]) := by
  have hml : (s.fl.map flwC).length = s.fl.length := List.length_map _
  have hS : mvS s b = s := by unfold mvS; rw [List.length_eq_zero_iff.1 hn]; have e := List.length_eq_zero_iff.1 hn; cases s; simp only at e; subst e; rfl
  refine pc_of_awpN Tryz.func75 rfl Tryz.ntmps75 (rs := [.cell 4 32, .tmp 5]) Tryz.results75 (by simp) fun w0 hmine hrnd hpn => ?_
  refine awp_seq ?_
  refine awp_region 0 mixed (by kernel_rfl) ?_
  refine rg_nil ?_
  refine aops_box rfl (by first | exact .inl rfl | exact .inr ⟨_, rfl⟩) rfl rfl rfl ?_
  refine aops_alloc zr32 rfl rfl rfl ?_
  refine aops_q rfl (q_assign (x := .d (.v _)) rfl) ?_
  refine aops_nil ?_
  change Awp _ _ _ _ _
  refine awp_seq ?_
  refine awp_seq ?_
  refine awp_region 3 mixed (by kernel_rfl) ?_
  refine rg_q (q_move (x := .d (.v _)) rfl) ?_
  first | refine rg_q (q_call en78 (.cons rfl (.cons rfl .nil)) rfl (bsmall_p _ _ (by omega) (by omega))) ?_ | refine rg_q (q_callF en78 (.cons (by first | exact .d _ | exact .rs rfl | exact .ref rfl | exact .nil _ | exact .tref rfl (by repeat (first | exact .nil | refine .cons (.d _ rfl) ?_ | refine .cons (.rs rfl) ?_))) (.cons (by first | exact .d _ | exact .rs rfl | exact .ref rfl | exact .nil _ | exact .tref rfl (by repeat (first | exact .nil | refine .cons (.d _ rfl) ?_ | refine .cons (.rs rfl) ?_))) .nil)) rfl (bsmall_p _ _ (by omega) (by omega)) (by first | exact .v _ | exact D.Flat.tupF (by repeat first | exact trivial | refine ⟨.v _, ?_⟩) | exact D.Flat.aggF (by repeat first | exact trivial | refine ⟨.v _, ?_⟩))) ?_
  refine rg_q (q_not rfl) ?_
  refine rg_nil ?_
  refine aops_nil ?_
  change Awp _ _ _ _ _
  refine awp_cond rfl (fun hc1 => ?_) (fun hc1 => ?_)
  ·
    (try simp only [decide_eq_true_eq, decide_eq_false_iff_not, Bool.and_eq_true, Bool.or_eq_true, Bool.and_eq_false_iff, Bool.or_eq_false_iff, Bool.not_eq_true', Bool.not_eq_false', Bool.not_true, Bool.not_false, bif_and, bif_or, Bool.not_not, ne_eq, Decidable.not_not, not_true_eq_false, not_false_eq_true, Int.not_le, Int.not_lt] at hc1)
    have hz : mvR0 s b = (zSpc, 2) := by unfold mvR0; rw [if_neg (by rw [hc1]; decide)]
    refine awp_seq ?_
    refine awp_region 1 mixed (by kernel_rfl) ?_
    refine rg_q (q_build pl32 zr32 rfl .nil trivial rfl) ?_
    refine rg_nil ?_
    first | refine aops_store sz32 rfl rfl (by first | exact .inl rfl | exact .inr ⟨_, rfl⟩) rfl rfl (by first | decide | simp; done | exact Nat.le_of_ble_eq_true rfl) rfl ?_ | refine aops_storeT (z := .rs _) sz32 rfl rfl rfl rfl (by first | decide | simp) rfl ?_ | refine aops_storeT (z := .d _) sz32 rfl rfl rfl rfl (by first | decide | simp) rfl ?_ | refine aops_storeTA sz32 rfl rfl (by first | exact .inl rfl | exact .inr ⟨_, rfl⟩) rfl rfl (by first | decide | simp) rfl ?_
    refine aops_q rfl (q_assign (x := .d (.v _)) rfl) ?_
    refine aops_nil ?_
    change Awp _ _ _ _ _
    refine Awp.le (le_upB 4 (spcC zSpc) rfl (.cons (.nil 2) (.cons (.same _) (.cons (.same _) (.cons (.same _) (.cons (.same _) (.cons (.same _) (.cons (.same _) (.cons (.same _) (.cons (.same _) (.cons (.same _) (.cons (.same _) (.cons (.nil 1) (.cons (.nil 8) .nil)))))))))))))) ?_
    refine awp_ret ?_
    refine ⟨_, (.cons (.cellA rfl rfl sz32 rfl) (.cons (.tmp (by first | exact .d _ | exact .rs rfl | exact .ref rfl | exact .tref rfl (.cons (.d _ rfl) (.cons (.rs rfl) .nil)))) .nil)), ?_⟩
    rw [hz]; rfl
  ·
    (try simp only [decide_eq_true_eq, decide_eq_false_iff_not, Bool.and_eq_true, Bool.or_eq_true, Bool.and_eq_false_iff, Bool.or_eq_false_iff, Bool.not_eq_true', Bool.not_eq_false', Bool.not_true, Bool.not_false, bif_and, bif_or, Bool.not_not, ne_eq, Decidable.not_not, not_true_eq_false, not_false_eq_true, Int.not_le, Int.not_lt] at hc1)
    have hbb : inR (-100000) b 100000 = true := hc1
    refine awp_skip ?_
    change Awp _ _ _ _ _
    refine awp_seq ?_
    refine awp_region 2 mixed (by kernel_rfl) ?_
    first | refine rg_q (q_loadA sz32 rfl rfl rfl) ?_ | refine rg_q (q_load_refA sz32 rfl rfl rfl rfl) ?_
    first | refine rg_q (q_call en73 (.cons rfl .nil) rfl (copiedN_p s hl h2 h3 he hp hn)) ?_ | refine rg_q (q_callF en73 (.cons (by first | exact .d _ | exact .rs rfl | exact .ref rfl | exact .nil _ | exact .tref rfl (by repeat (first | exact .nil | refine .cons (.d _ rfl) ?_ | refine .cons (.rs rfl) ?_))) .nil) rfl (copiedN_p s hl h2 h3 he hp hn) (by first | exact .v _ | exact D.Flat.tupF (by repeat first | exact trivial | refine ⟨.v _, ?_⟩) | exact D.Flat.aggF (by repeat first | exact trivial | refine ⟨.v _, ?_⟩))) ?_
    refine rg_nil ?_
    first | refine aops_store sz32 rfl rfl (by first | exact .inl rfl | exact .inr ⟨_, rfl⟩) rfl rfl (by first | decide | simp; done | exact Nat.le_of_ble_eq_true rfl) rfl ?_ | refine aops_storeT (z := .rs _) sz32 rfl rfl rfl rfl (by first | decide | simp) rfl ?_ | refine aops_storeT (z := .d _) sz32 rfl rfl rfl rfl (by first | decide | simp) rfl ?_ | refine aops_storeTA sz32 rfl rfl (by first | exact .inl rfl | exact .inr ⟨_, rfl⟩) rfl rfl (by first | decide | simp) rfl ?_
    refine aops_nil ?_
    change Awp _ _ _ _ _
    refine awp_seq ?_
    refine awp_seq ?_
    refine awp_region 4 mixed (by kernel_rfl) ?_
    first | refine rg_q (q_fieldAddr fld32_2 rfl) ?_ | refine rg_q (q_fieldAddr_ref fld32_2 rfl) ?_
    first | refine rg_q (q_load sz30 rfl rfl) ?_ | refine rg_q (q_load_ref sz30 rfl rfl rfl) ?_ | refine rg_q (q_load_tb (x := .d _) sz30 rfl rfl rfl) ?_ | refine rg_q (q_load_tb (x := .rs _) sz30 rfl rfl rfl) ?_
    first | refine rg_q (q_len isl30 rfl (by first | exact len_map _ _ | rfl)) ?_ | refine rg_q (q_len_rs isl30 rfl rfl) ?_ | refine rg_q (q_len_nil isl30 rfl) ?_
    refine rg_q (q_move (x := .d (.v _)) rfl) ?_
    refine rg_nil ?_
    refine aops_nil ?_
    change Awp _ _ _ _ _
    first | refine awp_len (t := 15) rfl (fun hl15 => ?_) | skip
    (try simp only [List.length_map] at hl15)
    refine awp_block ?_
    refine awp_loopH [5, 6, 7, 17, 18, 19, 20, 21, 22, 23, 24, 25, 26, 27, 28, 29, 30, 31, 32, 33, 34, 35, 36, 37, 38, 39, 40, 41, 42, 43, 44, 45, 46, 47, 48, 49, 50, 51, 52, 53, 54, 55, 56, 57, 58, 59, 60, 61, 62, 63, 64, 65, 66] [] (α := Nat) (fun k => [(17, T.i (k : Int))]) (fun k => []) (fun k => k = 0) (fun k => 0) 0 rfl ?_ ?_
    · exact le_head (ms := []) (by repeat (first | exact Out.refl _ | exact Out.head rfl rfl | (refine Out.put ?_ rfl) | (refine Out.site ?_ rfl) | (refine Out.putn ?_) | (refine Out.headIn ?_ rfl rfl rfl) | (refine Out.called ?_ rfl rfl))) ⟨(by first | rfl | (simp; done)), trivial⟩ trivial rfl rfl rfl rfl
    ·
      intro k hk
      subst hk
      refine awp_seq ?_
      refine awp_region 1 mixed (by kernel_rfl) ?_
      refine rg_q (q_lss rfl rfl) ?_
      refine rg_nil ?_
      refine aops_nil ?_
      change Awp _ _ _ _ _
      refine awp_seq ?_
      refine awp_cond rfl (fun hc5 => ?_) (fun hc5 => ?_)
      ·
        exact absurd (of_decide_eq_true hc5) (by omega)
      ·
        (try simp only [decide_eq_true_eq, decide_eq_false_iff_not, Bool.and_eq_true, Bool.or_eq_true, Bool.and_eq_false_iff, Bool.or_eq_false_iff, Bool.not_eq_true', Bool.not_eq_false', Bool.not_true, Bool.not_false, bif_and, bif_or, Bool.not_not, ne_eq, Decidable.not_not, not_true_eq_false, not_false_eq_true, Int.not_le, Int.not_lt] at hc5)
        have hz : mvR0 s b = (s, 0) := by unfold mvR0; rw [if_pos hbb, if_pos (by rw [List.length_eq_zero_iff.1 hn]; rfl), hS]
        refine awp_exit ?_
        change Awp _ _ _ _ _
        refine awp_seq ?_
        refine awp_region 1 mixed (by kernel_rfl) ?_
        first | refine rg_q (q_loadA sz32 rfl rfl rfl) ?_ | refine rg_q (q_load_refA sz32 rfl rfl rfl rfl) ?_
        refine rg_nil ?_
        first | refine aops_store sz32 rfl rfl (by first | exact .inl rfl | exact .inr ⟨_, rfl⟩) rfl rfl (by first | decide | simp; done | exact Nat.le_of_ble_eq_true rfl) rfl ?_ | refine aops_storeT (z := .rs _) sz32 rfl rfl rfl rfl (by first | decide | simp) rfl ?_ | refine aops_storeT (z := .d _) sz32 rfl rfl rfl rfl (by first | decide | simp) rfl ?_ | refine aops_storeTA sz32 rfl rfl (by first | exact .inl rfl | exact .inr ⟨_, rfl⟩) rfl rfl (by first | decide | simp) rfl ?_
        refine aops_q rfl (q_assign (x := .d (.v _)) rfl) ?_
        refine aops_nil ?_
        change Awp _ _ _ _ _
        refine awp_ret ?_
        refine ⟨_, (.cons (.cellA rfl rfl sz32 rfl) (.cons (.tmp (by first | exact .d _ | exact .rs rfl | exact .ref rfl | exact .tref rfl (.cons (.d _ rfl) (.cons (.rs rfl) .nil)))) .nil)), ?_⟩
        rw [hz]; rfl

theorem moved0_p (s : Spc) (hl : s.ar.el.length ≤ 1000) (h2 : s.pl.length ≤ 1000) (h3 : s.fl.length ≤ 1000) (he : 0 < s.ar.el.length) (hp : 0 < s.pl.length) (b : Int) (hfl : ∀ x ∈ s.fl, FlwOk x) : PC Tryz.prog 75 [.agg (spcC s), .v (.int .i64 (b))] (.tup [.agg (spcC (mvR0 s b).1), .v (.int .i64 ((mvR0 s b).2))]) := by
  by_cases h0 : s.fl.length = 0
  · exact movedN_p s hl h2 h3 he hp b h0
  · exact movedO_p s hl h2 h3 he hp b (by omega) hfl
set_option maxRecDepth 100000 in
theorem moved_p (s : Spc) (b : Int) : PC Tryz.prog 35 [.agg (spcC s), .v (.int .i64 (b))] (.tup [.agg (spcC (mvR s b).1), .v (.int .i64 ((mvR s b).2))]) := by
  refine pc_of_awpN Tryz.func35 rfl Tryz.ntmps35 (rs := [.cell 4 32, .tmp 5]) Tryz.results35 (by simp) fun w0 hmine hrnd hpn => ?_
  refine awp_seq ?_
  refine awp_region 1 mixed (by kernel_rfl) ?_
  refine rg_q (q_box rfl (by first | exact .inl rfl | exact .inr ⟨_, rfl⟩)) ?_
  refine rg_nil ?_
  refine aops_alloc zr32 rfl rfl rfl ?_
  refine aops_q rfl (q_assign (x := .d (.v _)) rfl) ?_
  refine aops_nil ?_
  change Awp _ _ _ _ _
  refine awp_seq ?_
  refine awp_seq ?_
  refine awp_region 7 mixed (by kernel_rfl) ?_
  first | refine rg_q (q_loadA sz32 rfl rfl rfl) ?_ | refine rg_q (q_load_refA sz32 rfl rfl rfl rfl) ?_
  first | refine rg_q (q_call en72 (.cons rfl .nil) rfl (checkSpecimen_p _)) ?_ | refine rg_q (q_callF en72 (.cons (by first | exact .d _ | exact .rs rfl | exact .ref rfl | exact .nil _ | exact .tref rfl (by repeat (first | exact .nil | refine .cons (.d _ rfl) ?_ | refine .cons (.rs rfl) ?_))) .nil) rfl (checkSpecimen_p _) (by first | exact .v _ | exact D.Flat.tupF (by repeat first | exact trivial | refine ⟨.v _, ?_⟩) | exact D.Flat.aggF (by repeat first | exact trivial | refine ⟨.v _, ?_⟩))) ?_
  refine rg_q (q_move (x := .d (.tup _)) rfl) ?_
  refine rg_q (q_extract rfl rfl) ?_
  refine rg_q (q_extract rfl rfl) ?_
  refine rg_q (q_assign (x := .d (.v _)) rfl) ?_
  refine rg_q (q_assign (x := .d (.v _)) rfl) ?_
  refine rg_nil ?_
  refine aops_nil ?_
  change Awp _ _ _ _ _
  refine awp_seq ?_
  refine awp_region 2 mixed (by kernel_rfl) ?_
  refine rg_q (q_move (x := .d (.v _)) rfl) ?_
  refine rg_q (q_neq rfl rfl) ?_
  refine rg_nil ?_
  refine aops_nil ?_
  change Awp _ _ _ _ _
  refine awp_cond rfl (fun hc2 => ?_) (fun hc2 => ?_)
  ·
    (try simp only [decide_eq_true_eq, decide_eq_false_iff_not, Bool.and_eq_true, Bool.or_eq_true, Bool.and_eq_false_iff, Bool.or_eq_false_iff, Bool.not_eq_true', Bool.not_eq_false', Bool.not_true, Bool.not_false, bif_and, bif_or, Bool.not_not, ne_eq, Decidable.not_not, not_true_eq_false, not_false_eq_true, Int.not_le, Int.not_lt] at hc2)
    have hz : mvR s b = (zSpc, (ckSpc s).2) := by unfold mvR; rw [if_pos hc2]
    refine awp_seq ?_
    refine awp_region 2 mixed (by kernel_rfl) ?_
    refine rg_q (q_build pl32 zr32 rfl .nil trivial rfl) ?_
    refine rg_q (q_move (x := .d (.v _)) rfl) ?_
    refine rg_nil ?_
    first | refine aops_store sz32 rfl rfl (by first | exact .inl rfl | exact .inr ⟨_, rfl⟩) rfl rfl (by first | decide | simp; done | exact Nat.le_of_ble_eq_true rfl) rfl ?_ | refine aops_storeT (z := .rs _) sz32 rfl rfl rfl rfl (by first | decide | simp) rfl ?_ | refine aops_storeT (z := .d _) sz32 rfl rfl rfl rfl (by first | decide | simp) rfl ?_ | refine aops_storeTA sz32 rfl rfl (by first | exact .inl rfl | exact .inr ⟨_, rfl⟩) rfl rfl (by first | decide | simp) rfl ?_
    refine aops_q rfl (q_assign (x := .d (.v _)) rfl) ?_
    refine aops_nil ?_
    change Awp _ _ _ _ _
    refine Awp.le (le_upB 4 (spcC zSpc) rfl (.cons (.nil 2) (.cons (.same _) (.cons (.same _) (.cons (.same _) (.cons (.same _) (.cons (.same _) (.cons (.same _) (.cons (.same _) (.cons (.same _) (.cons (.same _) (.cons (.same _) (.cons (.nil 1) (.cons (.nil 8) .nil)))))))))))))) ?_
    refine awp_ret ?_
    refine ⟨_, (.cons (.cellA rfl rfl sz32 rfl) (.cons (.tmp (by first | exact .d _ | exact .rs rfl | exact .ref rfl | exact .tref rfl (.cons (.d _ rfl) (.cons (.rs rfl) .nil)))) .nil)), ?_⟩
    rw [hz]; rfl
  ·
    (try simp only [decide_eq_true_eq, decide_eq_false_iff_not, Bool.and_eq_true, Bool.or_eq_true, Bool.and_eq_false_iff, Bool.or_eq_false_iff, Bool.not_eq_true', Bool.not_eq_false', Bool.not_true, Bool.not_false, bif_and, bif_or, Bool.not_not, ne_eq, Decidable.not_not, not_true_eq_false, not_false_eq_true, Int.not_le, Int.not_lt] at hc2)
    have h0 : (ckSpc s).2 = 0 := hc2
    have hsp := spc_ok h0
    have hok := hsp.ar
    have hn1 := hok.n1
    have hn2 := hok.n2
    have hp1 := hsp.p1
    have hp0 := (plsE_ok (spc_pulse h0)).1
    have hf1 := hsp.f1
    have hz : mvR s b = mvR0 s b := by unfold mvR; rw [if_neg (fun q => q h0)]
    refine awp_skip ?_
    change Awp _ _ _ _ _
    refine awp_seq ?_
    refine awp_region 5 mixed (by kernel_rfl) ?_
    first | refine rg_q (q_loadA sz32 rfl rfl rfl) ?_ | refine rg_q (q_load_refA sz32 rfl rfl rfl rfl) ?_
    refine rg_q (q_move (x := .d (.v _)) rfl) ?_
    first | refine rg_q (q_call en75 (.cons rfl (.cons rfl .nil)) rfl (moved0_p s (by omega) (by omega) (by omega) (by omega) (by omega) b hsp.fl)) ?_ | refine rg_q (q_callF en75 (.cons (by first | exact .d _ | exact .rs rfl | exact .ref rfl | exact .nil _ | exact .tref rfl (by repeat (first | exact .nil | refine .cons (.d _ rfl) ?_ | refine .cons (.rs rfl) ?_))) (.cons (by first | exact .d _ | exact .rs rfl | exact .ref rfl | exact .nil _ | exact .tref rfl (by repeat (first | exact .nil | refine .cons (.d _ rfl) ?_ | refine .cons (.rs rfl) ?_))) .nil)) rfl (moved0_p s (by omega) (by omega) (by omega) (by omega) (by omega) b hsp.fl) (by first | exact .v _ | exact D.Flat.tupF (by repeat first | exact trivial | refine ⟨.v _, ?_⟩) | exact D.Flat.aggF (by repeat first | exact trivial | refine ⟨.v _, ?_⟩))) ?_
    refine rg_q (q_extract rfl rfl) ?_
    refine rg_q (q_extract rfl rfl) ?_
    refine rg_nil ?_
    first | refine aops_store sz32 rfl rfl (by first | exact .inl rfl | exact .inr ⟨_, rfl⟩) rfl rfl (by first | decide | simp; done | exact Nat.le_of_ble_eq_true rfl) rfl ?_ | refine aops_storeT (z := .rs _) sz32 rfl rfl rfl rfl (by first | decide | simp) rfl ?_ | refine aops_storeT (z := .d _) sz32 rfl rfl rfl rfl (by first | decide | simp) rfl ?_ | refine aops_storeTA sz32 rfl rfl (by first | exact .inl rfl | exact .inr ⟨_, rfl⟩) rfl rfl (by first | decide | simp) rfl ?_
    refine aops_q rfl (q_assign (x := .d (.v _)) rfl) ?_
    refine aops_nil ?_
    change Awp _ _ _ _ _
    refine awp_ret ?_
    refine ⟨_, (.cons (.cellA rfl rfl sz32 rfl) (.cons (.tmp (by first | exact .d _ | exact .rs rfl | exact .ref rfl | exact .tref rfl (.cons (.d _ rfl) (.cons (.rs rfl) .nil)))) .nil)), ?_⟩
    rw [hz]; rfl

theorem eqi95 : EqI Tryz.prog 95 8 := by
  intro xs ys hx hy w
  match xs, ys, hx, hy with
  | [a0, a1, a2, a3, a4, a5, a6, a7], [b0, b1, b2, b3, b4, b5, b6, b7], _, _ =>
    refine ⟨fun x y => run_eqGuard_agg w .eql 95 x y _ _ (by kernel_rfl), fun x y => run_eqGuard_agg w .neq 95 x y _ _ (by kernel_rfl), ?_⟩
    have hf : (Tryz.prog.fieldsOf 95).toList = [⟨ "Kind", 3, 0, false, "", "", 0⟩, ⟨ "From", 50, 1, false, "", "", 8⟩, ⟨ "To", 50, 3, false, "", "", 24⟩, ⟨ "Pieces", 3, 5, false, "", "", 40⟩, ⟨ "Amplitude", 3, 6, false, "", "", 48⟩, ⟨ "Tip", 3, 7, false, "", "", 56⟩] := by kernel_rfl
    rw [show (10000 : Nat) = 9998 + 1 + 1 from rfl, run_equalIn_struct w (9998 + 1) 95 _ _ (by kernel_rfl) (by kernel_rfl), hf]
    have u3 := Tryz.underlying3
    have u50 := Tryz.underlying50
    have hl := eq38_low a1 a2 b1 b2 w
    have hl2 := eq38_low a3 a4 b3 b4 w
    simp only [iW] at hl hl2
    simp [Op.eqFields, part, isAgg, run_underlying u3, run_underlying u50, iW, run_equalIn_int, u3, Result.andThen, hl, hl2]
    (repeat' split) <;> simp_all
set_option maxRecDepth 100000 in
theorem spotsS_p (l : List (Int × Int)) (hl : l.length ≤ 1000) : PC Tryz.prog 111 [.sl 2 (l.map shC), .sl 2 (l.map shC)] (.v (.bool (true))) := by
  refine pc_of_awp Tryz.func111 rfl Tryz.ntmps111 (rs := [.tmp 4]) Tryz.results111 (by simp) fun w0 => ?_
  refine awp_seq ?_
  refine awp_region 1 mixed (by kernel_rfl) ?_
  refine rg_q (q_assign (x := .d (.v _)) rfl) ?_
  refine rg_nil ?_
  refine aops_nil ?_
  change Awp _ _ _ _ _
  refine awp_seq ?_
  refine awp_seq ?_
  refine awp_region 5 mixed (by kernel_rfl) ?_
  first | refine rg_q (q_move (x := .d (.sl _ _)) rfl) ?_ | refine rg_q (q_move (x := .rs _) rfl) ?_ | refine rg_q (q_move (x := .d (.v _)) rfl) ?_
  first | refine rg_q (q_len isl22 rfl (by first | exact len_map _ _ | rfl)) ?_ | refine rg_q (q_len_rs isl22 rfl rfl) ?_ | refine rg_q (q_len_nil isl22 rfl) ?_
  first | refine rg_q (q_move (x := .d (.sl _ _)) rfl) ?_ | refine rg_q (q_move (x := .rs _) rfl) ?_ | refine rg_q (q_move (x := .d (.v _)) rfl) ?_
  first | refine rg_q (q_len isl22 rfl (by first | exact len_map _ _ | rfl)) ?_ | refine rg_q (q_len_rs isl22 rfl rfl) ?_ | refine rg_q (q_len_nil isl22 rfl) ?_
  refine rg_q (q_neq rfl rfl) ?_
  refine rg_nil ?_
  refine aops_nil ?_
  change Awp _ _ _ _ _
  first | refine awp_len (t := 6) rfl (fun hl6 => ?_) | skip
  (try simp only [List.length_map] at hl6)
  first | refine awp_len (t := 8) rfl (fun hl8 => ?_) | skip
  (try simp only [List.length_map] at hl8)
  refine awp_cond rfl (fun hc1 => ?_) (fun hc1 => ?_)
  ·
    simp at hc1
  ·
    (try simp only [decide_eq_true_eq, decide_eq_false_iff_not, Bool.and_eq_true, Bool.or_eq_true, Bool.and_eq_false_iff, Bool.or_eq_false_iff, Bool.not_eq_true', Bool.not_eq_false', Bool.not_true, Bool.not_false, bif_and, bif_or, Bool.not_not, ne_eq, Decidable.not_not, not_true_eq_false, not_false_eq_true, Int.not_le, Int.not_lt] at hc1)
    refine awp_skip ?_
    change Awp _ _ _ _ _
    refine awp_seq ?_
    refine awp_seq ?_
    refine awp_region 1 mixed (by kernel_rfl) ?_
    refine rg_q (q_assign (x := .d (.v _)) rfl) ?_
    refine rg_nil ?_
    refine aops_nil ?_
    change Awp _ _ _ _ _
    refine awp_block ?_
    refine awp_loopH [4, 5, 11, 12, 13, 14, 15, 16, 17, 18, 19, 20, 21, 22, 23, 24, 25] [] (α := Nat) (fun k => [(5, T.i (k : Int))]) (fun k => []) (fun k => k ≤ l.length) (fun k => l.length - k) 0 (Nat.zero_le _) ?_ ?_
    · exact le_head (ms := []) (by repeat (first | exact Out.refl _ | exact Out.head rfl rfl | (refine Out.put ?_ rfl) | (refine Out.site ?_ rfl) | (refine Out.putn ?_) | (refine Out.headIn ?_ rfl rfl rfl) | (refine Out.called ?_ rfl rfl))) ⟨(by first | rfl | (simp; done)), trivial⟩ trivial rfl rfl rfl rfl
    ·
      intro k hk
      refine awp_seq ?_
      refine awp_seq ?_
      refine awp_region 4 mixed (by kernel_rfl) ?_
      refine rg_q (q_move (x := .d (.v _)) rfl) ?_
      first | refine rg_q (q_move (x := .d (.sl _ _)) rfl) ?_ | refine rg_q (q_move (x := .rs _) rfl) ?_ | refine rg_q (q_move (x := .d (.v _)) rfl) ?_
      first | refine rg_q (q_len isl22 rfl (by first | exact len_map _ _ | rfl)) ?_ | refine rg_q (q_len_rs isl22 rfl rfl) ?_ | refine rg_q (q_len_nil isl22 rfl) ?_
      refine rg_q (q_lss rfl rfl) ?_
      refine rg_nil ?_
      refine aops_nil ?_
      change Awp _ _ _ _ _
      first | refine awp_len (t := 12) rfl (fun hl12 => ?_) | skip
      (try simp only [List.length_map] at hl12)
      refine awp_cond rfl (fun hc4 => ?_) (fun hc4 => ?_)
      ·
        (try simp only [decide_eq_true_eq, decide_eq_false_iff_not, Bool.and_eq_true, Bool.or_eq_true, Bool.and_eq_false_iff, Bool.or_eq_false_iff, Bool.not_eq_true', Bool.not_eq_false', Bool.not_true, Bool.not_false, bif_and, bif_or, Bool.not_not, ne_eq, Decidable.not_not, not_true_eq_false, not_false_eq_true, Int.not_le, Int.not_lt] at hc4)
        have hlt : k < l.length := by omega
        obtain ⟨x, hx⟩ : ∃ x, l[k]? = some x := ⟨_, List.getElem?_eq_getElem hlt⟩
        refine awp_skip ?_
        change Awp _ _ _ _ _
        refine awp_seq ?_
        refine awp_block ?_
        refine awp_seq ?_
        refine awp_region 9 mixed (by kernel_rfl) ?_
        first | refine rg_q (q_move (x := .d (.sl _ _)) rfl) ?_ | refine rg_q (q_move (x := .rs _) rfl) ?_ | refine rg_q (q_move (x := .d (.v _)) rfl) ?_
        refine rg_q (q_move (x := .d (.v _)) rfl) ?_
        first | refine rg_q (q_indexAddr sl22 rfl rfl (by omega) (map_at (by omega) hx)) ?_ | refine rg_q (q_indexAddr_rs sl22 rfl rfl rfl (by omega) (by omega)) ?_
        first | refine rg_q (q_loadA (ds := [_, _]) sz50 rfl rfl rfl) ?_ | refine rg_q (q_load_refA (ds := [_, _]) sz50 rfl rfl rfl rfl) ?_
        first | refine rg_q (q_move (x := .d (.sl _ _)) rfl) ?_ | refine rg_q (q_move (x := .rs _) rfl) ?_ | refine rg_q (q_move (x := .d (.v _)) rfl) ?_
        refine rg_q (q_move (x := .d (.v _)) rfl) ?_
        first | refine rg_q (q_indexAddr sl22 rfl rfl (by omega) (map_at (by omega) hx)) ?_ | refine rg_q (q_indexAddr_rs sl22 rfl rfl rfl (by omega) (by omega)) ?_
        first | refine rg_q (q_loadA (ds := [_, _]) sz50 rfl rfl rfl) ?_ | refine rg_q (q_load_refA (ds := [_, _]) sz50 rfl rfl rfl rfl) ?_
        refine rg_q (q_neqI (xs := [_, _]) (ys := [_, _]) eqi50 rfl rfl rfl rfl) ?_
        refine rg_nil ?_
        refine aops_nil ?_
        change Awp _ _ _ _ _
        refine awp_cond rfl (fun hc6 => ?_) (fun hc6 => ?_)
        ·
          simp at hc6
        ·
          (try simp only [decide_eq_true_eq, decide_eq_false_iff_not, Bool.and_eq_true, Bool.or_eq_true, Bool.and_eq_false_iff, Bool.or_eq_false_iff, Bool.not_eq_true', Bool.not_eq_false', Bool.not_true, Bool.not_false, bif_and, bif_or, Bool.not_not, ne_eq, Decidable.not_not, not_true_eq_false, not_false_eq_true, Int.not_le, Int.not_lt] at hc6)
          refine awp_skip ?_
          change Awp _ _ _ _ _
          refine awp_region 3 mixed (by kernel_rfl) ?_
          refine rg_q (q_move (x := .d (.v _)) rfl) ?_
          refine rg_q (q_add rfl rfl (In64.mk (by omega) (by omega))) ?_
          refine rg_q (q_assign (x := .d (.v _)) rfl) ?_
          refine rg_nil ?_
          refine aops_nil ?_
          refine ⟨k + 1, by omega, by omega, ?_⟩
          exact le_head (ms := []) (by repeat (first | exact Out.refl _ | exact Out.head rfl rfl | (refine Out.put ?_ rfl) | (refine Out.site ?_ rfl) | (refine Out.putn ?_) | (refine Out.headIn ?_ rfl rfl rfl) | (refine Out.called ?_ rfl rfl))) ⟨(by first | rfl | (simp; done)), trivial⟩ trivial rfl rfl rfl rfl
      ·
        (try simp only [decide_eq_true_eq, decide_eq_false_iff_not, Bool.and_eq_true, Bool.or_eq_true, Bool.and_eq_false_iff, Bool.or_eq_false_iff, Bool.not_eq_true', Bool.not_eq_false', Bool.not_true, Bool.not_false, bif_and, bif_or, Bool.not_not, ne_eq, Decidable.not_not, not_true_eq_false, not_false_eq_true, Int.not_le, Int.not_lt] at hc4)
        refine awp_exit ?_
        change Awp _ _ _ _ _
        refine awp_seq ?_
        refine awp_region 1 mixed (by kernel_rfl) ?_
        refine rg_q (q_assign (x := .d (.v _)) rfl) ?_
        refine rg_nil ?_
        refine aops_nil ?_
        change Awp _ _ _ _ _
        refine awp_ret ?_
        refine ⟨_, (.cons (.tmp (by first | exact .d _ | exact .rs rfl | exact .ref rfl | exact .tref rfl (.cons (.d _ rfl) (.cons (.rs rfl) .nil)))) .nil), ?_⟩
        rfl
set_option maxRecDepth 100000 in
theorem intsS_p (l : List Int) (hl : l.length ≤ 1000) : PC Tryz.prog 77 [.sl 1 (l.map iC), .sl 1 (l.map iC)] (.v (.bool (true))) := by
  refine pc_of_awp Tryz.func77 rfl Tryz.ntmps77 (rs := [.tmp 4]) Tryz.results77 (by simp) fun w0 => ?_
  refine awp_seq ?_
  refine awp_region 1 mixed (by kernel_rfl) ?_
  refine rg_q (q_assign (x := .d (.v _)) rfl) ?_
  refine rg_nil ?_
  refine aops_nil ?_
  change Awp _ _ _ _ _
  refine awp_seq ?_
  refine awp_seq ?_
  refine awp_region 5 mixed (by kernel_rfl) ?_
  first | refine rg_q (q_move (x := .d (.sl _ _)) rfl) ?_ | refine rg_q (q_move (x := .rs _) rfl) ?_ | refine rg_q (q_move (x := .d (.v _)) rfl) ?_
  first | refine rg_q (q_len isl29 rfl (by first | exact len_map _ _ | rfl)) ?_ | refine rg_q (q_len_rs isl29 rfl rfl) ?_ | refine rg_q (q_len_nil isl29 rfl) ?_
  first | refine rg_q (q_move (x := .d (.sl _ _)) rfl) ?_ | refine rg_q (q_move (x := .rs _) rfl) ?_ | refine rg_q (q_move (x := .d (.v _)) rfl) ?_
  first | refine rg_q (q_len isl29 rfl (by first | exact len_map _ _ | rfl)) ?_ | refine rg_q (q_len_rs isl29 rfl rfl) ?_ | refine rg_q (q_len_nil isl29 rfl) ?_
  refine rg_q (q_neq rfl rfl) ?_
  refine rg_nil ?_
  refine aops_nil ?_
  change Awp _ _ _ _ _
  first | refine awp_len (t := 6) rfl (fun hl6 => ?_) | skip
  (try simp only [List.length_map] at hl6)
  first | refine awp_len (t := 8) rfl (fun hl8 => ?_) | skip
  (try simp only [List.length_map] at hl8)
  refine awp_cond rfl (fun hc1 => ?_) (fun hc1 => ?_)
  ·
    simp at hc1
  ·
    (try simp only [decide_eq_true_eq, decide_eq_false_iff_not, Bool.and_eq_true, Bool.or_eq_true, Bool.and_eq_false_iff, Bool.or_eq_false_iff, Bool.not_eq_true', Bool.not_eq_false', Bool.not_true, Bool.not_false, bif_and, bif_or, Bool.not_not, ne_eq, Decidable.not_not, not_true_eq_false, not_false_eq_true, Int.not_le, Int.not_lt] at hc1)
    refine awp_skip ?_
    change Awp _ _ _ _ _
    refine awp_seq ?_
    refine awp_seq ?_
    refine awp_region 1 mixed (by kernel_rfl) ?_
    refine rg_q (q_assign (x := .d (.v _)) rfl) ?_
    refine rg_nil ?_
    refine aops_nil ?_
    change Awp _ _ _ _ _
    refine awp_block ?_
    refine awp_loopH [4, 5, 11, 12, 13, 14, 15, 16, 17, 18, 19, 20, 21, 22, 23, 24, 25] [] (α := Nat) (fun k => [(5, T.i (k : Int))]) (fun k => []) (fun k => k ≤ l.length) (fun k => l.length - k) 0 (Nat.zero_le _) ?_ ?_
    · exact le_head (ms := []) (by repeat (first | exact Out.refl _ | exact Out.head rfl rfl | (refine Out.put ?_ rfl) | (refine Out.site ?_ rfl) | (refine Out.putn ?_) | (refine Out.headIn ?_ rfl rfl rfl) | (refine Out.called ?_ rfl rfl))) ⟨(by first | rfl | (simp; done)), trivial⟩ trivial rfl rfl rfl rfl
    ·
      intro k hk
      refine awp_seq ?_
      refine awp_seq ?_
      refine awp_region 4 mixed (by kernel_rfl) ?_
      refine rg_q (q_move (x := .d (.v _)) rfl) ?_
      first | refine rg_q (q_move (x := .d (.sl _ _)) rfl) ?_ | refine rg_q (q_move (x := .rs _) rfl) ?_ | refine rg_q (q_move (x := .d (.v _)) rfl) ?_
      first | refine rg_q (q_len isl29 rfl (by first | exact len_map _ _ | rfl)) ?_ | refine rg_q (q_len_rs isl29 rfl rfl) ?_ | refine rg_q (q_len_nil isl29 rfl) ?_
      refine rg_q (q_lss rfl rfl) ?_
      refine rg_nil ?_
      refine aops_nil ?_
      change Awp _ _ _ _ _
      first | refine awp_len (t := 12) rfl (fun hl12 => ?_) | skip
      (try simp only [List.length_map] at hl12)
      refine awp_cond rfl (fun hc4 => ?_) (fun hc4 => ?_)
      ·
        (try simp only [decide_eq_true_eq, decide_eq_false_iff_not, Bool.and_eq_true, Bool.or_eq_true, Bool.and_eq_false_iff, Bool.or_eq_false_iff, Bool.not_eq_true', Bool.not_eq_false', Bool.not_true, Bool.not_false, bif_and, bif_or, Bool.not_not, ne_eq, Decidable.not_not, not_true_eq_false, not_false_eq_true, Int.not_le, Int.not_lt] at hc4)
        have hlt : k < l.length := by omega
        obtain ⟨x, hx⟩ : ∃ x, l[k]? = some x := ⟨_, List.getElem?_eq_getElem hlt⟩
        refine awp_skip ?_
        change Awp _ _ _ _ _
        refine awp_seq ?_
        refine awp_block ?_
        refine awp_seq ?_
        refine awp_region 9 mixed (by kernel_rfl) ?_
        first | refine rg_q (q_move (x := .d (.sl _ _)) rfl) ?_ | refine rg_q (q_move (x := .rs _) rfl) ?_ | refine rg_q (q_move (x := .d (.v _)) rfl) ?_
        refine rg_q (q_move (x := .d (.v _)) rfl) ?_
        first | refine rg_q (q_indexAddr sl29 rfl rfl (by omega) (map_at (by omega) hx)) ?_ | refine rg_q (q_indexAddr_rs sl29 rfl rfl rfl (by omega) (by omega)) ?_
        first | refine rg_q (q_load sz3 rfl rfl) ?_ | refine rg_q (q_load_ref sz3 rfl rfl rfl) ?_ | refine rg_q (q_load_tb (x := .d _) sz3 rfl rfl rfl) ?_ | refine rg_q (q_load_tb (x := .rs _) sz3 rfl rfl rfl) ?_
        first | refine rg_q (q_move (x := .d (.sl _ _)) rfl) ?_ | refine rg_q (q_move (x := .rs _) rfl) ?_ | refine rg_q (q_move (x := .d (.v _)) rfl) ?_
        refine rg_q (q_move (x := .d (.v _)) rfl) ?_
        first | refine rg_q (q_indexAddr sl29 rfl rfl (by omega) (map_at (by omega) hx)) ?_ | refine rg_q (q_indexAddr_rs sl29 rfl rfl rfl (by omega) (by omega)) ?_
        first | refine rg_q (q_load sz3 rfl rfl) ?_ | refine rg_q (q_load_ref sz3 rfl rfl rfl) ?_ | refine rg_q (q_load_tb (x := .d _) sz3 rfl rfl rfl) ?_ | refine rg_q (q_load_tb (x := .rs _) sz3 rfl rfl rfl) ?_
        refine rg_q (q_neq rfl rfl) ?_
        refine rg_nil ?_
        refine aops_nil ?_
        change Awp _ _ _ _ _
        refine awp_cond rfl (fun hc6 => ?_) (fun hc6 => ?_)
        ·
          simp at hc6
        ·
          (try simp only [decide_eq_true_eq, decide_eq_false_iff_not, Bool.and_eq_true, Bool.or_eq_true, Bool.and_eq_false_iff, Bool.or_eq_false_iff, Bool.not_eq_true', Bool.not_eq_false', Bool.not_true, Bool.not_false, bif_and, bif_or, Bool.not_not, ne_eq, Decidable.not_not, not_true_eq_false, not_false_eq_true, Int.not_le, Int.not_lt] at hc6)
          refine awp_skip ?_
          change Awp _ _ _ _ _
          refine awp_region 3 mixed (by kernel_rfl) ?_
          refine rg_q (q_move (x := .d (.v _)) rfl) ?_
          refine rg_q (q_add rfl rfl (In64.mk (by omega) (by omega))) ?_
          refine rg_q (q_assign (x := .d (.v _)) rfl) ?_
          refine rg_nil ?_
          refine aops_nil ?_
          refine ⟨k + 1, by omega, by omega, ?_⟩
          exact le_head (ms := []) (by repeat (first | exact Out.refl _ | exact Out.head rfl rfl | (refine Out.put ?_ rfl) | (refine Out.site ?_ rfl) | (refine Out.putn ?_) | (refine Out.headIn ?_ rfl rfl rfl) | (refine Out.called ?_ rfl rfl))) ⟨(by first | rfl | (simp; done)), trivial⟩ trivial rfl rfl rfl rfl
      ·
        (try simp only [decide_eq_true_eq, decide_eq_false_iff_not, Bool.and_eq_true, Bool.or_eq_true, Bool.and_eq_false_iff, Bool.or_eq_false_iff, Bool.not_eq_true', Bool.not_eq_false', Bool.not_true, Bool.not_false, bif_and, bif_or, Bool.not_not, ne_eq, Decidable.not_not, not_true_eq_false, not_false_eq_true, Int.not_le, Int.not_lt] at hc4)
        refine awp_exit ?_
        change Awp _ _ _ _ _
        refine awp_seq ?_
        refine awp_region 1 mixed (by kernel_rfl) ?_
        refine rg_q (q_assign (x := .d (.v _)) rfl) ?_
        refine rg_nil ?_
        refine aops_nil ?_
        change Awp _ _ _ _ _
        refine awp_ret ?_
        refine ⟨_, (.cons (.tmp (by first | exact .d _ | exact .rs rfl | exact .ref rfl | exact .tref rfl (.cons (.d _ rfl) (.cons (.rs rfl) .nil)))) .nil), ?_⟩
        rfl
set_option maxRecDepth 100000 in
theorem sameArr_p (a : Arr) (hl : a.el.length ≤ 1000) : PC Tryz.prog 76 [.agg (arrC a), .agg (arrC a)] (.v (.bool (true))) := by
  refine pc_of_awp Tryz.func76 rfl Tryz.ntmps76 (rs := [.tmp 4]) Tryz.results76 (by simp) fun w0 => ?_
  refine awp_seq ?_
  refine awp_region 3 mixed (by kernel_rfl) ?_
  refine rg_q (q_box rfl (by first | exact .inl rfl | exact .inr ⟨_, rfl⟩)) ?_
  refine rg_q (q_box rfl (by first | exact .inl rfl | exact .inr ⟨_, rfl⟩)) ?_
  refine rg_q (q_assign (x := .d (.v _)) rfl) ?_
  refine rg_nil ?_
  refine aops_nil ?_
  change Awp _ _ _ _ _
  refine awp_seq ?_
  refine awp_region 27 mixed (by kernel_rfl) ?_
  first | refine rg_q (q_fieldAddr fld28_0 rfl) ?_ | refine rg_q (q_fieldAddr_ref fld28_0 rfl) ?_
  first | refine rg_q (q_load sz22 rfl rfl) ?_ | refine rg_q (q_load_ref sz22 rfl rfl rfl) ?_ | refine rg_q (q_load_tb (x := .d _) sz22 rfl rfl rfl) ?_ | refine rg_q (q_load_tb (x := .rs _) sz22 rfl rfl rfl) ?_
  first | refine rg_q (q_fieldAddr fld28_0 rfl) ?_ | refine rg_q (q_fieldAddr_ref fld28_0 rfl) ?_
  first | refine rg_q (q_load sz22 rfl rfl) ?_ | refine rg_q (q_load_ref sz22 rfl rfl rfl) ?_ | refine rg_q (q_load_tb (x := .d _) sz22 rfl rfl rfl) ?_ | refine rg_q (q_load_tb (x := .rs _) sz22 rfl rfl rfl) ?_
  first | refine rg_q (q_call en111 (.cons rfl (.cons rfl .nil)) rfl (spotsS_p a.el hl)) ?_ | refine rg_q (q_callF en111 (.cons (by first | exact .d _ | exact .rs rfl | exact .ref rfl | exact .nil _ | exact .tref rfl (by repeat (first | exact .nil | refine .cons (.d _ rfl) ?_ | refine .cons (.rs rfl) ?_))) (.cons (by first | exact .d _ | exact .rs rfl | exact .ref rfl | exact .nil _ | exact .tref rfl (by repeat (first | exact .nil | refine .cons (.d _ rfl) ?_ | refine .cons (.rs rfl) ?_))) .nil)) rfl (spotsS_p a.el hl) (by first | exact .v _ | exact D.Flat.tupF (by repeat first | exact trivial | refine ⟨.v _, ?_⟩) | exact D.Flat.aggF (by repeat first | exact trivial | refine ⟨.v _, ?_⟩))) ?_
  refine rg_q (q_move (x := .d (.v _)) rfl) ?_
  first | refine rg_g rfl rfl (fun hG => (q_fieldAddr fld28_1 rfl)) ?_ | refine rg_g rfl rfl (fun hG => (q_fieldAddr_ref fld28_1 rfl)) ?_
  first | refine rg_g rfl rfl (fun hG => (q_loadA (ds := [_, _, _, _]) sz24 rfl rfl rfl)) ?_ | refine rg_g rfl rfl (fun hG => (q_load_refA (ds := [_, _, _, _]) sz24 rfl rfl rfl rfl)) ?_
  first | refine rg_g rfl rfl (fun hG => (q_fieldAddr fld28_1 rfl)) ?_ | refine rg_g rfl rfl (fun hG => (q_fieldAddr_ref fld28_1 rfl)) ?_
  first | refine rg_g rfl rfl (fun hG => (q_loadA (ds := [_, _, _, _]) sz24 rfl rfl rfl)) ?_ | refine rg_g rfl rfl (fun hG => (q_load_refA (ds := [_, _, _, _]) sz24 rfl rfl rfl rfl)) ?_
  refine rg_g rfl rfl (fun hG => (q_eqlI (xs := [_, _, _, _]) (ys := [_, _, _, _]) eqi24 rfl rfl rfl rfl)) ?_
  first | refine rg_pick rfl rfl rfl rfl rfl rfl ?_ | refine rg_q (q_pick rfl rfl rfl) ?_
  refine rg_q (q_move (x := .d (.v _)) rfl) ?_
  first | refine rg_g rfl rfl (fun hG => (q_fieldAddr fld28_2 rfl)) ?_ | refine rg_g rfl rfl (fun hG => (q_fieldAddr_ref fld28_2 rfl)) ?_
  first | refine rg_g rfl rfl (fun hG => (q_loadA (ds := [_, _, _, _]) sz24 rfl rfl rfl)) ?_ | refine rg_g rfl rfl (fun hG => (q_load_refA (ds := [_, _, _, _]) sz24 rfl rfl rfl rfl)) ?_
  first | refine rg_g rfl rfl (fun hG => (q_fieldAddr fld28_2 rfl)) ?_ | refine rg_g rfl rfl (fun hG => (q_fieldAddr_ref fld28_2 rfl)) ?_
  first | refine rg_g rfl rfl (fun hG => (q_loadA (ds := [_, _, _, _]) sz24 rfl rfl rfl)) ?_ | refine rg_g rfl rfl (fun hG => (q_load_refA (ds := [_, _, _, _]) sz24 rfl rfl rfl rfl)) ?_
  refine rg_g rfl rfl (fun hG => (q_eqlI (xs := [_, _, _, _]) (ys := [_, _, _, _]) eqi24 rfl rfl rfl rfl)) ?_
  first | refine rg_pick rfl rfl rfl rfl rfl rfl ?_ | refine rg_q (q_pick rfl rfl rfl) ?_
  refine rg_q (q_move (x := .d (.v _)) rfl) ?_
  first | refine rg_g rfl rfl (fun hG => (q_fieldAddr fld28_3 rfl)) ?_ | refine rg_g rfl rfl (fun hG => (q_fieldAddr_ref fld28_3 rfl)) ?_
  first | refine rg_g rfl rfl (fun hG => (q_loadA (ds := [_, _]) sz26 rfl rfl rfl)) ?_ | refine rg_g rfl rfl (fun hG => (q_load_refA (ds := [_, _]) sz26 rfl rfl rfl rfl)) ?_
  first | refine rg_g rfl rfl (fun hG => (q_fieldAddr fld28_3 rfl)) ?_ | refine rg_g rfl rfl (fun hG => (q_fieldAddr_ref fld28_3 rfl)) ?_
  first | refine rg_g rfl rfl (fun hG => (q_loadA (ds := [_, _]) sz26 rfl rfl rfl)) ?_ | refine rg_g rfl rfl (fun hG => (q_load_refA (ds := [_, _]) sz26 rfl rfl rfl rfl)) ?_
  refine rg_g rfl rfl (fun hG => (q_eqlI (xs := [_, _]) (ys := [_, _]) eqi26 rfl rfl rfl rfl)) ?_
  first | refine rg_pick rfl rfl rfl rfl rfl rfl ?_ | refine rg_q (q_pick rfl rfl rfl) ?_
  refine rg_q (q_assign (x := .d (.v _)) rfl) ?_
  refine rg_nil ?_
  refine aops_nil ?_
  change Awp _ _ _ _ _
  refine awp_ret ?_
  refine ⟨_, (.cons (.tmp (by first | exact .d _ | exact .rs rfl | exact .ref rfl | exact .tref rfl (.cons (.d _ rfl) (.cons (.rs rfl) .nil)))) .nil), ?_⟩
  (simp [retD]; done)
set_option maxRecDepth 100000 in
theorem same_p (s : Spc) (hl : s.ar.el.length ≤ 1000) (h2 : s.pl.length ≤ 1000) (h3 : s.fl.length ≤ 1000) : PC Tryz.prog 36 [.agg (spcC s), .agg (spcC s)] (.v (.bool (true))) := by
  refine pc_of_awp Tryz.func36 rfl Tryz.ntmps36 (rs := [.tmp 4]) Tryz.results36 (by simp) fun w0 => ?_
  refine awp_seq ?_
  refine awp_region 3 mixed (by kernel_rfl) ?_
  refine rg_q (q_box rfl (by first | exact .inl rfl | exact .inr ⟨_, rfl⟩)) ?_
  refine rg_q (q_box rfl (by first | exact .inl rfl | exact .inr ⟨_, rfl⟩)) ?_
  refine rg_q (q_assign (x := .d (.v _)) rfl) ?_
  refine rg_nil ?_
  refine aops_nil ?_
  change Awp _ _ _ _ _
  refine awp_seq ?_
  refine awp_seq ?_
  refine awp_region 23 mixed (by kernel_rfl) ?_
  first | refine rg_q (q_fieldAddr fld32_0 rfl) ?_ | refine rg_q (q_fieldAddr_ref fld32_0 rfl) ?_
  first | refine rg_q (q_loadA (ds := [_, _, _, _, _, _, _, _, _, _, _]) sz28 rfl rfl rfl) ?_ | refine rg_q (q_load_refA (ds := [_, _, _, _, _, _, _, _, _, _, _]) sz28 rfl rfl rfl rfl) ?_
  first | refine rg_q (q_fieldAddr fld32_0 rfl) ?_ | refine rg_q (q_fieldAddr_ref fld32_0 rfl) ?_
  first | refine rg_q (q_loadA (ds := [_, _, _, _, _, _, _, _, _, _, _]) sz28 rfl rfl rfl) ?_ | refine rg_q (q_load_refA (ds := [_, _, _, _, _, _, _, _, _, _, _]) sz28 rfl rfl rfl rfl) ?_
  first | refine rg_q (q_call en76 (.cons rfl (.cons rfl .nil)) rfl (sameArr_p s.ar hl)) ?_ | refine rg_q (q_callF en76 (.cons (by first | exact .d _ | exact .rs rfl | exact .ref rfl | exact .nil _ | exact .tref rfl (by repeat (first | exact .nil | refine .cons (.d _ rfl) ?_ | refine .cons (.rs rfl) ?_))) (.cons (by first | exact .d _ | exact .rs rfl | exact .ref rfl | exact .nil _ | exact .tref rfl (by repeat (first | exact .nil | refine .cons (.d _ rfl) ?_ | refine .cons (.rs rfl) ?_))) .nil)) rfl (sameArr_p s.ar hl) (by first | exact .v _ | exact D.Flat.tupF (by repeat first | exact trivial | refine ⟨.v _, ?_⟩) | exact D.Flat.aggF (by repeat first | exact trivial | refine ⟨.v _, ?_⟩))) ?_
  refine rg_q (q_not rfl) ?_
  refine rg_q (q_move (x := .d (.v _)) rfl) ?_
  first | refine rg_g rfl rfl (fun hG => (q_fieldAddr fld32_1 rfl)) ?_ | refine rg_g rfl rfl (fun hG => (q_fieldAddr_ref fld32_1 rfl)) ?_
  first | refine rg_g rfl rfl (fun hG => (q_load sz29 rfl rfl)) ?_ | refine rg_g rfl rfl (fun hG => (q_load_ref sz29 rfl rfl rfl)) ?_ | refine rg_g rfl rfl (fun hG => (q_load_tb (x := .d _) sz29 rfl rfl rfl)) ?_ | refine rg_g rfl rfl (fun hG => (q_load_tb (x := .rs _) sz29 rfl rfl rfl)) ?_
  first | refine rg_g rfl rfl (fun hG => (q_fieldAddr fld32_1 rfl)) ?_ | refine rg_g rfl rfl (fun hG => (q_fieldAddr_ref fld32_1 rfl)) ?_
  first | refine rg_g rfl rfl (fun hG => (q_load sz29 rfl rfl)) ?_ | refine rg_g rfl rfl (fun hG => (q_load_ref sz29 rfl rfl rfl)) ?_ | refine rg_g rfl rfl (fun hG => (q_load_tb (x := .d _) sz29 rfl rfl rfl)) ?_ | refine rg_g rfl rfl (fun hG => (q_load_tb (x := .rs _) sz29 rfl rfl rfl)) ?_
  first | refine rg_g rfl rfl (fun hG => (q_call en77 (.cons rfl (.cons rfl .nil)) rfl (intsS_p s.pl h2))) ?_ | refine rg_g rfl rfl (fun hG => (q_callF en77 (.cons (by first | exact .d _ | exact .rs rfl | exact .ref rfl | exact .nil _ | exact .tref rfl (by repeat (first | exact .nil | refine .cons (.d _ rfl) ?_ | refine .cons (.rs rfl) ?_))) (.cons (by first | exact .d _ | exact .rs rfl | exact .ref rfl | exact .nil _ | exact .tref rfl (by repeat (first | exact .nil | refine .cons (.d _ rfl) ?_ | refine .cons (.rs rfl) ?_))) .nil)) rfl (intsS_p s.pl h2) (by first | exact .v _ | exact D.Flat.tupF (by repeat first | exact trivial | refine ⟨.v _, ?_⟩) | exact D.Flat.aggF (by repeat first | exact trivial | refine ⟨.v _, ?_⟩)))) ?_
  refine rg_g rfl rfl (fun hG => (q_not rfl)) ?_
  first | refine rg_pick rfl rfl rfl rfl rfl rfl ?_ | refine rg_q (q_pick rfl rfl rfl) ?_
  refine rg_q (q_move (x := .d (.v _)) rfl) ?_
  first | refine rg_g rfl rfl (fun hG => (q_fieldAddr fld32_2 rfl)) ?_ | refine rg_g rfl rfl (fun hG => (q_fieldAddr_ref fld32_2 rfl)) ?_
  first | refine rg_g rfl rfl (fun hG => (q_load sz30 rfl rfl)) ?_ | refine rg_g rfl rfl (fun hG => (q_load_ref sz30 rfl rfl rfl)) ?_ | refine rg_g rfl rfl (fun hG => (q_load_tb (x := .d _) sz30 rfl rfl rfl)) ?_ | refine rg_g rfl rfl (fun hG => (q_load_tb (x := .rs _) sz30 rfl rfl rfl)) ?_
  first | refine rg_g rfl rfl (fun hG => (q_len isl30 rfl (by first | exact len_map _ _ | rfl))) ?_ | refine rg_g rfl rfl (fun hG => (q_len_rs isl30 rfl rfl)) ?_ | refine rg_g rfl rfl (fun hG => (q_len_nil isl30 rfl)) ?_
  first | refine rg_g rfl rfl (fun hG => (q_fieldAddr fld32_2 rfl)) ?_ | refine rg_g rfl rfl (fun hG => (q_fieldAddr_ref fld32_2 rfl)) ?_
  first | refine rg_g rfl rfl (fun hG => (q_load sz30 rfl rfl)) ?_ | refine rg_g rfl rfl (fun hG => (q_load_ref sz30 rfl rfl rfl)) ?_ | refine rg_g rfl rfl (fun hG => (q_load_tb (x := .d _) sz30 rfl rfl rfl)) ?_ | refine rg_g rfl rfl (fun hG => (q_load_tb (x := .rs _) sz30 rfl rfl rfl)) ?_
  first | refine rg_g rfl rfl (fun hG => (q_len isl30 rfl (by first | exact len_map _ _ | rfl))) ?_ | refine rg_g rfl rfl (fun hG => (q_len_rs isl30 rfl rfl)) ?_ | refine rg_g rfl rfl (fun hG => (q_len_nil isl30 rfl)) ?_
  refine rg_g rfl rfl (fun hG => (q_neq rfl rfl)) ?_
  first | refine rg_pick rfl rfl rfl rfl rfl rfl ?_ | refine rg_q (q_pick rfl rfl rfl) ?_
  refine rg_nil ?_
  refine aops_nil ?_
  change Awp _ _ _ _ _
  refine awp_cond rfl (fun hc1 => ?_) (fun hc1 => ?_)
  ·
    simp at hc1
  ·
    (try simp only [decide_eq_true_eq, decide_eq_false_iff_not, Bool.and_eq_true, Bool.or_eq_true, Bool.and_eq_false_iff, Bool.or_eq_false_iff, Bool.not_eq_true', Bool.not_eq_false', Bool.not_true, Bool.not_false, bif_and, bif_or, Bool.not_not, ne_eq, Decidable.not_not, not_true_eq_false, not_false_eq_true, Int.not_le, Int.not_lt] at hc1)
    refine awp_skip ?_
    change Awp _ _ _ _ _
    refine awp_seq ?_
    refine awp_seq ?_
    refine awp_region 1 mixed (by kernel_rfl) ?_
    refine rg_q (q_assign (x := .d (.v _)) rfl) ?_
    refine rg_nil ?_
    refine aops_nil ?_
    change Awp _ _ _ _ _
    refine awp_block ?_
    refine awp_loopH [4, 5, 29, 30, 31, 32, 33, 34, 35, 36, 37, 38, 39, 40, 41, 42, 43, 44, 45, 46] [] (α := Nat) (fun k => [(5, T.i (k : Int))]) (fun k => []) (fun k => k ≤ s.fl.length) (fun k => s.fl.length - k) 0 (Nat.zero_le _) ?_ ?_
    · exact le_head (ms := []) (by repeat (first | exact Out.refl _ | exact Out.head rfl rfl | (refine Out.put ?_ rfl) | (refine Out.site ?_ rfl) | (refine Out.putn ?_) | (refine Out.headIn ?_ rfl rfl rfl) | (refine Out.called ?_ rfl rfl))) ⟨(by first | rfl | (simp; done)), trivial⟩ trivial rfl rfl rfl rfl
    ·
      intro k hk
      refine awp_seq ?_
      refine awp_seq ?_
      refine awp_region 5 mixed (by kernel_rfl) ?_
      refine rg_q (q_move (x := .d (.v _)) rfl) ?_
      first | refine rg_q (q_fieldAddr fld32_2 rfl) ?_ | refine rg_q (q_fieldAddr_ref fld32_2 rfl) ?_
      first | refine rg_q (q_load sz30 rfl rfl) ?_ | refine rg_q (q_load_ref sz30 rfl rfl rfl) ?_ | refine rg_q (q_load_tb (x := .d _) sz30 rfl rfl rfl) ?_ | refine rg_q (q_load_tb (x := .rs _) sz30 rfl rfl rfl) ?_
      first | refine rg_q (q_len isl30 rfl (by first | exact len_map _ _ | rfl)) ?_ | refine rg_q (q_len_rs isl30 rfl rfl) ?_ | refine rg_q (q_len_nil isl30 rfl) ?_
      refine rg_q (q_lss rfl rfl) ?_
      refine rg_nil ?_
      refine aops_nil ?_
      change Awp _ _ _ _ _
      first | refine awp_len (t := 31) rfl (fun hl31 => ?_) | skip
      (try simp only [List.length_map] at hl31)
      refine awp_cond rfl (fun hc4 => ?_) (fun hc4 => ?_)
      ·
        (try simp only [decide_eq_true_eq, decide_eq_false_iff_not, Bool.and_eq_true, Bool.or_eq_true, Bool.and_eq_false_iff, Bool.or_eq_false_iff, Bool.not_eq_true', Bool.not_eq_false', Bool.not_true, Bool.not_false, bif_and, bif_or, Bool.not_not, ne_eq, Decidable.not_not, not_true_eq_false, not_false_eq_true, Int.not_le, Int.not_lt] at hc4)
        have hlt : k < s.fl.length := by omega
        obtain ⟨x, hx⟩ : ∃ x, s.fl[k]? = some x := ⟨_, List.getElem?_eq_getElem hlt⟩
        refine awp_skip ?_
        change Awp _ _ _ _ _
        refine awp_seq ?_
        refine awp_block ?_
        refine awp_seq ?_
        refine awp_region 11 mixed (by kernel_rfl) ?_
        first | refine rg_q (q_fieldAddr fld32_2 rfl) ?_ | refine rg_q (q_fieldAddr_ref fld32_2 rfl) ?_
        first | refine rg_q (q_load sz30 rfl rfl) ?_ | refine rg_q (q_load_ref sz30 rfl rfl rfl) ?_ | refine rg_q (q_load_tb (x := .d _) sz30 rfl rfl rfl) ?_ | refine rg_q (q_load_tb (x := .rs _) sz30 rfl rfl rfl) ?_
        refine rg_q (q_move (x := .d (.v _)) rfl) ?_
        first | refine rg_q (q_indexAddr sl30 rfl rfl (by omega) (map_at (by omega) hx)) ?_ | refine rg_q (q_indexAddr_rs sl30 rfl rfl rfl (by omega) (by omega)) ?_
        first | refine rg_q (q_loadA (ds := [_, _, _, _, _, _, _, _]) sz95 rfl rfl rfl) ?_ | refine rg_q (q_load_refA (ds := [_, _, _, _, _, _, _, _]) sz95 rfl rfl rfl rfl) ?_
        first | refine rg_q (q_fieldAddr fld32_2 rfl) ?_ | refine rg_q (q_fieldAddr_ref fld32_2 rfl) ?_
        first | refine rg_q (q_load sz30 rfl rfl) ?_ | refine rg_q (q_load_ref sz30 rfl rfl rfl) ?_ | refine rg_q (q_load_tb (x := .d _) sz30 rfl rfl rfl) ?_ | refine rg_q (q_load_tb (x := .rs _) sz30 rfl rfl rfl) ?_
        refine rg_q (q_move (x := .d (.v _)) rfl) ?_
        first | refine rg_q (q_indexAddr sl30 rfl rfl (by omega) (map_at (by omega) hx)) ?_ | refine rg_q (q_indexAddr_rs sl30 rfl rfl rfl (by omega) (by omega)) ?_
        first | refine rg_q (q_loadA (ds := [_, _, _, _, _, _, _, _]) sz95 rfl rfl rfl) ?_ | refine rg_q (q_load_refA (ds := [_, _, _, _, _, _, _, _]) sz95 rfl rfl rfl rfl) ?_
        refine rg_q (q_neqI (xs := [_, _, _, _, _, _, _, _]) (ys := [_, _, _, _, _, _, _, _]) eqi95 rfl rfl rfl rfl) ?_
        refine rg_nil ?_
        refine aops_nil ?_
        change Awp _ _ _ _ _
        refine awp_cond rfl (fun hc6 => ?_) (fun hc6 => ?_)
        ·
          simp at hc6
        ·
          (try simp only [decide_eq_true_eq, decide_eq_false_iff_not, Bool.and_eq_true, Bool.or_eq_true, Bool.and_eq_false_iff, Bool.or_eq_false_iff, Bool.not_eq_true', Bool.not_eq_false', Bool.not_true, Bool.not_false, bif_and, bif_or, Bool.not_not, ne_eq, Decidable.not_not, not_true_eq_false, not_false_eq_true, Int.not_le, Int.not_lt] at hc6)
          refine awp_skip ?_
          change Awp _ _ _ _ _
          refine awp_region 3 mixed (by kernel_rfl) ?_
          refine rg_q (q_move (x := .d (.v _)) rfl) ?_
          refine rg_q (q_add rfl rfl (In64.mk (by omega) (by omega))) ?_
          refine rg_q (q_assign (x := .d (.v _)) rfl) ?_
          refine rg_nil ?_
          refine aops_nil ?_
          refine ⟨k + 1, by omega, by omega, ?_⟩
          exact le_head (ms := []) (by repeat (first | exact Out.refl _ | exact Out.head rfl rfl | (refine Out.put ?_ rfl) | (refine Out.site ?_ rfl) | (refine Out.putn ?_) | (refine Out.headIn ?_ rfl rfl rfl) | (refine Out.called ?_ rfl rfl))) ⟨(by first | rfl | (simp; done)), trivial⟩ trivial rfl rfl rfl rfl
      ·
        (try simp only [decide_eq_true_eq, decide_eq_false_iff_not, Bool.and_eq_true, Bool.or_eq_true, Bool.and_eq_false_iff, Bool.or_eq_false_iff, Bool.not_eq_true', Bool.not_eq_false', Bool.not_true, Bool.not_false, bif_and, bif_or, Bool.not_not, ne_eq, Decidable.not_not, not_true_eq_false, not_false_eq_true, Int.not_le, Int.not_lt] at hc4)
        refine awp_exit ?_
        change Awp _ _ _ _ _
        refine awp_seq ?_
        refine awp_region 1 mixed (by kernel_rfl) ?_
        refine rg_q (q_assign (x := .d (.v _)) rfl) ?_
        refine rg_nil ?_
        refine aops_nil ?_
        change Awp _ _ _ _ _
        refine awp_ret ?_
        refine ⟨_, (.cons (.tmp (by first | exact .d _ | exact .rs rfl | exact .ref rfl | exact .tref rfl (.cons (.d _ rfl) (.cons (.rs rfl) .nil)))) .nil), ?_⟩
        rfl

theorem flw_to {x : Flw} (h : flwE x = 0) : -100000 ≤ x.to_.2 ∧ x.to_.2 ≤ 100000 := by
  have hok := flw_ok h
  by_cases hk : x.kd = 0
  · unfold flwE at h
    by_cases h1 : ¬ (0 ≤ x.kd ∧ x.kd ≤ 1)
    · rw [if_pos h1] at h; cases h
    rw [if_neg h1] at h
    by_cases h2 : flwE0 x ≠ 0
    · rw [if_pos h2] at h; exact absurd h h2
    rw [if_neg h2, if_pos hk] at h
    unfold poreE at h
    have := (when_zero (show (3 : Int) ≠ 0 by decide)).1 h
    simp at this
    omega
  · exact (hok.pl hk).2.1
theorem spc_fls {s : Spc} (h : (ckSpc s).2 = 0) : ∀ x ∈ s.fl, flwE x = 0 := by
  unfold ckSpc at h
  by_cases h1 : (ckArr s.ar).2 ≠ 0
  · rw [if_pos h1] at h; exact absurd h h1
  rw [if_neg h1] at h
  by_cases h2 : spcE0 s ≠ 0
  · rw [if_pos h2] at h; exact absurd h h2
  rw [if_neg h2] at h
  exact ckFls_ok h
set_option maxRecDepth 100000 in
theorem rmovedO_p (s : Spc) (hl : s.ar.el.length ≤ 1000) (h2 : s.pl.length ≤ 1000) (h3 : s.fl.length ≤ 1000) (b : Int) (h0 : 0 < s.fl.length) (hfl : ∀ x ∈ s.fl, FlwOk x) (hto : ∀ x ∈ s.fl, -100000 ≤ x.to_.2 ∧ x.to_.2 ≤ 100000) : PC Tryz.prog 38 [.agg (spcC s), .v (.int .i64 (b))] (.tup [.agg (spcC (mvR0 s b).1), .v (.int .i64 ((mvR0 s b).2))]) := by
  have hml : (s.fl.map flwC).length = s.fl.length := List.length_map _
  refine pc_of_awpN Tryz.func38 rfl Tryz.ntmps38 (rs := [.cell 4 32, .tmp 5]) Tryz.results38 (by simp) fun w0 hmine hrnd hpn => ?_
  refine awp_seq ?_
  refine awp_region 1 mixed (by kernel_rfl) ?_
  refine rg_q (q_box rfl (by first | exact .inl rfl | exact .inr ⟨_, rfl⟩)) ?_
  refine rg_nil ?_
  refine aops_alloc zr32 rfl rfl rfl ?_
  refine aops_q rfl (q_assign (x := .d (.v _)) rfl) ?_
  refine aops_nil ?_
  change Awp _ _ _ _ _
  refine awp_seq ?_
  refine awp_seq ?_
  refine awp_region 3 mixed (by kernel_rfl) ?_
  refine rg_q (q_move (x := .d (.v _)) rfl) ?_
  first | refine rg_q (q_call en33 (.cons rfl (.cons rfl (.cons rfl .nil))) rfl (within4_p _ _ _)) ?_ | refine rg_q (q_callF en33 (.cons (by first | exact .d _ | exact .rs rfl | exact .ref rfl | exact .nil _ | exact .tref rfl (by repeat (first | exact .nil | refine .cons (.d _ rfl) ?_ | refine .cons (.rs rfl) ?_))) (.cons (by first | exact .d _ | exact .rs rfl | exact .ref rfl | exact .nil _ | exact .tref rfl (by repeat (first | exact .nil | refine .cons (.d _ rfl) ?_ | refine .cons (.rs rfl) ?_))) (.cons (by first | exact .d _ | exact .rs rfl | exact .ref rfl | exact .nil _ | exact .tref rfl (by repeat (first | exact .nil | refine .cons (.d _ rfl) ?_ | refine .cons (.rs rfl) ?_))) .nil))) rfl (within4_p _ _ _) (by first | exact .v _ | exact D.Flat.tupF (by repeat first | exact trivial | refine ⟨.v _, ?_⟩) | exact D.Flat.aggF (by repeat first | exact trivial | refine ⟨.v _, ?_⟩))) ?_
  refine rg_q (q_not rfl) ?_
  refine rg_nil ?_
  refine aops_nil ?_
  change Awp _ _ _ _ _
  refine awp_cond rfl (fun hc1 => ?_) (fun hc1 => ?_)
  ·
    (try simp only [decide_eq_true_eq, decide_eq_false_iff_not, Bool.and_eq_true, Bool.or_eq_true, Bool.and_eq_false_iff, Bool.or_eq_false_iff, Bool.not_eq_true', Bool.not_eq_false', Bool.not_true, Bool.not_false, bif_and, bif_or, Bool.not_not, ne_eq, Decidable.not_not, not_true_eq_false, not_false_eq_true, Int.not_le, Int.not_lt] at hc1)
    have hz : mvR0 s b = (zSpc, 2) := by unfold mvR0; rw [if_neg (by rw [hc1]; decide)]
    refine awp_seq ?_
    refine awp_region 1 mixed (by kernel_rfl) ?_
    refine rg_q (q_build pl32 zr32 rfl .nil trivial rfl) ?_
    refine rg_nil ?_
    first | refine aops_store sz32 rfl rfl (by first | exact .inl rfl | exact .inr ⟨_, rfl⟩) rfl rfl (by first | decide | simp; done | exact Nat.le_of_ble_eq_true rfl) rfl ?_ | refine aops_storeT (z := .rs _) sz32 rfl rfl rfl rfl (by first | decide | simp) rfl ?_ | refine aops_storeT (z := .d _) sz32 rfl rfl rfl rfl (by first | decide | simp) rfl ?_ | refine aops_storeTA sz32 rfl rfl (by first | exact .inl rfl | exact .inr ⟨_, rfl⟩) rfl rfl (by first | decide | simp) rfl ?_
    refine aops_q rfl (q_assign (x := .d (.v _)) rfl) ?_
    refine aops_nil ?_
    change Awp _ _ _ _ _
    refine Awp.le (le_upB 4 (spcC zSpc) rfl (.cons (.nil 2) (.cons (.same _) (.cons (.same _) (.cons (.same _) (.cons (.same _) (.cons (.same _) (.cons (.same _) (.cons (.same _) (.cons (.same _) (.cons (.same _) (.cons (.same _) (.cons (.nil 1) (.cons (.nil 8) .nil)))))))))))))) ?_
    refine awp_ret ?_
    refine ⟨_, (.cons (.cellA rfl rfl sz32 rfl) (.cons (.tmp (by first | exact .d _ | exact .rs rfl | exact .ref rfl | exact .tref rfl (.cons (.d _ rfl) (.cons (.rs rfl) .nil)))) .nil)), ?_⟩
    rw [hz]; rfl
  ·
    (try simp only [decide_eq_true_eq, decide_eq_false_iff_not, Bool.and_eq_true, Bool.or_eq_true, Bool.and_eq_false_iff, Bool.or_eq_false_iff, Bool.not_eq_true', Bool.not_eq_false', Bool.not_true, Bool.not_false, bif_and, bif_or, Bool.not_not, ne_eq, Decidable.not_not, not_true_eq_false, not_false_eq_true, Int.not_le, Int.not_lt] at hc1)
    have hbb : inR (-100000) b 100000 = true := hc1
    have hb2 : -100000 ≤ b ∧ b ≤ 100000 := by simpa [inR] using hc1
    refine awp_skip ?_
    change Awp _ _ _ _ _
    refine awp_seq ?_
    refine awp_region 1 mixed (by kernel_rfl) ?_
    first | refine rg_q (q_loadA sz32 rfl rfl rfl) ?_ | refine rg_q (q_load_refA sz32 rfl rfl rfl rfl) ?_
    refine rg_nil ?_
    refine aops_callL [14] [] en12 (copyO_p s hl h2 h3 h0) (.cons rfl .nil) rfl rfl rfl (by repeat (first | exact trivial | refine ⟨rfl, ?_⟩)) (by repeat (first | exact trivial | refine ⟨rfl, ?_⟩)) rfl ?_
    refine aops_alloc zr32 rfl rfl rfl ?_
    refine aops_le (le_tbox (k := 6) (ts := [_, _, _, _, _, _, _, _, _, _, _, _, _]) rfl rfl) ?_
    refine aops_storeAg sz32 rfl rfl rfl rfl rfl rfl rfl ?_
    refine aops_nil ?_
    change Awp _ _ _ _ _
    refine awp_seq ?_
    refine awp_seq ?_
    refine awp_region 1 mixed (by kernel_rfl) ?_
    refine rg_q (q_assign (x := .d (.v _)) rfl) ?_
    refine rg_nil ?_
    refine aops_nil ?_
    change Awp _ _ _ _ _
    refine awp_block ?_
    refine awp_loopH [5, 7, 8, 15, 16, 17, 18, 19, 20, 21, 22, 23, 24, 25, 26, 27, 28, 29, 30, 31, 32, 33, 34, 35, 36, 37, 38, 39, 40, 41, 42, 43, 44, 45, 46, 47, 48, 49, 50, 51, 52, 53, 54, 55, 56, 57, 58, 59] [6, 14, 8] (α := Nat) (fun k => [(7, T.i (k : Int))]) (fun k => [(6, .tbox ((arrC s.ar ++ [D.sl 1 (s.pl.map iC)]).map T.d ++ [.rs 14])), (14, .row 95 8 ((mvL b s.fl k).map flwC))]) (fun k => k ≤ s.fl.length ∧ (s.fl.take k).all (mvB b) = true) (fun k => s.fl.length - k) 0 ⟨Nat.zero_le _, rfl⟩ ?_ ?_
    · exact le_head (ms := [6, 14, 8]) (by repeat (first | exact Out.refl _ | exact Out.head rfl rfl | (refine Out.put ?_ rfl) | (refine Out.site ?_ rfl) | (refine Out.putn ?_) | (refine Out.headIn ?_ rfl rfl rfl) | (refine Out.called ?_ rfl rfl))) ⟨(by first | rfl | (first | rfl | (show Site.row _ _ _ = Site.row _ _ _; rw [mvL_zero]))), trivial⟩ ⟨(by first | rfl | (first | rfl | (show Site.row _ _ _ = Site.row _ _ _; rw [mvL_zero]))), (by first | rfl | (first | rfl | (show Site.row _ _ _ = Site.row _ _ _; rw [mvL_zero]))), trivial⟩ rfl rfl rfl rfl
    ·
      intro k ⟨hk, hall⟩
      refine awp_seq ?_
      refine awp_seq ?_
      refine awp_region 5 mixed (by kernel_rfl) ?_
      refine rg_q (q_move (x := .d (.v _)) rfl) ?_
      first | refine rg_q (q_fieldAddr fld32_2 rfl) ?_ | refine rg_q (q_fieldAddr_ref fld32_2 rfl) ?_
      first | refine rg_q (q_load sz30 rfl rfl) ?_ | refine rg_q (q_load_ref sz30 rfl rfl rfl) ?_ | refine rg_q (q_load_tb (x := .d _) sz30 rfl rfl rfl) ?_ | refine rg_q (q_load_tb (x := .rs _) sz30 rfl rfl rfl) ?_
      first | refine rg_q (q_len isl30 rfl (by first | exact len_map _ _ | rfl)) ?_ | refine rg_q (q_len_rs isl30 rfl rfl) ?_ | refine rg_q (q_len_nil isl30 rfl) ?_
      refine rg_q (q_lss rfl rfl) ?_
      refine rg_nil ?_
      refine aops_nil ?_
      change Awp _ _ _ _ _
      first | refine awp_len (t := 17) rfl (fun hl17 => ?_) | skip
      (try simp only [List.length_map] at hl17)
      refine awp_cond rfl (fun hc5 => ?_) (fun hc5 => ?_)
      ·
        (try simp only [decide_eq_true_eq, decide_eq_false_iff_not, Bool.and_eq_true, Bool.or_eq_true, Bool.and_eq_false_iff, Bool.or_eq_false_iff, Bool.not_eq_true', Bool.not_eq_false', Bool.not_true, Bool.not_false, bif_and, bif_or, Bool.not_not, ne_eq, Decidable.not_not, not_true_eq_false, not_false_eq_true, Int.not_le, Int.not_lt] at hc5)
        have hml2 : ((mvL b s.fl k).map flwC).length = s.fl.length := by rw [List.length_map, mvL_len]
        have hlt : k < s.fl.length := by omega
        obtain ⟨x, hx⟩ : ∃ x, s.fl[k]? = some x := ⟨_, List.getElem?_eq_getElem hlt⟩
        have hmx := List.mem_of_getElem? hx
        have hxo := hfl x hmx
        have ha1 := hxo.a1
        have ha2 := hxo.a2
        have hat : inR (-100000) x.at_.2 100000 = true := by unfold inR; simp; omega
        have ht2 := hto x hmx
        have htt : inR (-100000) x.to_.2 100000 = true := by unfold inR; simp; omega
        have hpl := hxo.pl
        have hrow : ((mvL b s.fl k).map flwC)[k]? = some (flwC x) := by rw [List.getElem?_map, mvL_at hx]; rfl
        refine awp_skip ?_
        change Awp _ _ _ _ _
        refine awp_seq ?_
        refine awp_block ?_
        refine awp_seq ?_
        refine awp_region 5 mixed (by kernel_rfl) ?_
        first | refine rg_q (q_fieldAddr fld32_2 rfl) ?_ | refine rg_q (q_fieldAddr_ref fld32_2 rfl) ?_
        first | refine rg_q (q_load sz30 rfl rfl) ?_ | refine rg_q (q_load_ref sz30 rfl rfl rfl) ?_ | refine rg_q (q_load_tb (x := .d _) sz30 rfl rfl rfl) ?_ | refine rg_q (q_load_tb (x := .rs _) sz30 rfl rfl rfl) ?_
        refine rg_q (q_move (x := .d (.v _)) rfl) ?_
        refine rg_q (q_indexAddr_rs sl30 rfl rfl rfl (by omega) (by omega)) ?_
        refine rg_q (q_load_rowA sz95 rfl rfl (i := k) (by rw [Int.toNat_natCast]) hrow) ?_
        refine rg_nil ?_
        refine aops_alloc zr95 rfl rfl rfl ?_
        first | refine aops_store sz95 rfl rfl (by first | exact .inl rfl | exact .inr ⟨_, rfl⟩) rfl rfl (by first | decide | simp; done | exact Nat.le_of_ble_eq_true rfl) rfl ?_ | refine aops_storeT (z := .rs _) sz95 rfl rfl rfl rfl (by first | decide | simp) rfl ?_ | refine aops_storeT (z := .d _) sz95 rfl rfl rfl rfl (by first | decide | simp) rfl ?_ | refine aops_storeTA sz95 rfl rfl (by first | exact .inl rfl | exact .inr ⟨_, rfl⟩) rfl rfl (by first | decide | simp) rfl ?_
        refine aops_nil ?_
        change Awp _ _ _ _ _
        refine awp_seq ?_
        refine awp_region 7 mixed (by kernel_rfl) ?_
        first | refine rg_q (q_fieldAddr fld95_1 rfl) ?_ | refine rg_q (q_fieldAddr_ref fld95_1 rfl) ?_
        first | refine rg_q (q_fieldAddr fld50_0 rfl) ?_ | refine rg_q (q_fieldAddr_ref fld50_0 rfl) ?_
        first | refine rg_q (q_load sz3 rfl rfl) ?_ | refine rg_q (q_load_ref sz3 rfl rfl rfl) ?_ | refine rg_q (q_load_tb (x := .d _) sz3 rfl rfl rfl) ?_ | refine rg_q (q_load_tb (x := .rs _) sz3 rfl rfl rfl) ?_
        refine rg_q (q_move (x := .d (.v _)) rfl) ?_
        refine rg_q (q_add rfl rfl (In64.mk (by omega) (by omega))) ?_
        first | refine rg_q (q_fieldAddr fld95_1 rfl) ?_ | refine rg_q (q_fieldAddr_ref fld95_1 rfl) ?_
        first | refine rg_q (q_fieldAddr fld50_0 rfl) ?_ | refine rg_q (q_fieldAddr_ref fld50_0 rfl) ?_
        refine rg_nil ?_
        first | refine aops_store sz3 rfl rfl (by first | exact .inl rfl | exact .inr ⟨_, rfl⟩) rfl rfl (by first | decide | simp; done | exact Nat.le_of_ble_eq_true rfl) rfl ?_ | refine aops_storeT (z := .rs _) sz3 rfl rfl rfl rfl (by first | decide | simp) rfl ?_ | refine aops_storeT (z := .d _) sz3 rfl rfl rfl rfl (by first | decide | simp) rfl ?_ | refine aops_storeTA sz3 rfl rfl (by first | exact .inl rfl | exact .inr ⟨_, rfl⟩) rfl rfl (by first | decide | simp) rfl ?_
        refine aops_nil ?_
        change Awp _ _ _ _ _
        refine awp_seq ?_
        refine awp_seq ?_
        refine awp_region 3 mixed (by kernel_rfl) ?_
        first | refine rg_q (q_fieldAddr fld95_0 rfl) ?_ | refine rg_q (q_fieldAddr_ref fld95_0 rfl) ?_
        first | refine rg_q (q_load sz3 rfl rfl) ?_ | refine rg_q (q_load_ref sz3 rfl rfl rfl) ?_ | refine rg_q (q_load_tb (x := .d _) sz3 rfl rfl rfl) ?_ | refine rg_q (q_load_tb (x := .rs _) sz3 rfl rfl rfl) ?_
        refine rg_q (q_eql rfl rfl) ?_
        refine rg_nil ?_
        refine aops_nil ?_
        change Awp _ _ _ _ _
        refine awp_cond rfl (fun hc9 => ?_) (fun hc9 => ?_)
        ·
          (try simp only [decide_eq_true_eq, decide_eq_false_iff_not, Bool.and_eq_true, Bool.or_eq_true, Bool.and_eq_false_iff, Bool.or_eq_false_iff, Bool.not_eq_true', Bool.not_eq_false', Bool.not_true, Bool.not_false, bif_and, bif_or, Bool.not_not, ne_eq, Decidable.not_not, not_true_eq_false, not_false_eq_true, Int.not_le, Int.not_lt] at hc9)
          have hk1 : x.kd = 1 := hc9
          have hpl2 := (hpl (by omega)).1
          have hset := mv_row hx (mvT_eq (b := b) hk1)
          have hto1 : (mvF b x).to_.1 = x.to_.1 + b := by rw [← mvT_eq hk1]; rfl
          refine awp_region 7 mixed (by kernel_rfl) ?_
          first | refine rg_q (q_fieldAddr fld95_2 rfl) ?_ | refine rg_q (q_fieldAddr_ref fld95_2 rfl) ?_
          first | refine rg_q (q_fieldAddr fld50_0 rfl) ?_ | refine rg_q (q_fieldAddr_ref fld50_0 rfl) ?_
          first | refine rg_q (q_load sz3 rfl rfl) ?_ | refine rg_q (q_load_ref sz3 rfl rfl rfl) ?_ | refine rg_q (q_load_tb (x := .d _) sz3 rfl rfl rfl) ?_ | refine rg_q (q_load_tb (x := .rs _) sz3 rfl rfl rfl) ?_
          refine rg_q (q_move (x := .d (.v _)) rfl) ?_
          refine rg_q (q_add rfl rfl (In64.mk (by omega) (by omega))) ?_
          first | refine rg_q (q_fieldAddr fld95_2 rfl) ?_ | refine rg_q (q_fieldAddr_ref fld95_2 rfl) ?_
          first | refine rg_q (q_fieldAddr fld50_0 rfl) ?_ | refine rg_q (q_fieldAddr_ref fld50_0 rfl) ?_
          refine rg_nil ?_
          first | refine aops_store sz3 rfl rfl (by first | exact .inl rfl | exact .inr ⟨_, rfl⟩) rfl rfl (by first | decide | simp; done | exact Nat.le_of_ble_eq_true rfl) rfl ?_ | refine aops_storeT (z := .rs _) sz3 rfl rfl rfl rfl (by first | decide | simp) rfl ?_ | refine aops_storeT (z := .d _) sz3 rfl rfl rfl rfl (by first | decide | simp) rfl ?_ | refine aops_storeTA sz3 rfl rfl (by first | exact .inl rfl | exact .inr ⟨_, rfl⟩) rfl rfl (by first | decide | simp) rfl ?_
          refine aops_nil ?_
          change Awp _ _ _ _ _
          refine awp_seq ?_
          refine awp_seq ?_
          refine awp_region 10 mixed (by kernel_rfl) ?_
          first | refine rg_q (q_fieldAddr fld95_1 rfl) ?_ | refine rg_q (q_fieldAddr_ref fld95_1 rfl) ?_
          first | refine rg_q (q_loadA (ds := [_, _]) sz50 rfl rfl rfl) ?_ | refine rg_q (q_load_refA (ds := [_, _]) sz50 rfl rfl rfl rfl) ?_
          first | refine rg_q (q_call en59 (.cons rfl .nil) rfl (risSpot_p (x.at_.1 + b, x.at_.2))) ?_ | refine rg_q (q_callF en59 (.cons (by first | exact .d _ | exact .rs rfl | exact .ref rfl | exact .nil _ | exact .tref rfl (by repeat (first | exact .nil | refine .cons (.d _ rfl) ?_ | refine .cons (.rs rfl) ?_))) .nil) rfl (risSpot_p (x.at_.1 + b, x.at_.2)) (by first | exact .v _ | exact D.Flat.tupF (by repeat first | exact trivial | refine ⟨.v _, ?_⟩) | exact D.Flat.aggF (by repeat first | exact trivial | refine ⟨.v _, ?_⟩))) ?_
          refine rg_q (q_not rfl) ?_
          refine rg_q (q_move (x := .d (.v _)) rfl) ?_
          first | refine rg_g rfl rfl (fun hG => (q_fieldAddr fld95_2 rfl)) ?_ | refine rg_g rfl rfl (fun hG => (q_fieldAddr_ref fld95_2 rfl)) ?_
          first | refine rg_g rfl rfl (fun hG => (q_loadA (ds := [_, _]) sz50 rfl rfl rfl)) ?_ | refine rg_g rfl rfl (fun hG => (q_load_refA (ds := [_, _]) sz50 rfl rfl rfl rfl)) ?_
          first | refine rg_g rfl rfl (fun hG => (q_call en59 (.cons rfl .nil) rfl (risSpot_p (x.to_.1 + b, x.to_.2)))) ?_ | refine rg_g rfl rfl (fun hG => (q_callF en59 (.cons (by first | exact .d _ | exact .rs rfl | exact .ref rfl | exact .nil _ | exact .tref rfl (by repeat (first | exact .nil | refine .cons (.d _ rfl) ?_ | refine .cons (.rs rfl) ?_))) .nil) rfl (risSpot_p (x.to_.1 + b, x.to_.2)) (by first | exact .v _ | exact D.Flat.tupF (by repeat first | exact trivial | refine ⟨.v _, ?_⟩) | exact D.Flat.aggF (by repeat first | exact trivial | refine ⟨.v _, ?_⟩)))) ?_ | refine rg_g rfl rfl (fun hG => (q_call en59 (.cons rfl .nil) rfl (risSpot_p (x.to_.1, x.to_.2)))) ?_ | refine rg_g rfl rfl (fun hG => (q_callF en59 (.cons (by first | exact .d _ | exact .rs rfl | exact .ref rfl | exact .nil _ | exact .tref rfl (by repeat (first | exact .nil | refine .cons (.d _ rfl) ?_ | refine .cons (.rs rfl) ?_))) .nil) rfl (risSpot_p (x.to_.1, x.to_.2)) (by first | exact .v _ | exact D.Flat.tupF (by repeat first | exact trivial | refine ⟨.v _, ?_⟩) | exact D.Flat.aggF (by repeat first | exact trivial | refine ⟨.v _, ?_⟩)))) ?_
          refine rg_g rfl rfl (fun hG => (q_not rfl)) ?_
          first | refine rg_pick rfl rfl rfl rfl rfl rfl ?_ | refine rg_q (q_pick rfl rfl rfl) ?_
          refine rg_nil ?_
          refine aops_nil ?_
          change Awp _ _ _ _ _
          refine awp_cond rfl (fun hc11 => ?_) (fun hc11 => ?_)
          ·
            (try simp only [decide_eq_true_eq, decide_eq_false_iff_not, Bool.and_eq_true, Bool.or_eq_true, Bool.and_eq_false_iff, Bool.or_eq_false_iff, Bool.not_eq_true', Bool.not_eq_false', Bool.not_true, Bool.not_false, bif_and, bif_or, Bool.not_not, ne_eq, Decidable.not_not, not_true_eq_false, not_false_eq_true, Int.not_le, Int.not_lt] at hc11)
            have hb3 : mvB b x = false := by
              cases q : mvB b x with
              | false => rfl
              | true =>
                unfold mvB at q
                rw [Bool.and_eq_true, hto1] at q
                have q1 : inR (-100000) (x.at_.1 + b) 100000 = true := q.1
                simp [hat, htt, q1, q.2] at hc11
            have hz : mvR0 s b = (zSpc, 2) := by unfold mvR0; rw [if_pos hbb, if_neg (all_not hx hb3)]
            refine awp_seq ?_
            refine awp_region 1 mixed (by kernel_rfl) ?_
            refine rg_q (q_build pl32 zr32 rfl .nil trivial rfl) ?_
            refine rg_nil ?_
            first | refine aops_store sz32 rfl rfl (by first | exact .inl rfl | exact .inr ⟨_, rfl⟩) rfl rfl (by first | decide | simp; done | exact Nat.le_of_ble_eq_true rfl) rfl ?_ | refine aops_storeT (z := .rs _) sz32 rfl rfl rfl rfl (by first | decide | simp) rfl ?_ | refine aops_storeT (z := .d _) sz32 rfl rfl rfl rfl (by first | decide | simp) rfl ?_ | refine aops_storeTA sz32 rfl rfl (by first | exact .inl rfl | exact .inr ⟨_, rfl⟩) rfl rfl (by first | decide | simp) rfl ?_
            refine aops_q rfl (q_assign (x := .d (.v _)) rfl) ?_
            refine aops_nil ?_
            change Awp _ _ _ _ _
            refine Awp.le (le_upB 4 (spcC zSpc) rfl (.cons (.nil 2) (.cons (.same _) (.cons (.same _) (.cons (.same _) (.cons (.same _) (.cons (.same _) (.cons (.same _) (.cons (.same _) (.cons (.same _) (.cons (.same _) (.cons (.same _) (.cons (.nil 1) (.cons (.nil 8) .nil)))))))))))))) ?_
            refine awp_ret ?_
            refine ⟨_, (.cons (.cellA rfl rfl sz32 rfl) (.cons (.tmp (by first | exact .d _ | exact .rs rfl | exact .ref rfl | exact .tref rfl (.cons (.d _ rfl) (.cons (.rs rfl) .nil)))) .nil)), ?_⟩
            rw [hz]; rfl
          ·
            (try simp only [decide_eq_true_eq, decide_eq_false_iff_not, Bool.and_eq_true, Bool.or_eq_true, Bool.and_eq_false_iff, Bool.or_eq_false_iff, Bool.not_eq_true', Bool.not_eq_false', Bool.not_true, Bool.not_false, bif_and, bif_or, Bool.not_not, ne_eq, Decidable.not_not, not_true_eq_false, not_false_eq_true, Int.not_le, Int.not_lt] at hc11)
            have hb3 : mvB b x = true := by
              unfold mvB
              rw [hto1]
              exact (Bool.and_eq_true _ _).mpr ⟨hc11.1.1, hc11.2.1⟩
            refine awp_skip ?_
            change Awp _ _ _ _ _
            refine awp_region 5 mixed (by kernel_rfl) ?_
            first | refine rg_q (q_fieldAddr fld32_2 rfl) ?_ | refine rg_q (q_fieldAddr_ref fld32_2 rfl) ?_
            first | refine rg_q (q_load sz30 rfl rfl) ?_ | refine rg_q (q_load_ref sz30 rfl rfl rfl) ?_ | refine rg_q (q_load_tb (x := .d _) sz30 rfl rfl rfl) ?_ | refine rg_q (q_load_tb (x := .rs _) sz30 rfl rfl rfl) ?_
            refine rg_q (q_move (x := .d (.v _)) rfl) ?_
            first | refine rg_q (q_loadA (ds := [_, _, _, _, _, _, _, _]) sz95 rfl rfl rfl) ?_ | refine rg_q (q_load_refA (ds := [_, _, _, _, _, _, _, _]) sz95 rfl rfl rfl rfl) ?_
            refine rg_q (q_indexAddr_rs sl30 rfl rfl rfl (by omega) (by omega)) ?_
            refine rg_nil ?_
            refine aops_store_row sz95 rfl rfl (by first | exact .inl rfl | exact .inr ⟨_, rfl⟩) rfl rfl (i := k) (j := 0) (es' := (mvL b s.fl (k + 1)).map flwC) (by rw [Int.toNat_natCast, Nat.add_zero]) hrow (by decide) hset ?_
            refine aops_nil ?_
            change Awp _ _ _ _ _
            refine awp_region 3 mixed (by kernel_rfl) ?_
            refine rg_q (q_move (x := .d (.v _)) rfl) ?_
            refine rg_q (q_add rfl rfl (In64.mk (by omega) (by omega))) ?_
            refine rg_q (q_assign (x := .d (.v _)) rfl) ?_
            refine rg_nil ?_
            refine aops_nil ?_
            refine ⟨k + 1, ⟨by omega, all_step hx hall hb3⟩, by omega, ?_⟩
            exact le_head (ms := [6, 14, 8]) (by repeat (first | exact Out.refl _ | exact Out.head rfl rfl | (refine Out.put ?_ rfl) | (refine Out.site ?_ rfl) | (refine Out.putn ?_) | (refine Out.headIn ?_ rfl rfl rfl) | (refine Out.called ?_ rfl rfl))) ⟨(by first | rfl | (first | rfl | (show Site.row _ _ _ = Site.row _ _ _; rw [mvL_zero]))), trivial⟩ ⟨(by first | rfl | (first | rfl | (show Site.row _ _ _ = Site.row _ _ _; rw [mvL_zero]))), (by first | rfl | (first | rfl | (show Site.row _ _ _ = Site.row _ _ _; rw [mvL_zero]))), trivial⟩ rfl rfl rfl rfl
        ·
          (try simp only [decide_eq_true_eq, decide_eq_false_iff_not, Bool.and_eq_true, Bool.or_eq_true, Bool.and_eq_false_iff, Bool.or_eq_false_iff, Bool.not_eq_true', Bool.not_eq_false', Bool.not_true, Bool.not_false, bif_and, bif_or, Bool.not_not, ne_eq, Decidable.not_not, not_true_eq_false, not_false_eq_true, Int.not_le, Int.not_lt] at hc9)
          have hk1 : ¬ x.kd = 1 := hc9
          have hset := mv_row hx (mvA_eq (b := b) hk1)
          have hto1 : (mvF b x).to_.1 = x.to_.1 := by rw [← mvA_eq hk1]; rfl
          refine awp_skip ?_
          change Awp _ _ _ _ _
          refine awp_seq ?_
          refine awp_seq ?_
          refine awp_region 10 mixed (by kernel_rfl) ?_
          first | refine rg_q (q_fieldAddr fld95_1 rfl) ?_ | refine rg_q (q_fieldAddr_ref fld95_1 rfl) ?_
          first | refine rg_q (q_loadA (ds := [_, _]) sz50 rfl rfl rfl) ?_ | refine rg_q (q_load_refA (ds := [_, _]) sz50 rfl rfl rfl rfl) ?_
          first | refine rg_q (q_call en59 (.cons rfl .nil) rfl (risSpot_p (x.at_.1 + b, x.at_.2))) ?_ | refine rg_q (q_callF en59 (.cons (by first | exact .d _ | exact .rs rfl | exact .ref rfl | exact .nil _ | exact .tref rfl (by repeat (first | exact .nil | refine .cons (.d _ rfl) ?_ | refine .cons (.rs rfl) ?_))) .nil) rfl (risSpot_p (x.at_.1 + b, x.at_.2)) (by first | exact .v _ | exact D.Flat.tupF (by repeat first | exact trivial | refine ⟨.v _, ?_⟩) | exact D.Flat.aggF (by repeat first | exact trivial | refine ⟨.v _, ?_⟩))) ?_
          refine rg_q (q_not rfl) ?_
          refine rg_q (q_move (x := .d (.v _)) rfl) ?_
          first | refine rg_g rfl rfl (fun hG => (q_fieldAddr fld95_2 rfl)) ?_ | refine rg_g rfl rfl (fun hG => (q_fieldAddr_ref fld95_2 rfl)) ?_
          first | refine rg_g rfl rfl (fun hG => (q_loadA (ds := [_, _]) sz50 rfl rfl rfl)) ?_ | refine rg_g rfl rfl (fun hG => (q_load_refA (ds := [_, _]) sz50 rfl rfl rfl rfl)) ?_
          first | refine rg_g rfl rfl (fun hG => (q_call en59 (.cons rfl .nil) rfl (risSpot_p (x.to_.1 + b, x.to_.2)))) ?_ | refine rg_g rfl rfl (fun hG => (q_callF en59 (.cons (by first | exact .d _ | exact .rs rfl | exact .ref rfl | exact .nil _ | exact .tref rfl (by repeat (first | exact .nil | refine .cons (.d _ rfl) ?_ | refine .cons (.rs rfl) ?_))) .nil) rfl (risSpot_p (x.to_.1 + b, x.to_.2)) (by first | exact .v _ | exact D.Flat.tupF (by repeat first | exact trivial | refine ⟨.v _, ?_⟩) | exact D.Flat.aggF (by repeat first | exact trivial | refine ⟨.v _, ?_⟩)))) ?_ | refine rg_g rfl rfl (fun hG => (q_call en59 (.cons rfl .nil) rfl (risSpot_p (x.to_.1, x.to_.2)))) ?_ | refine rg_g rfl rfl (fun hG => (q_callF en59 (.cons (by first | exact .d _ | exact .rs rfl | exact .ref rfl | exact .nil _ | exact .tref rfl (by repeat (first | exact .nil | refine .cons (.d _ rfl) ?_ | refine .cons (.rs rfl) ?_))) .nil) rfl (risSpot_p (x.to_.1, x.to_.2)) (by first | exact .v _ | exact D.Flat.tupF (by repeat first | exact trivial | refine ⟨.v _, ?_⟩) | exact D.Flat.aggF (by repeat first | exact trivial | refine ⟨.v _, ?_⟩)))) ?_
          refine rg_g rfl rfl (fun hG => (q_not rfl)) ?_
          first | refine rg_pick rfl rfl rfl rfl rfl rfl ?_ | refine rg_q (q_pick rfl rfl rfl) ?_
          refine rg_nil ?_
          refine aops_nil ?_
          change Awp _ _ _ _ _
          refine awp_cond rfl (fun hc11 => ?_) (fun hc11 => ?_)
          ·
            (try simp only [decide_eq_true_eq, decide_eq_false_iff_not, Bool.and_eq_true, Bool.or_eq_true, Bool.and_eq_false_iff, Bool.or_eq_false_iff, Bool.not_eq_true', Bool.not_eq_false', Bool.not_true, Bool.not_false, bif_and, bif_or, Bool.not_not, ne_eq, Decidable.not_not, not_true_eq_false, not_false_eq_true, Int.not_le, Int.not_lt] at hc11)
            have hb3 : mvB b x = false := by
              cases q : mvB b x with
              | false => rfl
              | true =>
                unfold mvB at q
                rw [Bool.and_eq_true, hto1] at q
                have q1 : inR (-100000) (x.at_.1 + b) 100000 = true := q.1
                simp [hat, htt, q1, q.2] at hc11
            have hz : mvR0 s b = (zSpc, 2) := by unfold mvR0; rw [if_pos hbb, if_neg (all_not hx hb3)]
            refine awp_seq ?_
            refine awp_region 1 mixed (by kernel_rfl) ?_
            refine rg_q (q_build pl32 zr32 rfl .nil trivial rfl) ?_
            refine rg_nil ?_
            first | refine aops_store sz32 rfl rfl (by first | exact .inl rfl | exact .inr ⟨_, rfl⟩) rfl rfl (by first | decide | simp; done | exact Nat.le_of_ble_eq_true rfl) rfl ?_ | refine aops_storeT (z := .rs _) sz32 rfl rfl rfl rfl (by first | decide | simp) rfl ?_ | refine aops_storeT (z := .d _) sz32 rfl rfl rfl rfl (by first | decide | simp) rfl ?_ | refine aops_storeTA sz32 rfl rfl (by first | exact .inl rfl | exact .inr ⟨_, rfl⟩) rfl rfl (by first | decide | simp) rfl ?_
            refine aops_q rfl (q_assign (x := .d (.v _)) rfl) ?_
            refine aops_nil ?_
            change Awp _ _ _ _ _
            refine Awp.le (le_upB 4 (spcC zSpc) rfl (.cons (.nil 2) (.cons (.same _) (.cons (.same _) (.cons (.same _) (.cons (.same _) (.cons (.same _) (.cons (.same _) (.cons (.same _) (.cons (.same _) (.cons (.same _) (.cons (.same _) (.cons (.nil 1) (.cons (.nil 8) .nil)))))))))))))) ?_
            refine awp_ret ?_
            refine ⟨_, (.cons (.cellA rfl rfl sz32 rfl) (.cons (.tmp (by first | exact .d _ | exact .rs rfl | exact .ref rfl | exact .tref rfl (.cons (.d _ rfl) (.cons (.rs rfl) .nil)))) .nil)), ?_⟩
            rw [hz]; rfl
          ·
            (try simp only [decide_eq_true_eq, decide_eq_false_iff_not, Bool.and_eq_true, Bool.or_eq_true, Bool.and_eq_false_iff, Bool.or_eq_false_iff, Bool.not_eq_true', Bool.not_eq_false', Bool.not_true, Bool.not_false, bif_and, bif_or, Bool.not_not, ne_eq, Decidable.not_not, not_true_eq_false, not_false_eq_true, Int.not_le, Int.not_lt] at hc11)
            have hb3 : mvB b x = true := by
              unfold mvB
              rw [hto1]
              exact (Bool.and_eq_true _ _).mpr ⟨hc11.1.1, hc11.2.1⟩
            refine awp_skip ?_
            change Awp _ _ _ _ _
            refine awp_region 5 mixed (by kernel_rfl) ?_
            first | refine rg_q (q_fieldAddr fld32_2 rfl) ?_ | refine rg_q (q_fieldAddr_ref fld32_2 rfl) ?_
            first | refine rg_q (q_load sz30 rfl rfl) ?_ | refine rg_q (q_load_ref sz30 rfl rfl rfl) ?_ | refine rg_q (q_load_tb (x := .d _) sz30 rfl rfl rfl) ?_ | refine rg_q (q_load_tb (x := .rs _) sz30 rfl rfl rfl) ?_
            refine rg_q (q_move (x := .d (.v _)) rfl) ?_
            first | refine rg_q (q_loadA (ds := [_, _, _, _, _, _, _, _]) sz95 rfl rfl rfl) ?_ | refine rg_q (q_load_refA (ds := [_, _, _, _, _, _, _, _]) sz95 rfl rfl rfl rfl) ?_
            refine rg_q (q_indexAddr_rs sl30 rfl rfl rfl (by omega) (by omega)) ?_
            refine rg_nil ?_
            refine aops_store_row sz95 rfl rfl (by first | exact .inl rfl | exact .inr ⟨_, rfl⟩) rfl rfl (i := k) (j := 0) (es' := (mvL b s.fl (k + 1)).map flwC) (by rw [Int.toNat_natCast, Nat.add_zero]) hrow (by decide) hset ?_
            refine aops_nil ?_
            change Awp _ _ _ _ _
            refine awp_region 3 mixed (by kernel_rfl) ?_
            refine rg_q (q_move (x := .d (.v _)) rfl) ?_
            refine rg_q (q_add rfl rfl (In64.mk (by omega) (by omega))) ?_
            refine rg_q (q_assign (x := .d (.v _)) rfl) ?_
            refine rg_nil ?_
            refine aops_nil ?_
            refine ⟨k + 1, ⟨by omega, all_step hx hall hb3⟩, by omega, ?_⟩
            exact le_head (ms := [6, 14, 8]) (by repeat (first | exact Out.refl _ | exact Out.head rfl rfl | (refine Out.put ?_ rfl) | (refine Out.site ?_ rfl) | (refine Out.putn ?_) | (refine Out.headIn ?_ rfl rfl rfl) | (refine Out.called ?_ rfl rfl))) ⟨(by first | rfl | (first | rfl | (show Site.row _ _ _ = Site.row _ _ _; rw [mvL_zero]))), trivial⟩ ⟨(by first | rfl | (first | rfl | (show Site.row _ _ _ = Site.row _ _ _; rw [mvL_zero]))), (by first | rfl | (first | rfl | (show Site.row _ _ _ = Site.row _ _ _; rw [mvL_zero]))), trivial⟩ rfl rfl rfl rfl
      ·
        (try simp only [decide_eq_true_eq, decide_eq_false_iff_not, Bool.and_eq_true, Bool.or_eq_true, Bool.and_eq_false_iff, Bool.or_eq_false_iff, Bool.not_eq_true', Bool.not_eq_false', Bool.not_true, Bool.not_false, bif_and, bif_or, Bool.not_not, ne_eq, Decidable.not_not, not_true_eq_false, not_false_eq_true, Int.not_le, Int.not_lt] at hc5)
        have hml2 : ((mvL b s.fl k).map flwC).length = s.fl.length := by rw [List.length_map, mvL_len]
        have hkn : k = s.fl.length := by omega
        subst hkn
        have hall2 : s.fl.all (mvB b) = true := by rw [List.take_length] at hall; exact hall
        have hz : mvR0 s b = (mvS s b, 0) := by unfold mvR0; rw [if_pos hbb, if_pos hall2]
        rw [mvL_all]
        refine awp_exit ?_
        change Awp _ _ _ _ _
        refine awp_seq ?_
        refine Awp.le (le_freezeTB 6 14 12 rfl rfl rfl rfl hmine) ?_
        refine Awp.le (le_boxT 6 (spcC (mvS s b)) rfl rfl (by intro j d h; match j, h with | 0, h | 1, h | 2, h | 3, h | 4, h | 5, h | 6, h | 7, h | 8, h | 9, h | 10, h | 11, h | 12, h => cases h; rfl)) ?_
        refine awp_region 1 mixed (by kernel_rfl) ?_
        first | refine rg_q (q_loadA sz32 rfl rfl rfl) ?_ | refine rg_q (q_load_refA sz32 rfl rfl rfl rfl) ?_
        refine rg_nil ?_
        first | refine aops_store sz32 rfl rfl (by first | exact .inl rfl | exact .inr ⟨_, rfl⟩) rfl rfl (by first | decide | simp; done | exact Nat.le_of_ble_eq_true rfl) rfl ?_ | refine aops_storeT (z := .rs _) sz32 rfl rfl rfl rfl (by first | decide | simp) rfl ?_ | refine aops_storeT (z := .d _) sz32 rfl rfl rfl rfl (by first | decide | simp) rfl ?_ | refine aops_storeTA sz32 rfl rfl (by first | exact .inl rfl | exact .inr ⟨_, rfl⟩) rfl rfl (by first | decide | simp) rfl ?_
        refine aops_q rfl (q_assign (x := .d (.v _)) rfl) ?_
        refine aops_nil ?_
        change Awp _ _ _ _ _
        refine awp_ret ?_
        refine ⟨_, (.cons (.cellA rfl rfl sz32 rfl) (.cons (.tmp (by first | exact .d _ | exact .rs rfl | exact .ref rfl | exact .tref rfl (.cons (.d _ rfl) (.cons (.rs rfl) .nil)))) .nil)), ?_⟩
        rw [hz]; rfl
set_option maxRecDepth 100000 in
theorem rmovedN_p (s : Spc) (hl : s.ar.el.length ≤ 1000) (h2 : s.pl.length ≤ 1000) (h3 : s.fl.length ≤ 1000) (b : Int) (hn : s.fl.length = 0) : PC Tryz.prog 38 [.agg (spcC s), .v (.int .i64 (b))] (.tup [.agg (spcC (mvR0 s b).1), .v (.int .i64 ((mvR0 s b).2))]) := by
  have hml : (s.fl.map flwC).length = s.fl.length := List.length_map _
  have hS : mvS s b = s := by unfold mvS; rw [List.length_eq_zero_iff.1 hn]; have e := List.length_eq_zero_iff.1 hn; cases s; simp only at e; subst e; rfl
  refine pc_of_awpN Tryz.func38 rfl Tryz.ntmps38 (rs := [.cell 4 32, .tmp 5]) Tryz.results38 (by simp) fun w0 hmine hrnd hpn => ?_
  refine awp_seq ?_
  refine awp_region 1 mixed (by kernel_rfl) ?_
  refine rg_q (q_box rfl (by first | exact .inl rfl | exact .inr ⟨_, rfl⟩)) ?_
  refine rg_nil ?_
  refine aops_alloc zr32 rfl rfl rfl ?_
  refine aops_q rfl (q_assign (x := .d (.v _)) rfl) ?_
  refine aops_nil ?_
  change Awp _ _ _ _ _
  refine awp_seq ?_
  refine awp_seq ?_
  refine awp_region 3 mixed (by kernel_rfl) ?_
  refine rg_q (q_move (x := .d (.v _)) rfl) ?_
  first | refine rg_q (q_call en33 (.cons rfl (.cons rfl (.cons rfl .nil))) rfl (within4_p _ _ _)) ?_ | refine rg_q (q_callF en33 (.cons (by first | exact .d _ | exact .rs rfl | exact .ref rfl | exact .nil _ | exact .tref rfl (by repeat (first | exact .nil | refine .cons (.d _ rfl) ?_ | refine .cons (.rs rfl) ?_))) (.cons (by first | exact .d _ | exact .rs rfl | exact .ref rfl | exact .nil _ | exact .tref rfl (by repeat (first | exact .nil | refine .cons (.d _ rfl) ?_ | refine .cons (.rs rfl) ?_))) (.cons (by first | exact .d _ | exact .rs rfl | exact .ref rfl | exact .nil _ | exact .tref rfl (by repeat (first | exact .nil | refine .cons (.d _ rfl) ?_ | refine .cons (.rs rfl) ?_))) .nil))) rfl (within4_p _ _ _) (by first | exact .v _ | exact D.Flat.tupF (by repeat first | exact trivial | refine ⟨.v _, ?_⟩) | exact D.Flat.aggF (by repeat first | exact trivial | refine ⟨.v _, ?_⟩))) ?_
  refine rg_q (q_not rfl) ?_
  refine rg_nil ?_
  refine aops_nil ?_
  change Awp _ _ _ _ _
  refine awp_cond rfl (fun hc1 => ?_) (fun hc1 => ?_)
  ·
    (try simp only [decide_eq_true_eq, decide_eq_false_iff_not, Bool.and_eq_true, Bool.or_eq_true, Bool.and_eq_false_iff, Bool.or_eq_false_iff, Bool.not_eq_true', Bool.not_eq_false', Bool.not_true, Bool.not_false, bif_and, bif_or, Bool.not_not, ne_eq, Decidable.not_not, not_true_eq_false, not_false_eq_true, Int.not_le, Int.not_lt] at hc1)
    have hz : mvR0 s b = (zSpc, 2) := by unfold mvR0; rw [if_neg (by rw [hc1]; decide)]
    refine awp_seq ?_
    refine awp_region 1 mixed (by kernel_rfl) ?_
    refine rg_q (q_build pl32 zr32 rfl .nil trivial rfl) ?_
    refine rg_nil ?_
    first | refine aops_store sz32 rfl rfl (by first | exact .inl rfl | exact .inr ⟨_, rfl⟩) rfl rfl (by first | decide | simp; done | exact Nat.le_of_ble_eq_true rfl) rfl ?_ | refine aops_storeT (z := .rs _) sz32 rfl rfl rfl rfl (by first | decide | simp) rfl ?_ | refine aops_storeT (z := .d _) sz32 rfl rfl rfl rfl (by first | decide | simp) rfl ?_ | refine aops_storeTA sz32 rfl rfl (by first | exact .inl rfl | exact .inr ⟨_, rfl⟩) rfl rfl (by first | decide | simp) rfl ?_
    refine aops_q rfl (q_assign (x := .d (.v _)) rfl) ?_
    refine aops_nil ?_
    change Awp _ _ _ _ _
    refine Awp.le (le_upB 4 (spcC zSpc) rfl (.cons (.nil 2) (.cons (.same _) (.cons (.same _) (.cons (.same _) (.cons (.same _) (.cons (.same _) (.cons (.same _) (.cons (.same _) (.cons (.same _) (.cons (.same _) (.cons (.same _) (.cons (.nil 1) (.cons (.nil 8) .nil)))))))))))))) ?_
    refine awp_ret ?_
    refine ⟨_, (.cons (.cellA rfl rfl sz32 rfl) (.cons (.tmp (by first | exact .d _ | exact .rs rfl | exact .ref rfl | exact .tref rfl (.cons (.d _ rfl) (.cons (.rs rfl) .nil)))) .nil)), ?_⟩
    rw [hz]; rfl
  ·
    (try simp only [decide_eq_true_eq, decide_eq_false_iff_not, Bool.and_eq_true, Bool.or_eq_true, Bool.and_eq_false_iff, Bool.or_eq_false_iff, Bool.not_eq_true', Bool.not_eq_false', Bool.not_true, Bool.not_false, bif_and, bif_or, Bool.not_not, ne_eq, Decidable.not_not, not_true_eq_false, not_false_eq_true, Int.not_le, Int.not_lt] at hc1)
    have hbb : inR (-100000) b 100000 = true := hc1
    refine awp_skip ?_
    change Awp _ _ _ _ _
    refine awp_seq ?_
    refine awp_region 2 mixed (by kernel_rfl) ?_
    first | refine rg_q (q_loadA sz32 rfl rfl rfl) ?_ | refine rg_q (q_load_refA sz32 rfl rfl rfl rfl) ?_
    first | refine rg_q (q_call en12 (.cons rfl .nil) rfl (copySpc_p s hl h2 h3)) ?_ | refine rg_q (q_callF en12 (.cons (by first | exact .d _ | exact .rs rfl | exact .ref rfl | exact .nil _ | exact .tref rfl (by repeat (first | exact .nil | refine .cons (.d _ rfl) ?_ | refine .cons (.rs rfl) ?_))) .nil) rfl (copySpc_p s hl h2 h3) (by first | exact .v _ | exact D.Flat.tupF (by repeat first | exact trivial | refine ⟨.v _, ?_⟩) | exact D.Flat.aggF (by repeat first | exact trivial | refine ⟨.v _, ?_⟩))) ?_
    refine rg_nil ?_
    refine aops_alloc zr32 rfl rfl rfl ?_
    first | refine aops_store sz32 rfl rfl (by first | exact .inl rfl | exact .inr ⟨_, rfl⟩) rfl rfl (by first | decide | simp; done | exact Nat.le_of_ble_eq_true rfl) rfl ?_ | refine aops_storeT (z := .rs _) sz32 rfl rfl rfl rfl (by first | decide | simp) rfl ?_ | refine aops_storeT (z := .d _) sz32 rfl rfl rfl rfl (by first | decide | simp) rfl ?_ | refine aops_storeTA sz32 rfl rfl (by first | exact .inl rfl | exact .inr ⟨_, rfl⟩) rfl rfl (by first | decide | simp) rfl ?_
    refine aops_nil ?_
    change Awp _ _ _ _ _
    refine awp_seq ?_
    refine awp_seq ?_
    refine awp_region 1 mixed (by kernel_rfl) ?_
    refine rg_q (q_assign (x := .d (.v _)) rfl) ?_
    refine rg_nil ?_
    refine aops_nil ?_
    change Awp _ _ _ _ _
    refine awp_block ?_
    refine awp_loopH [5, 7, 8, 15, 16, 17, 18, 19, 20, 21, 22, 23, 24, 25, 26, 27, 28, 29, 30, 31, 32, 33, 34, 35, 36, 37, 38, 39, 40, 41, 42, 43, 44, 45, 46, 47, 48, 49, 50, 51, 52, 53, 54, 55, 56, 57, 58, 59] [] (α := Nat) (fun k => [(7, T.i (k : Int))]) (fun k => []) (fun k => k = 0) (fun k => 0) 0 rfl ?_ ?_
    · exact le_head (ms := []) (by repeat (first | exact Out.refl _ | exact Out.head rfl rfl | (refine Out.put ?_ rfl) | (refine Out.site ?_ rfl) | (refine Out.putn ?_) | (refine Out.headIn ?_ rfl rfl rfl) | (refine Out.called ?_ rfl rfl))) ⟨(by first | rfl | (simp; done)), trivial⟩ trivial rfl rfl rfl rfl
    ·
      intro k hk
      subst hk
      refine awp_seq ?_
      refine awp_seq ?_
      refine awp_region 5 mixed (by kernel_rfl) ?_
      refine rg_q (q_move (x := .d (.v _)) rfl) ?_
      first | refine rg_q (q_fieldAddr fld32_2 rfl) ?_ | refine rg_q (q_fieldAddr_ref fld32_2 rfl) ?_
      first | refine rg_q (q_load sz30 rfl rfl) ?_ | refine rg_q (q_load_ref sz30 rfl rfl rfl) ?_ | refine rg_q (q_load_tb (x := .d _) sz30 rfl rfl rfl) ?_ | refine rg_q (q_load_tb (x := .rs _) sz30 rfl rfl rfl) ?_
      first | refine rg_q (q_len isl30 rfl (by first | exact len_map _ _ | rfl)) ?_ | refine rg_q (q_len_rs isl30 rfl rfl) ?_ | refine rg_q (q_len_nil isl30 rfl) ?_
      refine rg_q (q_lss rfl rfl) ?_
      refine rg_nil ?_
      refine aops_nil ?_
      change Awp _ _ _ _ _
      first | refine awp_len (t := 17) rfl (fun hl17 => ?_) | skip
      (try simp only [List.length_map] at hl17)
      refine awp_cond rfl (fun hc5 => ?_) (fun hc5 => ?_)
      ·
        exact absurd (of_decide_eq_true hc5) (by omega)
      ·
        (try simp only [decide_eq_true_eq, decide_eq_false_iff_not, Bool.and_eq_true, Bool.or_eq_true, Bool.and_eq_false_iff, Bool.or_eq_false_iff, Bool.not_eq_true', Bool.not_eq_false', Bool.not_true, Bool.not_false, bif_and, bif_or, Bool.not_not, ne_eq, Decidable.not_not, not_true_eq_false, not_false_eq_true, Int.not_le, Int.not_lt] at hc5)
        have hz : mvR0 s b = (s, 0) := by unfold mvR0; rw [if_pos hbb, if_pos (by rw [List.length_eq_zero_iff.1 hn]; rfl), hS]
        refine awp_exit ?_
        change Awp _ _ _ _ _
        refine awp_seq ?_
        refine awp_region 1 mixed (by kernel_rfl) ?_
        first | refine rg_q (q_loadA sz32 rfl rfl rfl) ?_ | refine rg_q (q_load_refA sz32 rfl rfl rfl rfl) ?_
        refine rg_nil ?_
        first | refine aops_store sz32 rfl rfl (by first | exact .inl rfl | exact .inr ⟨_, rfl⟩) rfl rfl (by first | decide | simp; done | exact Nat.le_of_ble_eq_true rfl) rfl ?_ | refine aops_storeT (z := .rs _) sz32 rfl rfl rfl rfl (by first | decide | simp) rfl ?_ | refine aops_storeT (z := .d _) sz32 rfl rfl rfl rfl (by first | decide | simp) rfl ?_ | refine aops_storeTA sz32 rfl rfl (by first | exact .inl rfl | exact .inr ⟨_, rfl⟩) rfl rfl (by first | decide | simp) rfl ?_
        refine aops_q rfl (q_assign (x := .d (.v _)) rfl) ?_
        refine aops_nil ?_
        change Awp _ _ _ _ _
        refine awp_ret ?_
        refine ⟨_, (.cons (.cellA rfl rfl sz32 rfl) (.cons (.tmp (by first | exact .d _ | exact .rs rfl | exact .ref rfl | exact .tref rfl (.cons (.d _ rfl) (.cons (.rs rfl) .nil)))) .nil)), ?_⟩
        rw [hz]; rfl

theorem rmoved0_p (s : Spc) (hl : s.ar.el.length ≤ 1000) (h2 : s.pl.length ≤ 1000) (h3 : s.fl.length ≤ 1000) (b : Int) (h : (ckSpc s).2 = 0) : PC Tryz.prog 38 [.agg (spcC s), .v (.int .i64 (b))] (.tup [.agg (spcC (mvR0 s b).1), .v (.int .i64 ((mvR0 s b).2))]) := by
  by_cases h0 : s.fl.length = 0
  · exact rmovedN_p s hl h2 h3 b h0
  · exact rmovedO_p s hl h2 h3 b (by omega) (spc_ok h).fl fun x hx => flw_to (spc_fls h x hx)
theorem rep_upA {w : World} {ok : Nat → Prop} {cs cs' : List D} {v : Value} (hu : CUpL cs cs') (h : Rep w ok (.agg cs) v) : Rep w ok (.agg cs') v := by
  obtain ⟨vs, rfl, hL, hsc⟩ := agg_inv h
  obtain ⟨hl, hat⟩ := hu.at_
  refine .agg cs' vs (by rw [hL.length, hl]) (fun j d hd => ?_) (fun j d v hd hv => ?_)
  · obtain ⟨d0, h0, hc⟩ := hat j d hd
    rw [hc.sc]; exact hsc j d0 h0
  · obtain ⟨d0, h0, hc⟩ := hat j d hd
    exact hc.rep (hL.get j d0 v h0 hv)
theorem pc_upA {P : Program} {f : FuncId} {a r : D} {cs cs' : List D} (h : PC P f [a, .agg cs'] r) (hu : CUpL cs cs') : PC P f [a, .agg cs] r := by
  intro w ok vs hL
  match vs, hL with
  | [v1, v2], hL => exact h w ok _ ⟨hL.1, rep_upA hu hL.2.1, trivial⟩
theorem wo_len {s : Spc} (f : Int) (h1 : s.ar.el.length ≤ 1000) (h2 : s.pl.length ≤ 1000) (h3 : s.fl.length ≤ 1000) : (woR0 s f).1.ar.el.length ≤ 1000 ∧ (woR0 s f).1.pl.length ≤ 1000 ∧ (woR0 s f).1.fl.length ≤ 1000 := by
  unfold woR0
  split
  · exact ⟨h1, h2, Nat.le_trans (List.length_eraseIdx_le _ _) h3⟩
  · exact ⟨by decide, by decide, by decide⟩
theorem mv_len {s : Spc} (b : Int) (h1 : s.ar.el.length ≤ 1000) (h2 : s.pl.length ≤ 1000) (h3 : s.fl.length ≤ 1000) : (mvR0 s b).1.ar.el.length ≤ 1000 ∧ (mvR0 s b).1.pl.length ≤ 1000 ∧ (mvR0 s b).1.fl.length ≤ 1000 := by
  unfold mvR0
  split
  · split
    · exact ⟨h1, h2, by show (s.fl.map _).length ≤ 1000; rw [List.length_map]; exact h3⟩
    · exact ⟨by decide, by decide, by decide⟩
  · exact ⟨by decide, by decide, by decide⟩
set_option maxRecDepth 100000 in
theorem benchMoves_p (s : Spc) (f b : Int) : PC Tryz.prog 7 [.agg (spcC s), .v (.int .i64 (f)), .v (.int .i64 (b))] (.v (.bool (true))) := by
  refine pc_of_awpN Tryz.func7 rfl Tryz.ntmps7 (rs := [.tmp 6]) Tryz.results7 (by simp) fun w0 hmine hrnd hpn => ?_
  refine awp_seq ?_
  refine awp_region 2 mixed (by kernel_rfl) ?_
  refine rg_q (q_box rfl (by first | exact .inl rfl | exact .inr ⟨_, rfl⟩)) ?_
  refine rg_q (q_assign (x := .d (.v _)) rfl) ?_
  refine rg_nil ?_
  refine aops_nil ?_
  change Awp _ _ _ _ _
  refine awp_seq ?_
  refine awp_seq ?_
  refine awp_region 2 mixed (by kernel_rfl) ?_
  first | refine rg_q (q_call en9 .nil rfl (awake_p)) ?_ | refine rg_q (q_callF en9 .nil rfl (awake_p) (by first | exact .v _ | exact D.Flat.tupF (by repeat first | exact trivial | refine ⟨.v _, ?_⟩) | exact D.Flat.aggF (by repeat first | exact trivial | refine ⟨.v _, ?_⟩))) ?_
  refine rg_q (q_not rfl) ?_
  refine rg_nil ?_
  refine aops_nil ?_
  change Awp _ _ _ _ _
  refine awp_cond rfl (fun hc1 => ?_) (fun hc1 => ?_)
  ·
    simp at hc1
  ·
    (try simp only [decide_eq_true_eq, decide_eq_false_iff_not, Bool.and_eq_true, Bool.or_eq_true, Bool.and_eq_false_iff, Bool.or_eq_false_iff, Bool.not_eq_true', Bool.not_eq_false', Bool.not_true, Bool.not_false, bif_and, bif_or, Bool.not_not, ne_eq, Decidable.not_not, not_true_eq_false, not_false_eq_true, Int.not_le, Int.not_lt] at hc1)
    refine awp_skip ?_
    change Awp _ _ _ _ _
    refine awp_seq ?_
    refine awp_seq ?_
    refine awp_region 3 mixed (by kernel_rfl) ?_
    first | refine rg_q (q_loadA sz32 rfl rfl rfl) ?_ | refine rg_q (q_load_refA sz32 rfl rfl rfl rfl) ?_
    first | refine rg_q (q_call en10 (.cons rfl .nil) rfl (slight_p _)) ?_ | refine rg_q (q_callF en10 (.cons (by first | exact .d _ | exact .rs rfl | exact .ref rfl | exact .nil _ | exact .tref rfl (by repeat (first | exact .nil | refine .cons (.d _ rfl) ?_ | refine .cons (.rs rfl) ?_))) .nil) rfl (slight_p _) (by first | exact .v _ | exact D.Flat.tupF (by repeat first | exact trivial | refine ⟨.v _, ?_⟩) | exact D.Flat.aggF (by repeat first | exact trivial | refine ⟨.v _, ?_⟩))) ?_
    refine rg_q (q_not rfl) ?_
    refine rg_nil ?_
    refine aops_nil ?_
    change Awp _ _ _ _ _
    refine awp_cond rfl (fun hc3 => ?_) (fun hc3 => ?_)
    ·
      (try simp only [decide_eq_true_eq, decide_eq_false_iff_not, Bool.and_eq_true, Bool.or_eq_true, Bool.and_eq_false_iff, Bool.or_eq_false_iff, Bool.not_eq_true', Bool.not_eq_false', Bool.not_true, Bool.not_false, bif_and, bif_or, Bool.not_not, ne_eq, Decidable.not_not, not_true_eq_false, not_false_eq_true, Int.not_le, Int.not_lt] at hc3)
      refine awp_seq ?_
      refine awp_region 1 mixed (by kernel_rfl) ?_
      refine rg_q (q_assign (x := .d (.v _)) rfl) ?_
      refine rg_nil ?_
      refine aops_nil ?_
      change Awp _ _ _ _ _
      refine awp_ret ?_
      refine ⟨_, (.cons (.tmp (by first | exact .d _ | exact .rs rfl | exact .ref rfl | exact .tref rfl (.cons (.d _ rfl) (.cons (.rs rfl) .nil)))) .nil), ?_⟩
      rfl
    ·
      (try simp only [decide_eq_true_eq, decide_eq_false_iff_not, Bool.and_eq_true, Bool.or_eq_true, Bool.and_eq_false_iff, Bool.or_eq_false_iff, Bool.not_eq_true', Bool.not_eq_false', Bool.not_true, Bool.not_false, bif_and, bif_or, Bool.not_not, ne_eq, Decidable.not_not, not_true_eq_false, not_false_eq_true, Int.not_le, Int.not_lt] at hc3)
      have hfw : sliB s = true := by simpa using hc3
      obtain ⟨l1, l2, l3⟩ := sli_le hfw
      refine awp_skip ?_
      change Awp _ _ _ _ _
      refine awp_seq ?_
      refine awp_region 7 mixed (by kernel_rfl) ?_
      first | refine rg_q (q_loadA sz32 rfl rfl rfl) ?_ | refine rg_q (q_load_refA sz32 rfl rfl rfl rfl) ?_
      first | refine rg_q (q_call en12 (.cons rfl .nil) rfl (copySpc_p s (by omega) (by omega) (by omega))) ?_ | refine rg_q (q_callF en12 (.cons (by first | exact .d _ | exact .rs rfl | exact .ref rfl | exact .nil _ | exact .tref rfl (by repeat (first | exact .nil | refine .cons (.d _ rfl) ?_ | refine .cons (.rs rfl) ?_))) .nil) rfl (copySpc_p s (by omega) (by omega) (by omega)) (by first | exact .v _ | exact D.Flat.tupF (by repeat first | exact trivial | refine ⟨.v _, ?_⟩) | exact D.Flat.aggF (by repeat first | exact trivial | refine ⟨.v _, ?_⟩))) ?_
      refine rg_q (q_move (x := .d (.v _)) rfl) ?_
      first | refine rg_q (q_call en34 (.cons rfl (.cons rfl .nil)) rfl (without_p s f)) ?_ | refine rg_q (q_callF en34 (.cons (by first | exact .d _ | exact .rs rfl | exact .ref rfl | exact .nil _ | exact .tref rfl (by repeat (first | exact .nil | refine .cons (.d _ rfl) ?_ | refine .cons (.rs rfl) ?_))) (.cons (by first | exact .d _ | exact .rs rfl | exact .ref rfl | exact .nil _ | exact .tref rfl (by repeat (first | exact .nil | refine .cons (.d _ rfl) ?_ | refine .cons (.rs rfl) ?_))) .nil)) rfl (without_p s f) (by first | exact .v _ | exact D.Flat.tupF (by repeat first | exact trivial | refine ⟨.v _, ?_⟩) | exact D.Flat.aggF (by repeat first | exact trivial | refine ⟨.v _, ?_⟩))) ?_
      refine rg_q (q_move (x := .d (.tup _)) rfl) ?_
      refine rg_q (q_extract rfl rfl) ?_
      refine rg_q (q_extract rfl rfl) ?_
      refine rg_nil ?_
      refine aops_alloc zr32 rfl rfl rfl ?_
      first | refine aops_store sz32 rfl rfl (by first | exact .inl rfl | exact .inr ⟨_, rfl⟩) rfl rfl (by first | decide | simp; done | exact Nat.le_of_ble_eq_true rfl) rfl ?_ | refine aops_storeT (z := .rs _) sz32 rfl rfl rfl rfl (by first | decide | simp) rfl ?_ | refine aops_storeT (z := .d _) sz32 rfl rfl rfl rfl (by first | decide | simp) rfl ?_ | refine aops_storeTA sz32 rfl rfl (by first | exact .inl rfl | exact .inr ⟨_, rfl⟩) rfl rfl (by first | decide | simp) rfl ?_
      refine aops_q rfl (q_assign (x := .d (.v _)) rfl) ?_
      refine aops_nil ?_
      change Awp _ _ _ _ _
      refine awp_seq ?_
      refine awp_region 7 mixed (by kernel_rfl) ?_
      first | refine rg_q (q_loadA sz32 rfl rfl rfl) ?_ | refine rg_q (q_load_refA sz32 rfl rfl rfl rfl) ?_
      first | refine rg_q (q_call en12 (.cons rfl .nil) rfl (copySpc_p s (by omega) (by omega) (by omega))) ?_ | refine rg_q (q_callF en12 (.cons (by first | exact .d _ | exact .rs rfl | exact .ref rfl | exact .nil _ | exact .tref rfl (by repeat (first | exact .nil | refine .cons (.d _ rfl) ?_ | refine .cons (.rs rfl) ?_))) .nil) rfl (copySpc_p s (by omega) (by omega) (by omega)) (by first | exact .v _ | exact D.Flat.tupF (by repeat first | exact trivial | refine ⟨.v _, ?_⟩) | exact D.Flat.aggF (by repeat first | exact trivial | refine ⟨.v _, ?_⟩))) ?_
      refine rg_q (q_move (x := .d (.v _)) rfl) ?_
      first | refine rg_q (q_call en35 (.cons rfl (.cons rfl .nil)) rfl (moved_p s b)) ?_ | refine rg_q (q_callF en35 (.cons (by first | exact .d _ | exact .rs rfl | exact .ref rfl | exact .nil _ | exact .tref rfl (by repeat (first | exact .nil | refine .cons (.d _ rfl) ?_ | refine .cons (.rs rfl) ?_))) (.cons (by first | exact .d _ | exact .rs rfl | exact .ref rfl | exact .nil _ | exact .tref rfl (by repeat (first | exact .nil | refine .cons (.d _ rfl) ?_ | refine .cons (.rs rfl) ?_))) .nil)) rfl (moved_p s b) (by first | exact .v _ | exact D.Flat.tupF (by repeat first | exact trivial | refine ⟨.v _, ?_⟩) | exact D.Flat.aggF (by repeat first | exact trivial | refine ⟨.v _, ?_⟩))) ?_
      refine rg_q (q_move (x := .d (.tup _)) rfl) ?_
      refine rg_q (q_extract rfl rfl) ?_
      refine rg_q (q_extract rfl rfl) ?_
      refine rg_nil ?_
      refine aops_alloc zr32 rfl rfl rfl ?_
      first | refine aops_store sz32 rfl rfl (by first | exact .inl rfl | exact .inr ⟨_, rfl⟩) rfl rfl (by first | decide | simp; done | exact Nat.le_of_ble_eq_true rfl) rfl ?_ | refine aops_storeT (z := .rs _) sz32 rfl rfl rfl rfl (by first | decide | simp) rfl ?_ | refine aops_storeT (z := .d _) sz32 rfl rfl rfl rfl (by first | decide | simp) rfl ?_ | refine aops_storeTA sz32 rfl rfl (by first | exact .inl rfl | exact .inr ⟨_, rfl⟩) rfl rfl (by first | decide | simp) rfl ?_
      refine aops_q rfl (q_assign (x := .d (.v _)) rfl) ?_
      refine aops_nil ?_
      change Awp _ _ _ _ _
      refine awp_seq ?_
      refine awp_region 3 mixed (by kernel_rfl) ?_
      first | refine rg_q (q_loadA sz32 rfl rfl rfl) ?_ | refine rg_q (q_load_refA sz32 rfl rfl rfl rfl) ?_
      first | refine rg_q (q_call en13 (.cons rfl .nil) rfl (specimenErr_p _)) ?_ | refine rg_q (q_callF en13 (.cons (by first | exact .d _ | exact .rs rfl | exact .ref rfl | exact .nil _ | exact .tref rfl (by repeat (first | exact .nil | refine .cons (.d _ rfl) ?_ | refine .cons (.rs rfl) ?_))) .nil) rfl (specimenErr_p _) (by first | exact .v _ | exact D.Flat.tupF (by repeat first | exact trivial | refine ⟨.v _, ?_⟩) | exact D.Flat.aggF (by repeat first | exact trivial | refine ⟨.v _, ?_⟩))) ?_
      refine rg_q (q_assign (x := .d (.v _)) rfl) ?_
      refine rg_nil ?_
      refine aops_nil ?_
      change Awp _ _ _ _ _
      refine awp_seq ?_
      refine awp_seq ?_
      refine awp_region 2 mixed (by kernel_rfl) ?_
      refine rg_q (q_move (x := .d (.v _)) rfl) ?_
      refine rg_q (q_neq rfl rfl) ?_
      refine rg_nil ?_
      refine aops_nil ?_
      change Awp _ _ _ _ _
      refine awp_cond rfl (fun hc8 => ?_) (fun hc8 => ?_)
      ·
        (try simp only [decide_eq_true_eq, decide_eq_false_iff_not, Bool.and_eq_true, Bool.or_eq_true, Bool.and_eq_false_iff, Bool.or_eq_false_iff, Bool.not_eq_true', Bool.not_eq_false', Bool.not_true, Bool.not_false, bif_and, bif_or, Bool.not_not, ne_eq, Decidable.not_not, not_true_eq_false, not_false_eq_true, Int.not_le, Int.not_lt] at hc8)
        have h0 : ¬ (ckSpc s).2 = 0 := hc8
        have hw : woR s f = (zSpc, (ckSpc s).2) := by unfold woR; rw [if_pos h0]
        have hm : mvR s b = (zSpc, (ckSpc s).2) := by unfold mvR; rw [if_pos h0]
        rw [hw, hm]
        refine awp_seq ?_
        refine awp_region 19 mixed (by kernel_rfl) ?_
        refine rg_q (q_move (x := .d (.v _)) rfl) ?_
        refine rg_q (q_move (x := .d (.v _)) rfl) ?_
        refine rg_q (q_eql rfl rfl) ?_
        refine rg_q (q_move (x := .d (.v _)) rfl) ?_
        refine rg_g rfl rfl (fun hG => (q_move (x := .d (.v _)) rfl)) ?_
        refine rg_g rfl rfl (fun hG => (q_move (x := .d (.v _)) rfl)) ?_
        refine rg_g rfl rfl (fun hG => (q_eql rfl rfl)) ?_
        first | refine rg_pick rfl rfl rfl rfl rfl rfl ?_ | refine rg_q (q_pick rfl rfl rfl) ?_
        refine rg_q (q_move (x := .d (.v _)) rfl) ?_
        first | refine rg_g rfl rfl (fun hG => (q_loadA sz32 rfl rfl rfl)) ?_ | refine rg_g rfl rfl (fun hG => (q_load_refA sz32 rfl rfl rfl rfl)) ?_
        refine rg_g rfl rfl (fun hG => (q_build pl32 zr32 rfl .nil trivial rfl)) ?_
        first | refine rg_g rfl rfl (fun hG => (q_call en36 (.cons rfl (.cons rfl .nil)) rfl (pc_upA (same_p zSpc (by decide) (by decide) (by decide)) (.cons (.nil 2) (.cons (.same _) (.cons (.same _) (.cons (.same _) (.cons (.same _) (.cons (.same _) (.cons (.same _) (.cons (.same _) (.cons (.same _) (.cons (.same _) (.cons (.same _) (.cons (.nil 1) (.cons (.nil 8) .nil)))))))))))))))) ?_ | refine rg_g rfl rfl (fun hG => (q_callF en36 (.cons (by first | exact .d _ | exact .rs rfl | exact .ref rfl | exact .nil _ | exact .tref rfl (by repeat (first | exact .nil | refine .cons (.d _ rfl) ?_ | refine .cons (.rs rfl) ?_))) (.cons (by first | exact .d _ | exact .rs rfl | exact .ref rfl | exact .nil _ | exact .tref rfl (by repeat (first | exact .nil | refine .cons (.d _ rfl) ?_ | refine .cons (.rs rfl) ?_))) .nil)) rfl (pc_upA (same_p zSpc (by decide) (by decide) (by decide)) (.cons (.nil 2) (.cons (.same _) (.cons (.same _) (.cons (.same _) (.cons (.same _) (.cons (.same _) (.cons (.same _) (.cons (.same _) (.cons (.same _) (.cons (.same _) (.cons (.same _) (.cons (.nil 1) (.cons (.nil 8) .nil)))))))))))))) (by first | exact .v _ | exact D.Flat.tupF (by repeat first | exact trivial | refine ⟨.v _, ?_⟩) | exact D.Flat.aggF (by repeat first | exact trivial | refine ⟨.v _, ?_⟩)))) ?_
        first | refine rg_pick rfl rfl rfl rfl rfl rfl ?_ | refine rg_q (q_pick rfl rfl rfl) ?_
        refine rg_q (q_move (x := .d (.v _)) rfl) ?_
        first | refine rg_g rfl rfl (fun hG => (q_loadA sz32 rfl rfl rfl)) ?_ | refine rg_g rfl rfl (fun hG => (q_load_refA sz32 rfl rfl rfl rfl)) ?_
        refine rg_g rfl rfl (fun hG => (q_build pl32 zr32 rfl .nil trivial rfl)) ?_
        first | refine rg_g rfl rfl (fun hG => (q_call en36 (.cons rfl (.cons rfl .nil)) rfl (pc_upA (same_p zSpc (by decide) (by decide) (by decide)) (.cons (.nil 2) (.cons (.same _) (.cons (.same _) (.cons (.same _) (.cons (.same _) (.cons (.same _) (.cons (.same _) (.cons (.same _) (.cons (.same _) (.cons (.same _) (.cons (.same _) (.cons (.nil 1) (.cons (.nil 8) .nil)))))))))))))))) ?_ | refine rg_g rfl rfl (fun hG => (q_callF en36 (.cons (by first | exact .d _ | exact .rs rfl | exact .ref rfl | exact .nil _ | exact .tref rfl (by repeat (first | exact .nil | refine .cons (.d _ rfl) ?_ | refine .cons (.rs rfl) ?_))) (.cons (by first | exact .d _ | exact .rs rfl | exact .ref rfl | exact .nil _ | exact .tref rfl (by repeat (first | exact .nil | refine .cons (.d _ rfl) ?_ | refine .cons (.rs rfl) ?_))) .nil)) rfl (pc_upA (same_p zSpc (by decide) (by decide) (by decide)) (.cons (.nil 2) (.cons (.same _) (.cons (.same _) (.cons (.same _) (.cons (.same _) (.cons (.same _) (.cons (.same _) (.cons (.same _) (.cons (.same _) (.cons (.same _) (.cons (.same _) (.cons (.nil 1) (.cons (.nil 8) .nil)))))))))))))) (by first | exact .v _ | exact D.Flat.tupF (by repeat first | exact trivial | refine ⟨.v _, ?_⟩) | exact D.Flat.aggF (by repeat first | exact trivial | refine ⟨.v _, ?_⟩)))) ?_
        first | refine rg_pick rfl rfl rfl rfl rfl rfl ?_ | refine rg_q (q_pick rfl rfl rfl) ?_
        refine rg_q (q_assign (x := .d (.v _)) rfl) ?_
        refine rg_nil ?_
        refine aops_nil ?_
        change Awp _ _ _ _ _
        refine awp_ret ?_
        refine ⟨_, (.cons (.tmp (by first | exact .d _ | exact .rs rfl | exact .ref rfl | exact .tref rfl (.cons (.d _ rfl) (.cons (.rs rfl) .nil)))) .nil), ?_⟩
        (simp [retD]; done)
      ·
        (try simp only [decide_eq_true_eq, decide_eq_false_iff_not, Bool.and_eq_true, Bool.or_eq_true, Bool.and_eq_false_iff, Bool.or_eq_false_iff, Bool.not_eq_true', Bool.not_eq_false', Bool.not_true, Bool.not_false, bif_and, bif_or, Bool.not_not, ne_eq, Decidable.not_not, not_true_eq_false, not_false_eq_true, Int.not_le, Int.not_lt] at hc8)
        have h0 : (ckSpc s).2 = 0 := hc8
        have hw : woR s f = woR0 s f := by unfold woR; rw [if_neg (fun q => q h0)]
        have hm : mvR s b = mvR0 s b := by unfold mvR; rw [if_neg (fun q => q h0)]
        rw [hw, hm]
        obtain ⟨w1, w2, w3⟩ := wo_len (s := s) f (by omega) (by omega) (by omega)
        obtain ⟨m1, m2, m3⟩ := mv_len (s := s) b (by omega) (by omega) (by omega)
        refine awp_skip ?_
        change Awp _ _ _ _ _
        refine awp_seq ?_
        refine awp_region 6 mixed (by kernel_rfl) ?_
        first | refine rg_q (q_loadA sz32 rfl rfl rfl) ?_ | refine rg_q (q_load_refA sz32 rfl rfl rfl rfl) ?_
        refine rg_q (q_move (x := .d (.v _)) rfl) ?_
        first | refine rg_q (q_call en37 (.cons rfl (.cons rfl .nil)) rfl (rwithout_p s (by omega) (by omega) (by omega) f)) ?_ | refine rg_q (q_callF en37 (.cons (by first | exact .d _ | exact .rs rfl | exact .ref rfl | exact .nil _ | exact .tref rfl (by repeat (first | exact .nil | refine .cons (.d _ rfl) ?_ | refine .cons (.rs rfl) ?_))) (.cons (by first | exact .d _ | exact .rs rfl | exact .ref rfl | exact .nil _ | exact .tref rfl (by repeat (first | exact .nil | refine .cons (.d _ rfl) ?_ | refine .cons (.rs rfl) ?_))) .nil)) rfl (rwithout_p s (by omega) (by omega) (by omega) f) (by first | exact .v _ | exact D.Flat.tupF (by repeat first | exact trivial | refine ⟨.v _, ?_⟩) | exact D.Flat.aggF (by repeat first | exact trivial | refine ⟨.v _, ?_⟩))) ?_
        refine rg_q (q_move (x := .d (.tup _)) rfl) ?_
        refine rg_q (q_extract rfl rfl) ?_
        refine rg_q (q_extract rfl rfl) ?_
        refine rg_nil ?_
        refine aops_alloc zr32 rfl rfl rfl ?_
        first | refine aops_store sz32 rfl rfl (by first | exact .inl rfl | exact .inr ⟨_, rfl⟩) rfl rfl (by first | decide | simp; done | exact Nat.le_of_ble_eq_true rfl) rfl ?_ | refine aops_storeT (z := .rs _) sz32 rfl rfl rfl rfl (by first | decide | simp) rfl ?_ | refine aops_storeT (z := .d _) sz32 rfl rfl rfl rfl (by first | decide | simp) rfl ?_ | refine aops_storeTA sz32 rfl rfl (by first | exact .inl rfl | exact .inr ⟨_, rfl⟩) rfl rfl (by first | decide | simp) rfl ?_
        refine aops_q rfl (q_assign (x := .d (.v _)) rfl) ?_
        refine aops_nil ?_
        change Awp _ _ _ _ _
        refine awp_seq ?_
        refine awp_region 6 mixed (by kernel_rfl) ?_
        first | refine rg_q (q_loadA sz32 rfl rfl rfl) ?_ | refine rg_q (q_load_refA sz32 rfl rfl rfl rfl) ?_
        refine rg_q (q_move (x := .d (.v _)) rfl) ?_
        first | refine rg_q (q_call en38 (.cons rfl (.cons rfl .nil)) rfl (rmoved0_p s (by omega) (by omega) (by omega) b h0)) ?_ | refine rg_q (q_callF en38 (.cons (by first | exact .d _ | exact .rs rfl | exact .ref rfl | exact .nil _ | exact .tref rfl (by repeat (first | exact .nil | refine .cons (.d _ rfl) ?_ | refine .cons (.rs rfl) ?_))) (.cons (by first | exact .d _ | exact .rs rfl | exact .ref rfl | exact .nil _ | exact .tref rfl (by repeat (first | exact .nil | refine .cons (.d _ rfl) ?_ | refine .cons (.rs rfl) ?_))) .nil)) rfl (rmoved0_p s (by omega) (by omega) (by omega) b h0) (by first | exact .v _ | exact D.Flat.tupF (by repeat first | exact trivial | refine ⟨.v _, ?_⟩) | exact D.Flat.aggF (by repeat first | exact trivial | refine ⟨.v _, ?_⟩))) ?_
        refine rg_q (q_move (x := .d (.tup _)) rfl) ?_
        refine rg_q (q_extract rfl rfl) ?_
        refine rg_q (q_extract rfl rfl) ?_
        refine rg_nil ?_
        refine aops_alloc zr32 rfl rfl rfl ?_
        first | refine aops_store sz32 rfl rfl (by first | exact .inl rfl | exact .inr ⟨_, rfl⟩) rfl rfl (by first | decide | simp; done | exact Nat.le_of_ble_eq_true rfl) rfl ?_ | refine aops_storeT (z := .rs _) sz32 rfl rfl rfl rfl (by first | decide | simp) rfl ?_ | refine aops_storeT (z := .d _) sz32 rfl rfl rfl rfl (by first | decide | simp) rfl ?_ | refine aops_storeTA sz32 rfl rfl (by first | exact .inl rfl | exact .inr ⟨_, rfl⟩) rfl rfl (by first | decide | simp) rfl ?_
        refine aops_q rfl (q_assign (x := .d (.v _)) rfl) ?_
        refine aops_nil ?_
        change Awp _ _ _ _ _
        refine awp_seq ?_
        refine awp_region 19 mixed (by kernel_rfl) ?_
        refine rg_q (q_move (x := .d (.v _)) rfl) ?_
        refine rg_q (q_move (x := .d (.v _)) rfl) ?_
        refine rg_q (q_eql rfl rfl) ?_
        refine rg_q (q_move (x := .d (.v _)) rfl) ?_
        first | refine rg_g rfl rfl (fun hG => (q_loadA sz32 rfl rfl rfl)) ?_ | refine rg_g rfl rfl (fun hG => (q_load_refA sz32 rfl rfl rfl rfl)) ?_
        first | refine rg_g rfl rfl (fun hG => (q_loadA sz32 rfl rfl rfl)) ?_ | refine rg_g rfl rfl (fun hG => (q_load_refA sz32 rfl rfl rfl rfl)) ?_
        first | refine rg_g rfl rfl (fun hG => (q_call en36 (.cons rfl (.cons rfl .nil)) rfl (same_p _ w1 w2 w3))) ?_ | refine rg_g rfl rfl (fun hG => (q_callF en36 (.cons (by first | exact .d _ | exact .rs rfl | exact .ref rfl | exact .nil _ | exact .tref rfl (by repeat (first | exact .nil | refine .cons (.d _ rfl) ?_ | refine .cons (.rs rfl) ?_))) (.cons (by first | exact .d _ | exact .rs rfl | exact .ref rfl | exact .nil _ | exact .tref rfl (by repeat (first | exact .nil | refine .cons (.d _ rfl) ?_ | refine .cons (.rs rfl) ?_))) .nil)) rfl (same_p _ w1 w2 w3) (by first | exact .v _ | exact D.Flat.tupF (by repeat first | exact trivial | refine ⟨.v _, ?_⟩) | exact D.Flat.aggF (by repeat first | exact trivial | refine ⟨.v _, ?_⟩)))) ?_
        first | refine rg_pick rfl rfl rfl rfl rfl rfl ?_ | refine rg_q (q_pick rfl rfl rfl) ?_
        refine rg_q (q_move (x := .d (.v _)) rfl) ?_
        refine rg_g rfl rfl (fun hG => (q_move (x := .d (.v _)) rfl)) ?_
        refine rg_g rfl rfl (fun hG => (q_move (x := .d (.v _)) rfl)) ?_
        refine rg_g rfl rfl (fun hG => (q_eql rfl rfl)) ?_
        first | refine rg_pick rfl rfl rfl rfl rfl rfl ?_ | refine rg_q (q_pick rfl rfl rfl) ?_
        refine rg_q (q_move (x := .d (.v _)) rfl) ?_
        first | refine rg_g rfl rfl (fun hG => (q_loadA sz32 rfl rfl rfl)) ?_ | refine rg_g rfl rfl (fun hG => (q_load_refA sz32 rfl rfl rfl rfl)) ?_
        first | refine rg_g rfl rfl (fun hG => (q_loadA sz32 rfl rfl rfl)) ?_ | refine rg_g rfl rfl (fun hG => (q_load_refA sz32 rfl rfl rfl rfl)) ?_
        first | refine rg_g rfl rfl (fun hG => (q_call en36 (.cons rfl (.cons rfl .nil)) rfl (same_p _ m1 m2 m3))) ?_ | refine rg_g rfl rfl (fun hG => (q_callF en36 (.cons (by first | exact .d _ | exact .rs rfl | exact .ref rfl | exact .nil _ | exact .tref rfl (by repeat (first | exact .nil | refine .cons (.d _ rfl) ?_ | refine .cons (.rs rfl) ?_))) (.cons (by first | exact .d _ | exact .rs rfl | exact .ref rfl | exact .nil _ | exact .tref rfl (by repeat (first | exact .nil | refine .cons (.d _ rfl) ?_ | refine .cons (.rs rfl) ?_))) .nil)) rfl (same_p _ m1 m2 m3) (by first | exact .v _ | exact D.Flat.tupF (by repeat first | exact trivial | refine ⟨.v _, ?_⟩) | exact D.Flat.aggF (by repeat first | exact trivial | refine ⟨.v _, ?_⟩)))) ?_
        first | refine rg_pick rfl rfl rfl rfl rfl rfl ?_ | refine rg_q (q_pick rfl rfl rfl) ?_
        refine rg_q (q_assign (x := .d (.v _)) rfl) ?_
        refine rg_nil ?_
        refine aops_nil ?_
        change Awp _ _ _ _ _
        refine awp_ret ?_
        refine ⟨_, (.cons (.tmp (by first | exact .d _ | exact .rs rfl | exact .ref rfl | exact .tref rfl (.cons (.d _ rfl) (.cons (.rs rfl) .nil)))) .nil), ?_⟩
        (simp [retD]; done)
end Go.Proofs.YtblbnagdhcpnoaaGreat.Am.M
