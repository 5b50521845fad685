/- Contracts over the abstract machine: chapter 9: copies, codes. Conditions: none. -/
import Derived.Test.YthpggoophcdgnaaDoorS2
set_option linter.unusedVariables false
set_option linter.unusedSimpArgs false
-- mini
namespace Go.Proofs.YthpggoophcdgnaaDoor.Am.M
open Go
set_option maxRecDepth 100000 in
theorem cloneF_p (es : List (List D)) (h0 : 0 < es.length) (hl : es.length ≤ 20000) : PC Tryd.prog 44 [.sl 13 es] (.sl 13 es) := by
  refine pc_of_awp Tryd.func44 rfl Tryd.ntmps44 (rs := [.tmp 2]) Tryd.results44 (by simp) fun w0 => ?_
  refine awp_seq ?_
  refine awp_region 1 mixed (by kernel_rfl) ?_
  refine rg_q (q_assign (x := .d (.sl _ _)) rfl) ?_
  refine rg_nil ?_
  refine aops_nil ?_
  change Awp _ _ _ _ _
  refine awp_seq ?_
  refine awp_seq ?_
  refine awp_region 2 mixed (by kernel_rfl) ?_
  refine rg_q (q_move (x := .d (.sl _ _)) rfl) ?_
  refine rg_q (q_eqnil_sl sl22 rfl (by (try simp only [List.length_map]); omega)) ?_
  refine rg_nil ?_
  refine aops_nil ?_
  change Awp _ _ _ _ _
  refine awp_cond rfl (fun hc1 => ?_) (fun hc1 => ?_)
  ·
    cases hc1
  ·
    (try simp only [nb, ne_eq] at hc1)
    refine awp_skip ?_
    change Awp _ _ _ _ _
    refine awp_seq ?_
    refine awp_region 4 mixed (by kernel_rfl) ?_
    refine rg_q (q_empty0 sl22 zr43) ?_
    refine rg_q (q_move (x := .d (.sl _ _)) rfl) ?_
    refine rg_q (q_append0 sl22 zr43 by43 rfl (by decide) rfl rfl rfl (by (try simp only [List.length_map]); omega) (by (try simp only [List.length_map]); omega)) ?_
    refine rg_q (q_assign (x := .d (.sl _ _)) rfl) ?_
    refine rg_nil ?_
    refine aops_nil ?_
    change Awp _ _ _ _ _
    refine awp_ret ?_
    refine ⟨_, (.cons (.tmp (by exact .d _)) .nil), ?_⟩
    rfl
set_option maxRecDepth 100000 in
theorem cloneV_p (A : Option Addr) (cap : Nat) : PC Tryd.prog 44 [.v (.slice A 0 cap)] (.sl 13 []) := by
  refine pc_of_awp Tryd.func44 rfl Tryd.ntmps44 (rs := [.tmp 2]) Tryd.results44 (by simp) fun w0 => ?_
  refine awp_seq ?_
  refine awp_region 1 mixed (by kernel_rfl) ?_
  refine rg_q (q_assign_nil) ?_
  refine rg_nil ?_
  refine aops_nil ?_
  change Awp _ _ _ _ _
  refine awp_seq ?_
  refine awp_seq ?_
  refine awp_region 2 mixed (by kernel_rfl) ?_
  refine rg_q (q_move (x := .d (.v _)) rfl) ?_
  refine rg_q (q_eqnil_v sl22 rfl rfl) ?_
  refine rg_nil ?_
  refine aops_nil ?_
  change Awp _ _ _ _ _
  refine awp_cond rfl (fun hc1 => ?_) (fun hc1 => ?_)
  ·
    (try simp only [nb, ne_eq] at hc1)
    refine awp_seq ?_
    refine awp_region 1 mixed (by kernel_rfl) ?_
    refine rg_q (q_assign_nil) ?_
    refine rg_nil ?_
    refine aops_nil ?_
    change Awp _ _ _ _ _
    refine awp_ret ?_
    refine ⟨_, (.cons (.tmp (by exact .nil 13)) .nil), ?_⟩
    rfl
  ·
    (try simp only [nb, ne_eq] at hc1)
    refine awp_skip ?_
    change Awp _ _ _ _ _
    refine awp_seq ?_
    refine awp_region 4 mixed (by kernel_rfl) ?_
    refine rg_q (q_empty0 sl22 zr43) ?_
    refine rg_q (q_move (x := .d (.v _)) rfl) ?_
    refine rg_q (q_append0v sl22 zr43 rfl rfl) ?_
    refine rg_q (q_assign (x := .d (.sl _ _)) rfl) ?_
    refine rg_nil ?_
    refine aops_nil ?_
    change Awp _ _ _ _ _
    refine awp_ret ?_
    refine ⟨_, (.cons (.tmp (by exact .d _)) .nil), ?_⟩
    rfl

theorem clone_p (es : List (List D)) (hl : es.length ≤ 20000) : PC Tryd.prog 44 [.sl 13 es] (.sl 13 es) := by
  rcases Nat.eq_zero_or_pos es.length with h | h
  · rw [List.length_eq_zero_iff.1 h]; exact pc_empty cloneV_p
  · exact cloneF_p es h hl
set_option maxRecDepth 100000 in
theorem copyRows_p (l : List (List D)) (hl : l.length ≤ 20000) : PC Tryd.prog 26 [.sl 13 l] (.sl 13 l) := by
  refine pc_of_awp Tryd.func26 rfl Tryd.ntmps26 (rs := [.tmp 2]) Tryd.results26 (by simp) fun w0 => ?_
  refine awp_seq ?_
  refine awp_region 1 mixed (by kernel_rfl) ?_
  refine rg_q (q_assign (x := .d (.sl _ _)) rfl) ?_
  refine rg_nil ?_
  refine aops_nil ?_
  change Awp _ _ _ _ _
  refine awp_seq ?_
  refine awp_region 0 mixed (by kernel_rfl) ?_
  refine rg_nil ?_
  refine aops_empty sl22 zr43 rfl rfl ?_
  refine aops_q rfl (q_move (x := .d (.sl _ _)) rfl) ?_
  refine aops_append sl22 zr43 by43 rfl (by decide) rfl rfl rfl rfl (by (try simp only [List.length_map, List.length_append, List.length_cons, List.length_nil]); omega) (by (try simp only [List.length_map, List.length_append, List.length_cons, List.length_nil]); omega) rfl rfl ?_
  refine aops_q rfl (q_assign (x := .rs _) rfl) ?_
  refine aops_nil ?_
  change Awp _ _ _ _ _
  refine awp_ret ?_
  refine ⟨_, (.cons (.tmp (by exact .rs rfl)) .nil), ?_⟩
  rfl
set_option maxRecDepth 100000 in
theorem copy_p (c : Cd) (hx : c.ex.length ≤ 1000) (hr : c.ro.length ≤ 1000) : PC Tryd.prog 11 [.agg (cdC c)] (.agg (cdC c)) := by
  refine pc_of_awp Tryd.func11 rfl Tryd.ntmps11 (rs := [.cell 2 24]) Tryd.results11 (by simp) fun w0 => ?_
  refine awp_seq ?_
  refine awp_region 1 mixed (by kernel_rfl) ?_
  refine rg_q (q_box rfl (by exact .inr ⟨_, rfl⟩)) ?_
  refine rg_nil ?_
  refine aops_alloc zr24 rfl rfl rfl ?_
  refine aops_nil ?_
  change Awp _ _ _ _ _
  refine awp_seq ?_
  refine awp_region 9 mixed (by kernel_rfl) ?_
  refine rg_q (q_fieldAddr fld24_0 rfl) ?_
  refine rg_q (q_load sz9 rfl rfl) ?_
  refine rg_q (q_fieldAddr fld24_1 rfl) ?_
  refine rg_q (q_load sz22 rfl rfl) ?_
  refine rg_q (q_call en26 (.cons rfl .nil) rfl (copyRows_p _ (by (try simp only [List.length_map]); omega))) ?_
  refine rg_q (q_fieldAddr fld24_2 rfl) ?_
  refine rg_q (q_load sz22 rfl rfl) ?_
  refine rg_q (q_call en26 (.cons rfl .nil) rfl (copyRows_p _ (by (try simp only [List.length_map]); omega))) ?_
  refine rg_q (q_build (cs := [_, _, _]) pl24 zr24 rfl (.cons rfl (by exact .inl rfl) (.cons rfl (by exact .inl rfl) (.cons rfl (by exact .inl rfl) .nil))) ⟨⟨rfl, by decide⟩, ⟨rfl, by decide⟩, ⟨rfl, by decide⟩, trivial⟩ rfl) ?_
  refine rg_nil ?_
  refine aops_store sz24 rfl rfl (by exact .inr ⟨_, rfl⟩) rfl rfl (by decide) rfl ?_
  refine aops_nil ?_
  change Awp _ _ _ _ _
  refine awp_ret ?_
  refine ⟨_, (.cons (.cellA rfl rfl sz24 rfl) .nil), ?_⟩
  rfl
set_option maxRecDepth 100000 in
theorem copied_p (c : Cd) (hx : c.ex.length ≤ 1000) (hr : c.ro.length ≤ 1000) : PC Tryd.prog 24 [.agg (cdC c)] (.agg (cdC c)) := by
  refine pc_of_awp Tryd.func24 rfl Tryd.ntmps24 (rs := [.cell 2 24]) Tryd.results24 (by simp) fun w0 => ?_
  refine awp_seq ?_
  refine awp_region 0 mixed (by kernel_rfl) ?_
  refine rg_nil ?_
  refine aops_box (X := .agg (cdC c)) rfl (by exact .inr ⟨_, rfl⟩) rfl rfl rfl ?_
  refine aops_alloc zr24 rfl rfl rfl ?_
  refine aops_nil ?_
  change Awp _ _ _ _ _
  refine awp_seq ?_
  refine awp_regionM 10 [none, none, none, none, none, none, none, some 1, none, some 1] mixed (by kernel_rfl) ?_
  refine rgm_q rfl (q_fieldAddr_ref fld24_1 rfl) ?_
  refine rgm_q rfl (q_load_ref sz22 rfl rfl rfl) ?_
  refine rgm_q rfl (q_call en44 (.cons rfl .nil) rfl (clone_p _ (by (try simp only [List.length_map]); omega))) ?_
  refine rgm_q rfl (q_fieldAddr_ref fld24_2 rfl) ?_
  refine rgm_q rfl (q_load_ref sz22 rfl rfl rfl) ?_
  refine rgm_q rfl (q_call en44 (.cons rfl .nil) rfl (clone_p _ (by (try simp only [List.length_map]); omega))) ?_
  refine rgm_q rfl (q_fieldAddr_ref fld24_1 rfl) ?_
  refine rgm_m (k := 1) rfl rfl (by rfl) (m_store sz22 rfl rfl (by exact .inl rfl) rfl rfl (by exact Nat.le_of_ble_eq_true rfl) rfl) ?_
  refine rgm_q rfl (q_fieldAddr_ref fld24_2 rfl) ?_
  refine rgm_m (k := 1) rfl rfl (by rfl) (m_store sz22 rfl rfl (by exact .inl rfl) rfl rfl (by exact Nat.le_of_ble_eq_true rfl) rfl) ?_
  refine rgm_nil (aops_nil ?_)
  change Awp _ _ _ _ _
  refine awp_seq ?_
  refine awp_region 1 mixed (by kernel_rfl) ?_
  refine rg_q (q_load_refA (ds := [_, _, _]) sz24 rfl rfl rfl rfl) ?_
  refine rg_nil ?_
  refine aops_store sz24 rfl rfl (by exact .inr ⟨_, rfl⟩) rfl rfl (by decide) rfl ?_
  refine aops_nil ?_
  change Awp _ _ _ _ _
  refine awp_ret ?_
  refine ⟨_, (.cons (.cellA rfl rfl sz24 rfl) .nil), ?_⟩
  rfl

def Cd.all (c : Cd) : List Rw := c.ex ++ c.ro
set_option maxRecDepth 100000 in
theorem all_p (c : Cd) (hx : c.ex.length ≤ 1000) (hr : c.ro.length ≤ 1000) : PC Tryd.prog 42 [.agg (cdC c)] (.sl 13 (c.all.map rwC)) := by
  refine pc_of_awp Tryd.func42 rfl Tryd.ntmps42 (rs := [.tmp 2]) Tryd.results42 (by simp) fun w0 => ?_
  refine awp_seq ?_
  refine awp_region 2 mixed (by kernel_rfl) ?_
  refine rg_q (q_box rfl (by exact .inr ⟨_, rfl⟩)) ?_
  refine rg_q (q_assign (x := .d (.sl _ _)) rfl) ?_
  refine rg_nil ?_
  refine aops_nil ?_
  change Awp _ _ _ _ _
  refine awp_seq ?_
  refine awp_region 7 mixed (by kernel_rfl) ?_
  refine rg_q (q_fieldAddr fld24_1 rfl) ?_
  refine rg_q (q_load sz22 rfl rfl) ?_
  refine rg_q (q_fieldAddr fld24_2 rfl) ?_
  refine rg_q (q_load sz22 rfl rfl) ?_
  refine rg_q (q_buildSlice sl89 zr22 rfl rfl (by decide) (.cons rfl (by exact .inl rfl) (.cons rfl (by exact .inl rfl) .nil)) ⟨rfl, rfl, rfl, rfl, trivial⟩ rfl (by decide) rfl) ?_
  refine rg_q (q_call en25 (.cons rfl .nil) rfl (concat_p [c.ex.map rwC, c.ro.map rwC] (by simp; omega) (by simp))) ?_
  refine rg_q (q_assign (x := .d (.sl _ _)) rfl) ?_
  refine rg_nil ?_
  refine aops_nil ?_
  change Awp _ _ _ _ _
  refine awp_ret ?_
  refine ⟨_, (.cons (.tmp (by exact .d _)) .nil), ?_⟩
  simp only [Cd.all, List.map_append, List.flatten_cons, List.flatten_nil, List.append_nil]; rfl
set_option maxRecDepth 100000 in
theorem rall_p (c : Cd) (hx : c.ex.length ≤ 1000) (hr : c.ro.length ≤ 1000) : PC Tryd.prog 20 [.agg (cdC c)] (.sl 13 (c.all.map rwC)) := by
  refine pc_of_awp Tryd.func20 rfl Tryd.ntmps20 (rs := [.tmp 2]) Tryd.results20 (by simp) fun w0 => ?_
  refine awp_seq ?_
  refine awp_region 2 mixed (by kernel_rfl) ?_
  refine rg_q (q_box rfl (by exact .inr ⟨_, rfl⟩)) ?_
  refine rg_q (q_assign (x := .d (.sl _ _)) rfl) ?_
  refine rg_nil ?_
  refine aops_nil ?_
  change Awp _ _ _ _ _
  refine awp_seq ?_
  refine awp_regionC 7 [0, 3, 6] [3] mixed (by kernel_rfl) ?_
  refine rgc_c rfl rfl (c_empty sl22 zr43 rfl) ?_
  refine rgc_q rfl (q_fieldAddr fld24_1 rfl) rfl ?_
  refine rgc_q rfl (q_load sz22 rfl rfl) rfl ?_
  refine rgc_c rfl rfl (c_append sl22 zr43 by43 rfl (by decide) rfl rfl rfl rfl (by (try simp only [List.length_map, List.length_append, List.length_cons, List.length_nil]); omega) (by (try simp only [List.length_map, List.length_append, List.length_cons, List.length_nil]); omega) rfl) ?_
  refine rgc_q rfl (q_fieldAddr fld24_2 rfl) rfl ?_
  refine rgc_q rfl (q_load sz22 rfl rfl) rfl ?_
  refine rgc_c rfl rfl (c_append sl22 zr43 by43 rfl (by decide) rfl rfl rfl rfl (by (try simp only [List.length_map, List.length_append, List.length_cons, List.length_nil]); omega) (by (try simp only [List.length_map, List.length_append, List.length_cons, List.length_nil]); omega) rfl) ?_
  refine rgc_nil ?_
  refine aops_q rfl (q_assign (x := .rs _) rfl) ?_
  refine aops_nil ?_
  change Awp _ _ _ _ _
  refine awp_ret ?_
  refine ⟨_, (.cons (.tmp (by exact .rs rfl)) .nil), ?_⟩
  simp only [Cd.all, List.map_append]; rfl
end Go.Proofs.YthpggoophcdgnaaDoor.Am.M
