/- Contracts over the abstract machine: specimens that are changed; BenchMoves. Conditions: none. -/
import Derived.Test.YtblbnagdhcpnoaaGreatK24
import Derived.Test.YtblbnagdhcpnoaaGreatAmF
set_option linter.unusedVariables false
set_option linter.unusedSimpArgs false
-- mini
namespace Go.Proofs.YtblbnagdhcpnoaaGreat.Am.M
open Go

set_option maxRecDepth 100000 in
theorem cloneS_p (es : List (List D)) (h0 : 0 < es.length) (hl : es.length ≤ 20000) : PC Tryz.prog 108 [.sl 2 es] (.sl 2 es) := by
  refine pc_of_awp Tryz.func108 rfl Tryz.ntmps108 (rs := [.tmp 2]) Tryz.results108 (by simp) fun w0 => ?_
  refine awp_seq ?_
  refine awp_region 1 mixed (by kernel_rfl) ?_
  refine rg_q (q_assign (x := .d (.sl _ _)) rfl) ?_
  refine rg_nil ?_
  refine aops_nil ?_
  change Awp _ _ _ _ _
  refine awp_seq ?_
  refine awp_seq ?_
  refine awp_region 2 mixed (by kernel_rfl) ?_
  refine rg_q (q_move (x := .d (.sl _ _)) rfl) ?_
  refine rg_q (q_eqnil_sl sl22 rfl (by (try simp only [List.length_map]); omega)) ?_
  refine rg_nil ?_
  refine aops_nil ?_
  change Awp _ _ _ _ _
  refine awp_cond rfl (fun hc1 => ?_) (fun hc1 => ?_)
  ·
    cases hc1
  ·
    (try simp only [decide_eq_true_eq, decide_eq_false_iff_not, Bool.and_eq_true, Bool.or_eq_true, Bool.and_eq_false_iff, Bool.or_eq_false_iff, Bool.not_eq_true', Bool.not_eq_false', Bool.not_true, Bool.not_false, bif_and, bif_or, Bool.not_not, ne_eq, Decidable.not_not, not_true_eq_false, not_false_eq_true, Int.not_le, Int.not_lt] at hc1)
    refine awp_skip ?_
    change Awp _ _ _ _ _
    refine awp_seq ?_
    refine awp_region 4 mixed (by kernel_rfl) ?_
    refine rg_q (q_empty0 sl22 zr50) ?_
    refine rg_q (q_move (x := .d (.sl _ _)) rfl) ?_
    refine rg_q (q_append0 sl22 zr50 by50 rfl (by decide) rfl rfl rfl (by (try simp only [List.length_map]); omega) (by (try simp only [List.length_map]); omega)) ?_
    refine rg_q (q_assign (x := .d (.sl _ _)) rfl) ?_
    refine rg_nil ?_
    refine aops_nil ?_
    change Awp _ _ _ _ _
    refine awp_ret ?_
    refine ⟨_, (.cons (.tmp (by exact .d _)) .nil), ?_⟩
    rfl
set_option maxRecDepth 100000 in
theorem cloneI_p (es : List (List D)) (h0 : 0 < es.length) (hl : es.length ≤ 20000) : PC Tryz.prog 109 [.sl 1 es] (.sl 1 es) := by
  refine pc_of_awp Tryz.func109 rfl Tryz.ntmps109 (rs := [.tmp 2]) Tryz.results109 (by simp) fun w0 => ?_
  refine awp_seq ?_
  refine awp_region 1 mixed (by kernel_rfl) ?_
  refine rg_q (q_assign (x := .d (.sl _ _)) rfl) ?_
  refine rg_nil ?_
  refine aops_nil ?_
  change Awp _ _ _ _ _
  refine awp_seq ?_
  refine awp_seq ?_
  refine awp_region 2 mixed (by kernel_rfl) ?_
  refine rg_q (q_move (x := .d (.sl _ _)) rfl) ?_
  refine rg_q (q_eqnil_sl sl29 rfl (by (try simp only [List.length_map]); omega)) ?_
  refine rg_nil ?_
  refine aops_nil ?_
  change Awp _ _ _ _ _
  refine awp_cond rfl (fun hc1 => ?_) (fun hc1 => ?_)
  ·
    cases hc1
  ·
    (try simp only [decide_eq_true_eq, decide_eq_false_iff_not, Bool.and_eq_true, Bool.or_eq_true, Bool.and_eq_false_iff, Bool.or_eq_false_iff, Bool.not_eq_true', Bool.not_eq_false', Bool.not_true, Bool.not_false, bif_and, bif_or, Bool.not_not, ne_eq, Decidable.not_not, not_true_eq_false, not_false_eq_true, Int.not_le, Int.not_lt] at hc1)
    refine awp_skip ?_
    change Awp _ _ _ _ _
    refine awp_seq ?_
    refine awp_region 4 mixed (by kernel_rfl) ?_
    refine rg_q (q_empty0 sl29 zr3) ?_
    refine rg_q (q_move (x := .d (.sl _ _)) rfl) ?_
    refine rg_q (q_append0 sl29 zr3 by3 rfl (by decide) rfl rfl rfl (by (try simp only [List.length_map]); omega) (by (try simp only [List.length_map]); omega)) ?_
    refine rg_q (q_assign (x := .d (.sl _ _)) rfl) ?_
    refine rg_nil ?_
    refine aops_nil ?_
    change Awp _ _ _ _ _
    refine awp_ret ?_
    refine ⟨_, (.cons (.tmp (by exact .d _)) .nil), ?_⟩
    rfl
set_option maxRecDepth 100000 in
theorem cloneV_p (A : Option Addr) (cap : Nat) : PC Tryz.prog 110 [.v (.slice A 0 cap)] (.sl 8 []) := by
  refine pc_of_awp Tryz.func110 rfl Tryz.ntmps110 (rs := [.tmp 2]) Tryz.results110 (by simp) fun w0 => ?_
  refine awp_seq ?_
  refine awp_region 1 mixed (by kernel_rfl) ?_
  refine rg_q (q_assign_nil) ?_
  refine rg_nil ?_
  refine aops_nil ?_
  change Awp _ _ _ _ _
  refine awp_seq ?_
  refine awp_seq ?_
  refine awp_region 2 mixed (by kernel_rfl) ?_
  refine rg_q (q_move (x := .d (.v _)) rfl) ?_
  refine rg_q (q_eqnil_v sl30 rfl rfl) ?_
  refine rg_nil ?_
  refine aops_nil ?_
  change Awp _ _ _ _ _
  refine awp_cond rfl (fun hc1 => ?_) (fun hc1 => ?_)
  ·
    (try simp only [decide_eq_true_eq, decide_eq_false_iff_not, Bool.and_eq_true, Bool.or_eq_true, Bool.and_eq_false_iff, Bool.or_eq_false_iff, Bool.not_eq_true', Bool.not_eq_false', Bool.not_true, Bool.not_false, bif_and, bif_or, Bool.not_not, ne_eq, Decidable.not_not, not_true_eq_false, not_false_eq_true, Int.not_le, Int.not_lt] at hc1)
    refine awp_seq ?_
    refine awp_region 1 mixed (by kernel_rfl) ?_
    refine rg_q (q_assign_nil) ?_
    refine rg_nil ?_
    refine aops_nil ?_
    change Awp _ _ _ _ _
    refine awp_ret ?_
    refine ⟨_, (.cons (.tmp (by exact .nil 8)) .nil), ?_⟩
    rfl
  ·
    (try simp only [decide_eq_true_eq, decide_eq_false_iff_not, Bool.and_eq_true, Bool.or_eq_true, Bool.and_eq_false_iff, Bool.or_eq_false_iff, Bool.not_eq_true', Bool.not_eq_false', Bool.not_true, Bool.not_false, bif_and, bif_or, Bool.not_not, ne_eq, Decidable.not_not, not_true_eq_false, not_false_eq_true, Int.not_le, Int.not_lt] at hc1)
    refine awp_skip ?_
    change Awp _ _ _ _ _
    refine awp_seq ?_
    refine awp_region 4 mixed (by kernel_rfl) ?_
    refine rg_q (q_empty0 sl30 zr95) ?_
    refine rg_q (q_move (x := .d (.v _)) rfl) ?_
    refine rg_q (q_append0v sl30 zr95 rfl rfl) ?_
    refine rg_q (q_assign (x := .d (.sl _ _)) rfl) ?_
    refine rg_nil ?_
    refine aops_nil ?_
    change Awp _ _ _ _ _
    refine awp_ret ?_
    refine ⟨_, (.cons (.tmp (by exact .d _)) .nil), ?_⟩
    rfl

theorem cloneN_p : PC Tryz.prog 110 [.sl 8 []] (.sl 8 []) := pc_empty cloneV_p
theorem cloneE_p (es : List (List D)) (h : es = []) : PC Tryz.prog 110 [.sl 8 es] (.sl 8 es) := h ▸ cloneN_p
theorem flwC_flat (x : Flw) : ∀ d ∈ flwC x, D.Flat d := by
  intro d hd
  simp only [flwC, List.mem_cons, List.not_mem_nil, or_false] at hd
  rcases hd with rfl | rfl | rfl | rfl | rfl | rfl | rfl | rfl <;> exact .v _
set_option maxRecDepth 100000 in
theorem cloneO_p (es : List (List D)) (h0 : 0 < es.length) (hl : es.length ≤ 20000) : PCS Tryz.prog 110 [.d (.sl 8 es)] [] (.rs 0) [.row 95 8 es] := by
  refine pcs_of_awp Tryz.func110 rfl Tryz.ntmps110 (rs := [.tmp 2]) Tryz.results110 (by simp) fun w0 => ?_
  refine awp_seq ?_
  refine awp_region 1 mixed (by kernel_rfl) ?_
  refine rg_q (q_assign (x := .d (.sl _ _)) rfl) ?_
  refine rg_nil ?_
  refine aops_nil ?_
  change Awp _ _ _ _ _
  refine awp_seq ?_
  refine awp_seq ?_
  refine awp_region 2 mixed (by kernel_rfl) ?_
  refine rg_q (q_move (x := .d (.sl _ _)) rfl) ?_
  refine rg_q (q_eqnil_sl sl30 rfl (by (try simp only [List.length_map]); omega)) ?_
  refine rg_nil ?_
  refine aops_nil ?_
  change Awp _ _ _ _ _
  refine awp_cond rfl (fun hc1 => ?_) (fun hc1 => ?_)
  ·
    cases hc1
  ·
    (try simp only [decide_eq_true_eq, decide_eq_false_iff_not, Bool.and_eq_true, Bool.or_eq_true, Bool.and_eq_false_iff, Bool.or_eq_false_iff, Bool.not_eq_true', Bool.not_eq_false', Bool.not_true, Bool.not_false, bif_and, bif_or, Bool.not_not, ne_eq, Decidable.not_not, not_true_eq_false, not_false_eq_true, Int.not_le, Int.not_lt] at hc1)
    refine awp_skip ?_
    change Awp _ _ _ _ _
    refine awp_seq ?_
    refine awp_region 2 mixed (by kernel_rfl) ?_
    refine rg_q (q_empty0 sl30 zr95) ?_
    refine rg_q (q_move (x := .d (.sl _ _)) rfl) ?_
    refine rg_nil ?_
    refine aops_append0 sl30 zr95 by95 rfl (by decide) rfl rfl rfl h0 (by omega) (by omega) rfl rfl ?_
    refine aops_q rfl (q_assign (x := .rs _) rfl) ?_
    refine aops_nil ?_
    change Awp _ _ _ _ _
    refine awp_ret ?_
    exact end_mk (.inl rfl) [7] (.tmp rfl) (by repeat (first | exact trivial | refine ⟨rfl, ?_⟩)) rfl
set_option maxRecDepth 100000 in
theorem copyO_p (s : Spc) (hl : s.ar.el.length ≤ 1000) (h2 : s.pl.length ≤ 1000) (h3 : s.fl.length ≤ 1000) (h0 : 0 < s.fl.length) : PCS Tryz.prog 12 [.d (.agg (spcC s))] [] (.ag 0 (arrC s.ar ++ [D.sl 1 (s.pl.map iC)]) []) [.row 95 8 (s.fl.map flwC)] := by
  refine pcs_of_awpA Tryz.func12 rfl Tryz.ntmps12 Tryz.results12 (by simp) fun w0 hrnd => ?_
  refine awp_seq ?_
  refine awp_region 1 mixed (by kernel_rfl) ?_
  refine rg_q (q_box rfl (by exact .inr ⟨_, rfl⟩)) ?_
  refine rg_nil ?_
  refine aops_alloc zr32 rfl rfl rfl ?_
  refine aops_nil ?_
  change Awp _ _ _ _ _
  refine awp_seq ?_
  refine awp_regionM 12 [none, none, none, none, none, none, none, none, none, some 12, none, some 2] mixed (by kernel_rfl) ?_
  refine rgm_q rfl (q_fieldAddr fld32_0 rfl) ?_
  refine rgm_q rfl (q_loadA (ds := [_, _, _, _, _, _, _, _, _, _, _]) sz28 rfl rfl rfl) ?_
  refine rgm_q rfl (q_call en26 (.cons rfl .nil) rfl (copyArr_p s.ar (by omega))) ?_
  refine rgm_q rfl (q_fieldAddr fld32_1 rfl) ?_
  refine rgm_q rfl (q_load sz29 rfl rfl) ?_
  refine rgm_q rfl (q_call en48 (.cons rfl .nil) rfl (copyInts4_p _ (by omega))) ?_
  refine rgm_q rfl (q_empty0 sl30 zr95) ?_
  refine rgm_q rfl (q_fieldAddr fld32_2 rfl) ?_
  refine rgm_q rfl (q_load sz30 rfl rfl) ?_
  refine rgm_m (k := 12) rfl rfl (by rfl) (m_append0 sl30 zr95 by95 rfl (by decide) rfl rfl rfl (by rw [List.length_map]; exact h0) (by rw [List.length_map]; omega) (by rw [List.length_map]; omega) rfl) ?_
  refine rgm_q rfl (q_buildR (u := (arrC s.ar ++ [D.sl 1 (s.pl.map iC)])) (v := []) pl32 zr32 rfl (by exact .agg rfl (by exact .one rfl rfl (by exact .one rfl rfl .nil))) (by exact ⟨⟨rfl, by decide⟩, ⟨rfl, by decide⟩, ⟨rfl, by decide⟩, trivial⟩) (by rfl)) ?_
  refine rgm_m (k := 2) rfl rfl (by rfl) (m_storeAg sz32 rfl rfl rfl rfl rfl rfl rfl) ?_
  refine rgm_nil ?_
  refine aops_nil ?_
  change Awp _ _ _ _ _
  refine awp_ret ?_
  exact enda_mk (.inl rfl) [12] ⟨2, 12, 13, (arrC s.ar ++ [D.sl 1 (s.pl.map iC)]), [], rfl, rfl, sz32, rfl, rfl⟩ (by repeat (first | exact trivial | refine ⟨rfl, ?_⟩)) rfl
set_option maxRecDepth 100000 in
theorem copiedN_p (s : Spc) (hl : s.ar.el.length ≤ 1000) (h2 : s.pl.length ≤ 1000) (h3 : s.fl.length ≤ 1000) (he : 0 < s.ar.el.length) (hp : 0 < s.pl.length) (hn : s.fl.length = 0) : PC Tryz.prog 73 [.agg (spcC s)] (.agg (spcC s)) := by
  refine pc_of_awp Tryz.func73 rfl Tryz.ntmps73 (rs := [.cell 2 32]) Tryz.results73 (by simp) fun w0 => ?_
  refine awp_seq ?_
  refine awp_region 0 mixed (by kernel_rfl) ?_
  refine rg_nil ?_
  refine aops_box rfl (by exact .inr ⟨_, rfl⟩) rfl rfl rfl ?_
  refine aops_alloc zr32 rfl rfl rfl ?_
  refine aops_nil ?_
  change Awp _ _ _ _ _
  refine awp_seq ?_
  refine awp_regionM 17 [none, none, none, none, none, none, none, none, none, none, none, none, some 1, none, some 1, none, some 1] mixed (by kernel_rfl) ?_
  refine rgm_q rfl (q_fieldAddr_ref fld32_0 rfl) ?_
  refine rgm_q rfl (q_fieldAddr_ref fld28_0 rfl) ?_
  refine rgm_q rfl (q_load_ref sz22 rfl rfl rfl) ?_
  refine rgm_q rfl (q_call en108 (.cons rfl .nil) rfl (cloneS_p _ (by rw [List.length_map]; omega) (by rw [List.length_map]; omega))) ?_
  refine rgm_q rfl (q_fieldAddr_ref fld32_1 rfl) ?_
  refine rgm_q rfl (q_load_ref sz29 rfl rfl rfl) ?_
  refine rgm_q rfl (q_call en109 (.cons rfl .nil) rfl (cloneI_p _ (by rw [List.length_map]; omega) (by rw [List.length_map]; omega))) ?_
  refine rgm_q rfl (q_fieldAddr_ref fld32_2 rfl) ?_
  refine rgm_q rfl (q_load_ref sz30 rfl rfl rfl) ?_
  refine rgm_q rfl (q_call en110 (.cons rfl .nil) rfl (cloneE_p (s.fl.map flwC) (by rw [List.length_eq_zero_iff.1 hn]; rfl))) ?_
  refine rgm_q rfl (q_fieldAddr_ref fld32_0 rfl) ?_
  refine rgm_q rfl (q_fieldAddr_ref fld28_0 rfl) ?_
  refine rgm_m (k := 1) rfl rfl (by rfl) (m_store sz22 rfl rfl (by exact .inl rfl) rfl rfl (by exact Nat.le_of_ble_eq_true rfl) rfl) ?_
  refine rgm_q rfl (q_fieldAddr_ref fld32_1 rfl) ?_
  refine rgm_m (k := 1) rfl rfl (by rfl) (m_store sz29 rfl rfl (by exact .inl rfl) rfl rfl (by exact Nat.le_of_ble_eq_true rfl) rfl) ?_
  refine rgm_q rfl (q_fieldAddr_ref fld32_2 rfl) ?_
  refine rgm_m (k := 1) rfl rfl (by rfl) (m_store sz30 rfl rfl (by exact .inl rfl) rfl rfl (by exact Nat.le_of_ble_eq_true rfl) rfl) ?_
  refine rgm_nil ?_
  refine aops_nil ?_
  change Awp _ _ _ _ _
  refine awp_seq ?_
  refine awp_region 1 mixed (by kernel_rfl) ?_
  refine rg_q (q_load_refA sz32 rfl rfl rfl rfl) ?_
  refine rg_nil ?_
  refine aops_store sz32 rfl rfl (by exact .inr ⟨_, rfl⟩) rfl rfl (by decide) rfl ?_
  refine aops_nil ?_
  change Awp _ _ _ _ _
  refine awp_ret ?_
  refine ⟨_, (.cons (.cellA rfl rfl sz32 rfl) .nil), ?_⟩
  rfl
set_option maxRecDepth 100000 in
theorem copiedO_p (s : Spc) (hl : s.ar.el.length ≤ 1000) (h2 : s.pl.length ≤ 1000) (h3 : s.fl.length ≤ 1000) (he : 0 < s.ar.el.length) (hp : 0 < s.pl.length) (h0 : 0 < s.fl.length) : PCS Tryz.prog 73 [.d (.agg (spcC s))] [] (.ag 0 (arrC s.ar ++ [D.sl 1 (s.pl.map iC)]) []) [.row 95 8 (s.fl.map flwC)] := by
  refine pcs_of_awpA Tryz.func73 rfl Tryz.ntmps73 Tryz.results73 (by simp) fun w0 hrnd => ?_
  refine awp_seq ?_
  refine awp_region 0 mixed (by kernel_rfl) ?_
  refine rg_nil ?_
  refine aops_box rfl (by exact .inr ⟨_, rfl⟩) rfl rfl rfl ?_
  refine aops_alloc zr32 rfl rfl rfl ?_
  refine aops_nil ?_
  change Awp _ _ _ _ _
  refine awp_seq ?_
  refine awp_regionM 17 [none, none, none, none, none, none, none, none, none, some 12, none, none, some 1, none, some 1, none, some 1] mixed (by kernel_rfl) ?_
  refine rgm_q rfl (q_fieldAddr_ref fld32_0 rfl) ?_
  refine rgm_q rfl (q_fieldAddr_ref fld28_0 rfl) ?_
  refine rgm_q rfl (q_load_ref sz22 rfl rfl rfl) ?_
  refine rgm_q rfl (q_call en108 (.cons rfl .nil) rfl (cloneS_p _ (by rw [List.length_map]; omega) (by rw [List.length_map]; omega))) ?_
  refine rgm_q rfl (q_fieldAddr_ref fld32_1 rfl) ?_
  refine rgm_q rfl (q_load_ref sz29 rfl rfl rfl) ?_
  refine rgm_q rfl (q_call en109 (.cons rfl .nil) rfl (cloneI_p _ (by rw [List.length_map]; omega) (by rw [List.length_map]; omega))) ?_
  refine rgm_q rfl (q_fieldAddr_ref fld32_2 rfl) ?_
  refine rgm_q rfl (q_load_ref sz30 rfl rfl rfl) ?_
  refine rgm_m (k := 12) rfl rfl (by rfl) (m_callN en110 (cloneO_p (s.fl.map flwC) (by rw [List.length_map]; exact h0) (by rw [List.length_map]; omega)) rfl (.cons rfl .nil) rfl (flat_row flwC 95 8 s.fl flwC_flat)) ?_
  refine rgm_q rfl (q_fieldAddr_ref fld32_0 rfl) ?_
  refine rgm_q rfl (q_fieldAddr_ref fld28_0 rfl) ?_
  refine rgm_m (k := 1) rfl rfl (by rfl) (m_store sz22 rfl rfl (by exact .inl rfl) rfl rfl (by exact Nat.le_of_ble_eq_true rfl) rfl) ?_
  refine rgm_q rfl (q_fieldAddr_ref fld32_1 rfl) ?_
  refine rgm_m (k := 1) rfl rfl (by rfl) (m_store sz29 rfl rfl (by exact .inl rfl) rfl rfl (by exact Nat.le_of_ble_eq_true rfl) rfl) ?_
  refine rgm_q rfl (q_fieldAddr_ref fld32_2 rfl) ?_
  refine rgm_m (k := 1) rfl rfl (by rfl) (m_storeR sz30 rfl rfl rfl (Nat.le_of_ble_eq_true rfl) rfl) ?_
  refine rgm_nil ?_
  refine aops_nil ?_
  change Awp _ _ _ _ _
  refine awp_seq ?_
  refine Awp.le (le_tbox (k := 2) (ts := [_, _, _, _, _, _, _, _, _, _, _, _, _]) rfl rfl) ?_
  refine awp_region 1 mixed (by kernel_rfl) ?_
  refine rg_q (q_load_ag (u := (arrC s.ar ++ [D.sl 1 (s.pl.map iC)])) (v := []) sz32 rfl rfl rfl rfl) ?_
  refine rg_nil ?_
  refine aops_storeAg sz32 rfl rfl rfl rfl rfl rfl rfl ?_
  refine aops_nil ?_
  change Awp _ _ _ _ _
  refine awp_ret ?_
  exact enda_mk (.inl rfl) [12] ⟨2, 12, 13, (arrC s.ar ++ [D.sl 1 (s.pl.map iC)]), [], rfl, rfl, sz32, rfl, rfl⟩ (by repeat (first | exact trivial | refine ⟨rfl, ?_⟩)) rfl

theorem spc_pulse {s : Spc} (h : (ckSpc s).2 = 0) : plsE s.pl = 0 := by
  unfold ckSpc at h
  by_cases h1 : (ckArr s.ar).2 ≠ 0
  · rw [if_pos h1] at h; exact absurd h h1
  rw [if_neg h1] at h
  by_cases h2 : spcE0 s ≠ 0
  · rw [if_pos h2] at h; exact absurd h h2
  have h3 := Decidable.not_not.1 h2
  unfold spcE0 at h3
  exact first_zero.1 h3 _ (by simp)
def zSpc : Spc := ⟨⟨[], ⟨0, 0, 0, 0⟩, ⟨0, 0, 0, 0⟩, (0, 0)⟩, [], []⟩
def mvF (b : Int) (x : Flw) : Flw := ⟨x.kd, (x.at_.1 + b, x.at_.2), if x.kd = 1 then (x.to_.1 + b, x.to_.2) else x.to_, x.pc, x.am, x.tp⟩
def mvB (b : Int) (x : Flw) : Bool := inR (-100000) (mvF b x).at_.1 100000 && inR (-100000) (mvF b x).to_.1 100000
def mvS (s : Spc) (b : Int) : Spc := ⟨s.ar, s.pl, s.fl.map (mvF b)⟩
def mvR0 (s : Spc) (b : Int) : Spc × Int := if inR (-100000) b 100000 = true then (if s.fl.all (mvB b) = true then (mvS s b, 0) else (zSpc, 2)) else (zSpc, 2)
def mvL (b : Int) (l : List Flw) (k : Nat) : List Flw := (l.take k).map (mvF b) ++ l.drop k
theorem mvL_len (b : Int) (l : List Flw) (k : Nat) : (mvL b l k).length = l.length := by unfold mvL; simp; omega
theorem mvL_at {b : Int} {l : List Flw} {k : Nat} {x : Flw} (hx : l[k]? = some x) : (mvL b l k)[k]? = some x := by
  have hk := (List.getElem?_eq_some_iff.1 hx).1
  unfold mvL
  rw [List.getElem?_append_right (by simp; omega), List.length_map, List.length_take, Nat.min_eq_left (by omega), Nat.sub_self, List.getElem?_drop, Nat.add_zero, hx]
theorem mvL_set {b : Int} {l : List Flw} {k : Nat} {x : Flw} (hx : l[k]? = some x) : (mvL b l k).set k (mvF b x) = mvL b l (k + 1) := by
  have hk := (List.getElem?_eq_some_iff.1 hx).1
  have hl : ((l.take k).map (mvF b)).length = k := by simp; omega
  unfold mvL
  rw [List.set_append_right _ _ (by omega), hl, Nat.sub_self, List.drop_eq_getElem_cons hk, List.set_cons_zero, List.take_succ_eq_append_getElem hk, List.map_append, (List.getElem?_eq_some_iff.1 hx).2]
  simp
theorem mvL_all (b : Int) (l : List Flw) : mvL b l l.length = l.map (mvF b) := by unfold mvL; simp
theorem all_step {b : Int} {l : List Flw} {k : Nat} {x : Flw} (hx : l[k]? = some x) (h : (l.take k).all (mvB b) = true) (hb : mvB b x = true) : (l.take (k + 1)).all (mvB b) = true := by
  rw [List.take_succ_eq_append_getElem (List.getElem?_eq_some_iff.1 hx).1, (List.getElem?_eq_some_iff.1 hx).2, List.all_append, h, List.all_cons, hb]; rfl
theorem all_not {b : Int} {l : List Flw} {k : Nat} {x : Flw} (hx : l[k]? = some x) (hb : mvB b x = false) : ¬ l.all (mvB b) = true := fun q => by
  have := List.all_eq_true.1 q x (List.mem_of_getElem? hx)
  rw [hb] at this; cases this

def mvA (b : Int) (x : Flw) : Flw := ⟨x.kd, (x.at_.1 + b, x.at_.2), x.to_, x.pc, x.am, x.tp⟩
def mvT (b : Int) (x : Flw) : Flw := ⟨x.kd, (x.at_.1 + b, x.at_.2), (x.to_.1 + b, x.to_.2), x.pc, x.am, x.tp⟩
theorem mvA_eq {b : Int} {x : Flw} (h : ¬ x.kd = 1) : mvA b x = mvF b x := by unfold mvA mvF; rw [if_neg h]
theorem mvT_eq {b : Int} {x : Flw} (h : x.kd = 1) : mvT b x = mvF b x := by unfold mvT mvF; rw [if_pos h]
theorem mv_row {b : Int} {l : List Flw} {k : Nat} {x y : Flw} (hx : l[k]? = some x) (hy : y = mvF b x) : ((mvL b l k).map flwC).set k (flwC y) = (mvL b l (k + 1)).map flwC := by
  rw [hy, ← List.map_set, mvL_set hx]
theorem mv_row2 {b : Int} {l : List Flw} {k : Nat} {x : Flw} (hx : l[k]? = some x) : ((mvL b l (k + 1)).map flwC)[k]? = some (flwC (mvF b x)) := by
  have hk := (List.getElem?_eq_some_iff.1 hx).1
  rw [← mv_row hx rfl, List.getElem?_set_self (by rw [List.length_map, mvL_len]; exact hk)]
set_option maxRecDepth 100000 in
theorem movedO_p (s : Spc) (hl : s.ar.el.length ≤ 1000) (h2 : s.pl.length ≤ 1000) (h3 : s.fl.length ≤ 1000) (he : 0 < s.ar.el.length) (hp : 0 < s.pl.length) (b : Int) (h0 : 0 < s.fl.length) (hfl : ∀ x ∈ s.fl, FlwOk x) : PC Tryz.prog 75 [.agg (spcC s), .v (.int .i64 (b))] (.tup [.agg (spcC (mvR0 s b).1), .v (.int .i64 ((mvR0 s b).2))]) := by
  have hml : (s.fl.map flwC).length = s.fl.length := List.length_map _
  refine pc_of_awpN Tryz.func75 rfl Tryz.ntmps75 (rs := [.cell 4 32, .tmp 5]) Tryz.results75 (by simp) fun w0 hmine hrnd hpn => ?_
  refine awp_seq ?_
  refine awp_region 0 mixed (by kernel_rfl) ?_
  refine rg_nil ?_
  refine aops_box rfl (by exact .inr ⟨_, rfl⟩) rfl rfl rfl ?_
  refine aops_alloc zr32 rfl rfl rfl ?_
  refine aops_q rfl (q_assign (x := .d (.v _)) rfl) ?_
  refine aops_nil ?_
  change Awp _ _ _ _ _
  refine awp_seq ?_
  refine awp_seq ?_
  refine awp_region 3 mixed (by kernel_rfl) ?_
  refine rg_q (q_move (x := .d (.v _)) rfl) ?_
  refine rg_q (q_call en78 (.cons rfl (.cons rfl .nil)) rfl (bsmall_p _ _ (by omega) (by omega))) ?_
  refine rg_q (q_not rfl) ?_
  refine rg_nil ?_
  refine aops_nil ?_
  change Awp _ _ _ _ _
  refine awp_cond rfl (fun hc1 => ?_) (fun hc1 => ?_)
  ·
    (try simp only [decide_eq_true_eq, decide_eq_false_iff_not, Bool.and_eq_true, Bool.or_eq_true, Bool.and_eq_false_iff, Bool.or_eq_false_iff, Bool.not_eq_true', Bool.not_eq_false', Bool.not_true, Bool.not_false, bif_and, bif_or, Bool.not_not, ne_eq, Decidable.not_not, not_true_eq_false, not_false_eq_true, Int.not_le, Int.not_lt] at hc1)
    have hz : mvR0 s b = (zSpc, 2) := by unfold mvR0; rw [if_neg (by rw [hc1]; decide)]
    refine awp_seq ?_
    refine awp_region 1 mixed (by kernel_rfl) ?_
    refine rg_q (q_build pl32 zr32 rfl .nil trivial rfl) ?_
    refine rg_nil ?_
    refine aops_store sz32 rfl rfl (by exact .inr ⟨_, rfl⟩) rfl rfl (by decide) rfl ?_
    refine aops_q rfl (q_assign (x := .d (.v _)) rfl) ?_
    refine aops_nil ?_
    change Awp _ _ _ _ _
    refine Awp.le (le_upB 4 (spcC zSpc) rfl (.cons (.nil 2) (.cons (.same _) (.cons (.same _) (.cons (.same _) (.cons (.same _) (.cons (.same _) (.cons (.same _) (.cons (.same _) (.cons (.same _) (.cons (.same _) (.cons (.same _) (.cons (.nil 1) (.cons (.nil 8) .nil)))))))))))))) ?_
    refine awp_ret ?_
    refine ⟨_, (.cons (.cellA rfl rfl sz32 rfl) (.cons (.tmp (by exact .d _)) .nil)), ?_⟩
    rw [hz]; rfl
  ·
    (try simp only [decide_eq_true_eq, decide_eq_false_iff_not, Bool.and_eq_true, Bool.or_eq_true, Bool.and_eq_false_iff, Bool.or_eq_false_iff, Bool.not_eq_true', Bool.not_eq_false', Bool.not_true, Bool.not_false, bif_and, bif_or, Bool.not_not, ne_eq, Decidable.not_not, not_true_eq_false, not_false_eq_true, Int.not_le, Int.not_lt] at hc1)
    have hbb : inR (-100000) b 100000 = true := hc1
    have hb2 : -100000 ≤ b ∧ b ≤ 100000 := by simpa [inR] using hc1
    refine awp_skip ?_
    change Awp _ _ _ _ _
    refine awp_seq ?_
    refine awp_region 1 mixed (by kernel_rfl) ?_
    refine rg_q (q_load_refA sz32 rfl rfl rfl rfl) ?_
    refine rg_nil ?_
    refine aops_callL [13] [] en73 (copiedO_p s hl h2 h3 he hp h0) (.cons rfl .nil) rfl rfl rfl (by repeat (exact trivial)) (by repeat (first | exact trivial | refine ⟨rfl, ?_⟩)) rfl ?_
    refine aops_le (le_tbox (k := 2) (ts := [_, _, _, _, _, _, _, _, _, _, _, _, _]) rfl rfl) ?_
    refine aops_storeAg sz32 rfl rfl rfl rfl rfl rfl rfl ?_
    refine aops_nil ?_
    change Awp _ _ _ _ _
    refine awp_seq ?_
    refine awp_seq ?_
    refine awp_region 4 mixed (by kernel_rfl) ?_
    refine rg_q (q_fieldAddr_ref fld32_2 rfl) ?_
    refine rg_q (q_load_tb (x := .rs _) sz30 rfl rfl rfl) ?_
    refine rg_q (q_len_rs isl30 rfl rfl) ?_
    refine rg_q (q_move (x := .d (.v _)) rfl) ?_
    refine rg_nil ?_
    refine aops_nil ?_
    change Awp _ _ _ _ _
    skip
    (try simp only [List.length_map] at hl15)
    refine awp_block ?_
    refine awp_loopH [5, 6, 7, 17, 18, 19, 20, 21, 22, 23, 24, 25, 26, 27, 28, 29, 30, 31, 32, 33, 34, 35, 36, 37, 38, 39, 40, 41, 42, 43, 44, 45, 46, 47, 48, 49, 50, 51, 52, 53, 54, 55, 56, 57, 58, 59, 60, 61, 62, 63, 64, 65, 66] [2, 13] (α := Nat) (fun k => [(17, T.i (k : Int))]) (fun k => [(2, .tbox ((arrC s.ar ++ [D.sl 1 (s.pl.map iC)]).map T.d ++ [.rs 13])), (13, .row 95 8 ((mvL b s.fl k).map flwC))]) (fun k => k ≤ s.fl.length ∧ (s.fl.take k).all (mvB b) = true) (fun k => s.fl.length - k) 0 ⟨Nat.zero_le _, rfl⟩ ?_ ?_
    · exact le_head (ms := [2, 13]) (by repeat (exact Out.refl _)) ⟨(by rfl), trivial⟩ ⟨(by rfl), (by rfl), trivial⟩ rfl rfl rfl rfl
    ·
      intro k ⟨hk, hall⟩
      refine awp_seq ?_
      refine awp_region 1 mixed (by kernel_rfl) ?_
      refine rg_q (q_lss rfl rfl) ?_
      refine rg_nil ?_
      refine aops_nil ?_
      change Awp _ _ _ _ _
      refine awp_seq ?_
      refine awp_cond rfl (fun hc5 => ?_) (fun hc5 => ?_)
      ·
        (try simp only [decide_eq_true_eq, decide_eq_false_iff_not, Bool.and_eq_true, Bool.or_eq_true, Bool.and_eq_false_iff, Bool.or_eq_false_iff, Bool.not_eq_true', Bool.not_eq_false', Bool.not_true, Bool.not_false, bif_and, bif_or, Bool.not_not, ne_eq, Decidable.not_not, not_true_eq_false, not_false_eq_true, Int.not_le, Int.not_lt] at hc5)
        have hlt : k < s.fl.length := by omega
        obtain ⟨x, hx⟩ : ∃ x, s.fl[k]? = some x := ⟨_, List.getElem?_eq_getElem hlt⟩
        have hxo := hfl x (List.mem_of_getElem? hx)
        have ha1 := hxo.a1
        have hpl := hxo.pl
        have hml2 : ((mvL b s.fl k).map flwC).length = s.fl.length := by rw [List.length_map, mvL_len]
        have hrow : ((mvL b s.fl k).map flwC)[k]? = some (flwC x) := by rw [List.getElem?_map, mvL_at hx]; rfl
        have hrow2 := mv_row2 (b := b) hx
        refine awp_skip ?_
        change Awp _ _ _ _ _
        refine awp_seq ?_
        refine awp_block ?_
        refine awp_seq ?_
        refine awp_region 2 mixed (by kernel_rfl) ?_
        refine rg_q (q_move (x := .d (.v _)) rfl) ?_
        refine rg_q (q_assign (x := .d (.v _)) rfl) ?_
        refine rg_nil ?_
        refine aops_nil ?_
        change Awp _ _ _ _ _
        refine awp_seq ?_
        refine awp_region 5 mixed (by kernel_rfl) ?_
        refine rg_q (q_fieldAddr_ref fld32_2 rfl) ?_
        refine rg_q (q_load_tb (x := .rs _) sz30 rfl rfl rfl) ?_
        refine rg_q (q_move (x := .d (.v _)) rfl) ?_
        refine rg_q (q_indexAddr_rs sl30 rfl rfl rfl (by omega) (by omega)) ?_
        refine rg_q (q_assign (x := .ref _ _) rfl) ?_
        refine rg_nil ?_
        refine aops_nil ?_
        change Awp _ _ _ _ _
        refine awp_seq ?_
        refine awp_region 10 mixed (by kernel_rfl) ?_
        refine rg_q (q_move (x := .ref _ _) rfl) ?_
        refine rg_q (q_nilCheck_ref rfl) ?_
        refine rg_q (q_fieldAddr_ref fld95_1 rfl) ?_
        refine rg_q (q_fieldAddr_ref fld50_0 rfl) ?_
        refine rg_q (q_load_row sz3 rfl rfl (i := k) (j := 1) (by rw [Int.toNat_natCast]) hrow rfl) ?_
        refine rg_q (q_move (x := .d (.v _)) rfl) ?_
        refine rg_q (q_add rfl rfl (In64.mk (by omega) (by omega))) ?_
        refine rg_q (q_nilCheck_ref rfl) ?_
        refine rg_q (q_fieldAddr_ref fld95_1 rfl) ?_
        refine rg_q (q_fieldAddr_ref fld50_0 rfl) ?_
        refine rg_nil ?_
        refine aops_store_row sz3 rfl rfl (by exact .inl rfl) rfl rfl (i := k) (j := 1) (es' := (((mvL b s.fl k).map flwC).set k (flwC (mvA b x)))) (by rw [Int.toNat_natCast]) hrow (by decide) rfl ?_
        refine aops_nil ?_
        change Awp _ _ _ _ _
        refine awp_seq ?_
        refine awp_seq ?_
        refine awp_region 5 mixed (by kernel_rfl) ?_
        refine rg_q (q_move (x := .ref _ _) rfl) ?_
        refine rg_q (q_nilCheck_ref rfl) ?_
        refine rg_q (q_fieldAddr_ref fld95_0 rfl) ?_
        refine rg_q (q_load_row sz3 rfl rfl (i := k) (j := 0) (by rw [Int.toNat_natCast]) (by rw [List.getElem?_set_self (by omega)]) rfl) ?_
        refine rg_q (q_eql rfl rfl) ?_
        refine rg_nil ?_
        refine aops_nil ?_
        change Awp _ _ _ _ _
        refine awp_cond rfl (fun hc9 => ?_) (fun hc9 => ?_)
        ·
          (try simp only [decide_eq_true_eq, decide_eq_false_iff_not, Bool.and_eq_true, Bool.or_eq_true, Bool.and_eq_false_iff, Bool.or_eq_false_iff, Bool.not_eq_true', Bool.not_eq_false', Bool.not_true, Bool.not_false, bif_and, bif_or, Bool.not_not, ne_eq, Decidable.not_not, not_true_eq_false, not_false_eq_true, Int.not_le, Int.not_lt] at hc9)
          have hk1 : x.kd = 1 := hc9
          have hpl2 := (hpl (by omega)).1
          have hpl3 : (mvA b x).to_.1 = x.to_.1 := rfl
          refine awp_region 10 mixed (by kernel_rfl) ?_
          refine rg_q (q_move (x := .ref _ _) rfl) ?_
          refine rg_q (q_nilCheck_ref rfl) ?_
          refine rg_q (q_fieldAddr_ref fld95_2 rfl) ?_
          refine rg_q (q_fieldAddr_ref fld50_0 rfl) ?_
          refine rg_q (q_load_row sz3 rfl rfl (i := k) (j := 3) (by rw [Int.toNat_natCast]) (by rw [List.getElem?_set_self (by omega)]) rfl) ?_
          refine rg_q (q_move (x := .d (.v _)) rfl) ?_
          refine rg_q (q_add rfl rfl (In64.mk (by omega) (by omega))) ?_
          refine rg_q (q_nilCheck_ref rfl) ?_
          refine rg_q (q_fieldAddr_ref fld95_2 rfl) ?_
          refine rg_q (q_fieldAddr_ref fld50_0 rfl) ?_
          refine rg_nil ?_
          refine aops_store_row sz3 rfl rfl (by exact .inl rfl) rfl rfl (i := k) (j := 3) (es' := (mvL b s.fl (k + 1)).map flwC) (by rw [Int.toNat_natCast]) (by rw [List.getElem?_set_self (by omega)]) (by decide) (by rw [List.set_set]; exact mv_row hx (mvT_eq hk1)) ?_
          refine aops_nil ?_
          change Awp _ _ _ _ _
          refine awp_seq ?_
          refine awp_region 16 mixed (by kernel_rfl) ?_
          refine rg_q (q_move (x := .ref _ _) rfl) ?_
          refine rg_q (q_nilCheck_ref rfl) ?_
          refine rg_q (q_fieldAddr_ref fld95_1 rfl) ?_
          refine rg_q (q_fieldAddr_ref fld50_0 rfl) ?_
          refine rg_q (q_load_row sz3 rfl rfl (i := k) (j := 1) (by rw [Int.toNat_natCast]) hrow2 rfl) ?_
          refine rg_q (q_call en78 (.cons rfl (.cons rfl .nil)) rfl (bsmall_p _ _ (by omega) (by omega))) ?_
          refine rg_q (q_not rfl) ?_
          refine rg_q (q_move (x := .d (.v _)) rfl) ?_
          refine rg_g rfl rfl (fun hG => (q_move (x := .ref _ _) rfl)) ?_
          refine rg_g rfl rfl (fun hG => (q_nilCheck_ref rfl)) ?_
          refine rg_g rfl rfl (fun hG => (q_fieldAddr_ref fld95_2 rfl)) ?_
          refine rg_g rfl rfl (fun hG => (q_fieldAddr_ref fld50_0 rfl)) ?_
          refine rg_g rfl rfl (fun hG => (q_load_row sz3 rfl rfl (i := k) (j := 3) (by rw [Int.toNat_natCast]) hrow2 rfl)) ?_
          refine rg_g rfl rfl (fun hG => (q_call en78 (.cons rfl (.cons rfl .nil)) rfl (bsmall_p _ _ (by omega) (by omega)))) ?_
          refine rg_g rfl rfl (fun hG => (q_not rfl)) ?_
          refine rg_pick rfl rfl rfl rfl rfl rfl ?_
          refine rg_nil ?_
          refine aops_nil ?_
          change Awp _ _ _ _ _
          refine awp_cond rfl (fun hc11 => ?_) (fun hc11 => ?_)
          ·
            (try simp only [decide_eq_true_eq, decide_eq_false_iff_not, Bool.and_eq_true, Bool.or_eq_true, Bool.and_eq_false_iff, Bool.or_eq_false_iff, Bool.not_eq_true', Bool.not_eq_false', Bool.not_true, Bool.not_false, bif_and, bif_or, Bool.not_not, ne_eq, Decidable.not_not, not_true_eq_false, not_false_eq_true, Int.not_le, Int.not_lt] at hc11)
            have hb3 : mvB b x = false := by
              cases q : mvB b x with
              | false => rfl
              | true => unfold mvB at q; simp only [Bool.and_eq_true] at q; simp [q.1, q.2] at hc11
            have hz : mvR0 s b = (zSpc, 2) := by unfold mvR0; rw [if_pos hbb, if_neg (all_not hx hb3)]
            refine awp_seq ?_
            refine awp_region 1 mixed (by kernel_rfl) ?_
            refine rg_q (q_build pl32 zr32 rfl .nil trivial rfl) ?_
            refine rg_nil ?_
            refine aops_store sz32 rfl rfl (by exact .inr ⟨_, rfl⟩) rfl rfl (by decide) rfl ?_
            refine aops_q rfl (q_assign (x := .d (.v _)) rfl) ?_
            refine aops_nil ?_
            change Awp _ _ _ _ _
            refine Awp.le (le_upB 4 (spcC zSpc) rfl (.cons (.nil 2) (.cons (.same _) (.cons (.same _) (.cons (.same _) (.cons (.same _) (.cons (.same _) (.cons (.same _) (.cons (.same _) (.cons (.same _) (.cons (.same _) (.cons (.same _) (.cons (.nil 1) (.cons (.nil 8) .nil)))))))))))))) ?_
            refine awp_ret ?_
            refine ⟨_, (.cons (.cellA rfl rfl sz32 rfl) (.cons (.tmp (by exact .d _)) .nil)), ?_⟩
            rw [hz]; rfl
          ·
            (try simp only [decide_eq_true_eq, decide_eq_false_iff_not, Bool.and_eq_true, Bool.or_eq_true, Bool.and_eq_false_iff, Bool.or_eq_false_iff, Bool.not_eq_true', Bool.not_eq_false', Bool.not_true, Bool.not_false, bif_and, bif_or, Bool.not_not, ne_eq, Decidable.not_not, not_true_eq_false, not_false_eq_true, Int.not_le, Int.not_lt] at hc11)
            have hb3 : mvB b x = true := by
              unfold mvB
              exact (Bool.and_eq_true _ _).mpr ⟨hc11.1, hc11.2⟩
            refine awp_skip ?_
            change Awp _ _ _ _ _
            refine awp_region 2 mixed (by kernel_rfl) ?_
            refine rg_q (q_add rfl rfl (In64.mk (by omega) (by omega))) ?_
            refine rg_q (q_move (x := .d (.v _)) rfl) ?_
            refine rg_nil ?_
            refine aops_nil ?_
            refine ⟨k + 1, ⟨by omega, all_step hx hall hb3⟩, by omega, ?_⟩
            exact le_head (ms := [2, 13]) (by repeat (first | exact Out.head rfl rfl | (refine Out.put ?_ rfl) | (refine Out.site ?_ rfl))) ⟨(by rfl), trivial⟩ ⟨(by rfl), (by rfl), trivial⟩ rfl rfl rfl rfl
        ·
          (try simp only [decide_eq_true_eq, decide_eq_false_iff_not, Bool.and_eq_true, Bool.or_eq_true, Bool.and_eq_false_iff, Bool.or_eq_false_iff, Bool.not_eq_true', Bool.not_eq_false', Bool.not_true, Bool.not_false, bif_and, bif_or, Bool.not_not, ne_eq, Decidable.not_not, not_true_eq_false, not_false_eq_true, Int.not_le, Int.not_lt] at hc9)
          have hk1 : ¬ x.kd = 1 := hc9
          rw [mv_row hx (mvA_eq hk1)]
          refine awp_skip ?_
          change Awp _ _ _ _ _
          refine awp_seq ?_
          refine awp_region 16 mixed (by kernel_rfl) ?_
          refine rg_q (q_move (x := .ref _ _) rfl) ?_
          refine rg_q (q_nilCheck_ref rfl) ?_
          refine rg_q (q_fieldAddr_ref fld95_1 rfl) ?_
          refine rg_q (q_fieldAddr_ref fld50_0 rfl) ?_
          refine rg_q (q_load_row sz3 rfl rfl (i := k) (j := 1) (by rw [Int.toNat_natCast]) hrow2 rfl) ?_
          refine rg_q (q_call en78 (.cons rfl (.cons rfl .nil)) rfl (bsmall_p _ _ (by omega) (by omega))) ?_
          refine rg_q (q_not rfl) ?_
          refine rg_q (q_move (x := .d (.v _)) rfl) ?_
          refine rg_g rfl rfl (fun hG => (q_move (x := .ref _ _) rfl)) ?_
          refine rg_g rfl rfl (fun hG => (q_nilCheck_ref rfl)) ?_
          refine rg_g rfl rfl (fun hG => (q_fieldAddr_ref fld95_2 rfl)) ?_
          refine rg_g rfl rfl (fun hG => (q_fieldAddr_ref fld50_0 rfl)) ?_
          refine rg_g rfl rfl (fun hG => (q_load_row sz3 rfl rfl (i := k) (j := 3) (by rw [Int.toNat_natCast]) hrow2 rfl)) ?_
          refine rg_g rfl rfl (fun hG => (q_call en78 (.cons rfl (.cons rfl .nil)) rfl (bsmall_p _ _ (by omega) (by omega)))) ?_
          refine rg_g rfl rfl (fun hG => (q_not rfl)) ?_
          refine rg_pick rfl rfl rfl rfl rfl rfl ?_
          refine rg_nil ?_
          refine aops_nil ?_
          change Awp _ _ _ _ _
          refine awp_cond rfl (fun hc11 => ?_) (fun hc11 => ?_)
          ·
            (try simp only [decide_eq_true_eq, decide_eq_false_iff_not, Bool.and_eq_true, Bool.or_eq_true, Bool.and_eq_false_iff, Bool.or_eq_false_iff, Bool.not_eq_true', Bool.not_eq_false', Bool.not_true, Bool.not_false, bif_and, bif_or, Bool.not_not, ne_eq, Decidable.not_not, not_true_eq_false, not_false_eq_true, Int.not_le, Int.not_lt] at hc11)
            have hb3 : mvB b x = false := by
              cases q : mvB b x with
              | false => rfl
              | true => unfold mvB at q; simp only [Bool.and_eq_true] at q; simp [q.1, q.2] at hc11
            have hz : mvR0 s b = (zSpc, 2) := by unfold mvR0; rw [if_pos hbb, if_neg (all_not hx hb3)]
            refine awp_seq ?_
            refine awp_region 1 mixed (by kernel_rfl) ?_
            refine rg_q (q_build pl32 zr32 rfl .nil trivial rfl) ?_
            refine rg_nil ?_
            refine aops_store sz32 rfl rfl (by exact .inr ⟨_, rfl⟩) rfl rfl (by decide) rfl ?_
            refine aops_q rfl (q_assign (x := .d (.v _)) rfl) ?_
            refine aops_nil ?_
            change Awp _ _ _ _ _
            refine Awp.le (le_upB 4 (spcC zSpc) rfl (.cons (.nil 2) (.cons (.same _) (.cons (.same _) (.cons (.same _) (.cons (.same _) (.cons (.same _) (.cons (.same _) (.cons (.same _) (.cons (.same _) (.cons (.same _) (.cons (.same _) (.cons (.nil 1) (.cons (.nil 8) .nil)))))))))))))) ?_
            refine awp_ret ?_
            refine ⟨_, (.cons (.cellA rfl rfl sz32 rfl) (.cons (.tmp (by exact .d _)) .nil)), ?_⟩
            rw [hz]; rfl
          ·
            (try simp only [decide_eq_true_eq, decide_eq_false_iff_not, Bool.and_eq_true, Bool.or_eq_true, Bool.and_eq_false_iff, Bool.or_eq_false_iff, Bool.not_eq_true', Bool.not_eq_false', Bool.not_true, Bool.not_false, bif_and, bif_or, Bool.not_not, ne_eq, Decidable.not_not, not_true_eq_false, not_false_eq_true, Int.not_le, Int.not_lt] at hc11)
            have hb3 : mvB b x = true := by
              unfold mvB
              exact (Bool.and_eq_true _ _).mpr ⟨hc11.1, hc11.2⟩
            refine awp_skip ?_
            change Awp _ _ _ _ _
            refine awp_region 2 mixed (by kernel_rfl) ?_
            refine rg_q (q_add rfl rfl (In64.mk (by omega) (by omega))) ?_
            refine rg_q (q_move (x := .d (.v _)) rfl) ?_
            refine rg_nil ?_
            refine aops_nil ?_
            refine ⟨k + 1, ⟨by omega, all_step hx hall hb3⟩, by omega, ?_⟩
            exact le_head (ms := [2, 13]) (by repeat (first | exact Out.head rfl rfl | (refine Out.put ?_ rfl) | (refine Out.site ?_ rfl))) ⟨(by rfl), trivial⟩ ⟨(by rfl), (by rfl), trivial⟩ rfl rfl rfl rfl
      ·
        (try simp only [decide_eq_true_eq, decide_eq_false_iff_not, Bool.and_eq_true, Bool.or_eq_true, Bool.and_eq_false_iff, Bool.or_eq_false_iff, Bool.not_eq_true', Bool.not_eq_false', Bool.not_true, Bool.not_false, bif_and, bif_or, Bool.not_not, ne_eq, Decidable.not_not, not_true_eq_false, not_false_eq_true, Int.not_le, Int.not_lt] at hc5)
        have hkn : k = s.fl.length := by omega
        subst hkn
        have hall2 : s.fl.all (mvB b) = true := by rw [List.take_length] at hall; exact hall
        have hz : mvR0 s b = (mvS s b, 0) := by unfold mvR0; rw [if_pos hbb, if_pos hall2]
        rw [mvL_all]
        refine awp_exit ?_
        change Awp _ _ _ _ _
        refine awp_seq ?_
        refine Awp.le (le_freezeTB 2 13 12 rfl rfl rfl rfl hmine) ?_
        refine Awp.le (le_boxT 2 (spcC (mvS s b)) rfl rfl (by intro j d h; match j, h with | 0, h | 1, h | 2, h | 3, h | 4, h | 5, h | 6, h | 7, h | 8, h | 9, h | 10, h | 11, h | 12, h => cases h; rfl)) ?_
        refine awp_region 1 mixed (by kernel_rfl) ?_
        refine rg_q (q_load_refA sz32 rfl rfl rfl rfl) ?_
        refine rg_nil ?_
        refine aops_store sz32 rfl rfl (by exact .inr ⟨_, rfl⟩) rfl rfl (by decide) rfl ?_
        refine aops_q rfl (q_assign (x := .d (.v _)) rfl) ?_
        refine aops_nil ?_
        change Awp _ _ _ _ _
        refine awp_ret ?_
        refine ⟨_, (.cons (.cellA rfl rfl sz32 rfl) (.cons (.tmp (by exact .d _)) .nil)), ?_⟩
        rw [hz]; rfl
set_option maxRecDepth 100000 in
theorem movedN_p (s : Spc) (hl : s.ar.el.length ≤ 1000) (h2 : s.pl.length ≤ 1000) (h3 : s.fl.length ≤ 1000) (he : 0 < s.ar.el.length) (hp : 0 < s.pl.length) (b : Int) (hn : s.fl.length = 0) : PC Tryz.prog 75 [.agg (spcC s), .v (.int .i64 (b))] (.tup [.agg (spcC (mvR0 s b).1), .v (.int .i64 ((mvR0 s b).2))]) := by
  have hml : (s.fl.map flwC).length = s.fl.length := List.length_map _
  have hS : mvS s b = s := by unfold mvS; rw [List.length_eq_zero_iff.1 hn]; have e := List.length_eq_zero_iff.1 hn; cases s; simp only at e; subst e; rfl
  refine pc_of_awpN Tryz.func75 rfl Tryz.ntmps75 (rs := [.cell 4 32, .tmp 5]) Tryz.results75 (by simp) fun w0 hmine hrnd hpn => ?_
  refine awp_seq ?_
  refine awp_region 0 mixed (by kernel_rfl) ?_
  refine rg_nil ?_
  refine aops_box rfl (by exact .inr ⟨_, rfl⟩) rfl rfl rfl ?_
  refine aops_alloc zr32 rfl rfl rfl ?_
  refine aops_q rfl (q_assign (x := .d (.v _)) rfl) ?_
  refine aops_nil ?_
  change Awp _ _ _ _ _
  refine awp_seq ?_
  refine awp_seq ?_
  refine awp_region 3 mixed (by kernel_rfl) ?_
  refine rg_q (q_move (x := .d (.v _)) rfl) ?_
  refine rg_q (q_call en78 (.cons rfl (.cons rfl .nil)) rfl (bsmall_p _ _ (by omega) (by omega))) ?_
  refine rg_q (q_not rfl) ?_
  refine rg_nil ?_
  refine aops_nil ?_
  change Awp _ _ _ _ _
  refine awp_cond rfl (fun hc1 => ?_) (fun hc1 => ?_)
  ·
    (try simp only [decide_eq_true_eq, decide_eq_false_iff_not, Bool.and_eq_true, Bool.or_eq_true, Bool.and_eq_false_iff, Bool.or_eq_false_iff, Bool.not_eq_true', Bool.not_eq_false', Bool.not_true, Bool.not_false, bif_and, bif_or, Bool.not_not, ne_eq, Decidable.not_not, not_true_eq_false, not_false_eq_true, Int.not_le, Int.not_lt] at hc1)
    have hz : mvR0 s b = (zSpc, 2) := by unfold mvR0; rw [if_neg (by rw [hc1]; decide)]
    refine awp_seq ?_
    refine awp_region 1 mixed (by kernel_rfl) ?_
    refine rg_q (q_build pl32 zr32 rfl .nil trivial rfl) ?_
    refine rg_nil ?_
    refine aops_store sz32 rfl rfl (by exact .inr ⟨_, rfl⟩) rfl rfl (by decide) rfl ?_
    refine aops_q rfl (q_assign (x := .d (.v _)) rfl) ?_
    refine aops_nil ?_
    change Awp _ _ _ _ _
    refine Awp.le (le_upB 4 (spcC zSpc) rfl (.cons (.nil 2) (.cons (.same _) (.cons (.same _) (.cons (.same _) (.cons (.same _) (.cons (.same _) (.cons (.same _) (.cons (.same _) (.cons (.same _) (.cons (.same _) (.cons (.same _) (.cons (.nil 1) (.cons (.nil 8) .nil)))))))))))))) ?_
    refine awp_ret ?_
    refine ⟨_, (.cons (.cellA rfl rfl sz32 rfl) (.cons (.tmp (by exact .d _)) .nil)), ?_⟩
    rw [hz]; rfl
  ·
    (try simp only [decide_eq_true_eq, decide_eq_false_iff_not, Bool.and_eq_true, Bool.or_eq_true, Bool.and_eq_false_iff, Bool.or_eq_false_iff, Bool.not_eq_true', Bool.not_eq_false', Bool.not_true, Bool.not_false, bif_and, bif_or, Bool.not_not, ne_eq, Decidable.not_not, not_true_eq_false, not_false_eq_true, Int.not_le, Int.not_lt] at hc1)
    have hbb : inR (-100000) b 100000 = true := hc1
    refine awp_skip ?_
    change Awp _ _ _ _ _
    refine awp_seq ?_
    refine awp_region 2 mixed (by kernel_rfl) ?_
    refine rg_q (q_load_refA sz32 rfl rfl rfl rfl) ?_
    refine rg_q (q_call en73 (.cons rfl .nil) rfl (copiedN_p s hl h2 h3 he hp hn)) ?_
    refine rg_nil ?_
    refine aops_store sz32 rfl rfl (by exact .inr ⟨_, rfl⟩) rfl rfl (by exact Nat.le_of_ble_eq_true rfl) rfl ?_
    refine aops_nil ?_
    change Awp _ _ _ _ _
    refine awp_seq ?_
    refine awp_seq ?_
    refine awp_region 4 mixed (by kernel_rfl) ?_
    refine rg_q (q_fieldAddr_ref fld32_2 rfl) ?_
    refine rg_q (q_load_ref sz30 rfl rfl rfl) ?_
    refine rg_q (q_len isl30 rfl (by exact len_map _ _)) ?_
    refine rg_q (q_move (x := .d (.v _)) rfl) ?_
    refine rg_nil ?_
    refine aops_nil ?_
    change Awp _ _ _ _ _
    refine awp_len (t := 15) rfl (fun hl15 => ?_)
    (try simp only [List.length_map] at hl15)
    refine awp_block ?_
    refine awp_loopH [5, 6, 7, 17, 18, 19, 20, 21, 22, 23, 24, 25, 26, 27, 28, 29, 30, 31, 32, 33, 34, 35, 36, 37, 38, 39, 40, 41, 42, 43, 44, 45, 46, 47, 48, 49, 50, 51, 52, 53, 54, 55, 56, 57, 58, 59, 60, 61, 62, 63, 64, 65, 66] [] (α := Nat) (fun k => [(17, T.i (k : Int))]) (fun k => []) (fun k => k = 0) (fun k => 0) 0 rfl ?_ ?_
    · exact le_head (ms := []) (by repeat (exact Out.refl _)) ⟨(by rfl), trivial⟩ trivial rfl rfl rfl rfl
    ·
      intro k hk
      subst hk
      refine awp_seq ?_
      refine awp_region 1 mixed (by kernel_rfl) ?_
      refine rg_q (q_lss rfl rfl) ?_
      refine rg_nil ?_
      refine aops_nil ?_
      change Awp _ _ _ _ _
      refine awp_seq ?_
      refine awp_cond rfl (fun hc5 => ?_) (fun hc5 => ?_)
      ·
        exact absurd (of_decide_eq_true hc5) (by omega)
      ·
        (try simp only [decide_eq_true_eq, decide_eq_false_iff_not, Bool.and_eq_true, Bool.or_eq_true, Bool.and_eq_false_iff, Bool.or_eq_false_iff, Bool.not_eq_true', Bool.not_eq_false', Bool.not_true, Bool.not_false, bif_and, bif_or, Bool.not_not, ne_eq, Decidable.not_not, not_true_eq_false, not_false_eq_true, Int.not_le, Int.not_lt] at hc5)
        have hz : mvR0 s b = (s, 0) := by unfold mvR0; rw [if_pos hbb, if_pos (by rw [List.length_eq_zero_iff.1 hn]; rfl), hS]
        refine awp_exit ?_
        change Awp _ _ _ _ _
        refine awp_seq ?_
        refine awp_region 1 mixed (by kernel_rfl) ?_
        refine rg_q (q_load_refA sz32 rfl rfl rfl rfl) ?_
        refine rg_nil ?_
        refine aops_store sz32 rfl rfl (by exact .inr ⟨_, rfl⟩) rfl rfl (by decide) rfl ?_
        refine aops_q rfl (q_assign (x := .d (.v _)) rfl) ?_
        refine aops_nil ?_
        change Awp _ _ _ _ _
        refine awp_ret ?_
        refine ⟨_, (.cons (.cellA rfl rfl sz32 rfl) (.cons (.tmp (by exact .d _)) .nil)), ?_⟩
        rw [hz]; rfl

theorem moved0_p (s : Spc) (hl : s.ar.el.length ≤ 1000) (h2 : s.pl.length ≤ 1000) (h3 : s.fl.length ≤ 1000) (he : 0 < s.ar.el.length) (hp : 0 < s.pl.length) (b : Int) (hfl : ∀ x ∈ s.fl, FlwOk x) : PC Tryz.prog 75 [.agg (spcC s), .v (.int .i64 (b))] (.tup [.agg (spcC (mvR0 s b).1), .v (.int .i64 ((mvR0 s b).2))]) := by
  by_cases h0 : s.fl.length = 0
  · exact movedN_p s hl h2 h3 he hp b h0
  · exact movedO_p s hl h2 h3 he hp b (by omega) hfl
theorem flw_to {x : Flw} (h : flwE x = 0) : -100000 ≤ x.to_.2 ∧ x.to_.2 ≤ 100000 := by
  have hok := flw_ok h
  by_cases hk : x.kd = 0
  · unfold flwE at h
    by_cases h1 : ¬ (0 ≤ x.kd ∧ x.kd ≤ 1)
    · rw [if_pos h1] at h; cases h
    rw [if_neg h1] at h
    by_cases h2 : flwE0 x ≠ 0
    · rw [if_pos h2] at h; exact absurd h h2
    rw [if_neg h2, if_pos hk] at h
    unfold poreE at h
    have := (when_zero (show (3 : Int) ≠ 0 by decide)).1 h
    simp at this
    omega
  · exact (hok.pl hk).2.1
theorem spc_fls {s : Spc} (h : (ckSpc s).2 = 0) : ∀ x ∈ s.fl, flwE x = 0 := by
  unfold ckSpc at h
  by_cases h1 : (ckArr s.ar).2 ≠ 0
  · rw [if_pos h1] at h; exact absurd h h1
  rw [if_neg h1] at h
  by_cases h2 : spcE0 s ≠ 0
  · rw [if_pos h2] at h; exact absurd h h2
  rw [if_neg h2] at h
  exact ckFls_ok h
set_option maxRecDepth 100000 in
theorem rmovedO_p (s : Spc) (hl : s.ar.el.length ≤ 1000) (h2 : s.pl.length ≤ 1000) (h3 : s.fl.length ≤ 1000) (b : Int) (h0 : 0 < s.fl.length) (hfl : ∀ x ∈ s.fl, FlwOk x) (hto : ∀ x ∈ s.fl, -100000 ≤ x.to_.2 ∧ x.to_.2 ≤ 100000) : PC Tryz.prog 38 [.agg (spcC s), .v (.int .i64 (b))] (.tup [.agg (spcC (mvR0 s b).1), .v (.int .i64 ((mvR0 s b).2))]) := by
  have hml : (s.fl.map flwC).length = s.fl.length := List.length_map _
  refine pc_of_awpN Tryz.func38 rfl Tryz.ntmps38 (rs := [.cell 4 32, .tmp 5]) Tryz.results38 (by simp) fun w0 hmine hrnd hpn => ?_
  refine awp_seq ?_
  refine awp_region 1 mixed (by kernel_rfl) ?_
  refine rg_q (q_box rfl (by exact .inr ⟨_, rfl⟩)) ?_
  refine rg_nil ?_
  refine aops_alloc zr32 rfl rfl rfl ?_
  refine aops_q rfl (q_assign (x := .d (.v _)) rfl) ?_
  refine aops_nil ?_
  change Awp _ _ _ _ _
  refine awp_seq ?_
  refine awp_seq ?_
  refine awp_region 3 mixed (by kernel_rfl) ?_
  refine rg_q (q_move (x := .d (.v _)) rfl) ?_
  refine rg_q (q_call en33 (.cons rfl (.cons rfl (.cons rfl .nil))) rfl (within4_p _ _ _)) ?_
  refine rg_q (q_not rfl) ?_
  refine rg_nil ?_
  refine aops_nil ?_
  change Awp _ _ _ _ _
  refine awp_cond rfl (fun hc1 => ?_) (fun hc1 => ?_)
  ·
    (try simp only [decide_eq_true_eq, decide_eq_false_iff_not, Bool.and_eq_true, Bool.or_eq_true, Bool.and_eq_false_iff, Bool.or_eq_false_iff, Bool.not_eq_true', Bool.not_eq_false', Bool.not_true, Bool.not_false, bif_and, bif_or, Bool.not_not, ne_eq, Decidable.not_not, not_true_eq_false, not_false_eq_true, Int.not_le, Int.not_lt] at hc1)
    have hz : mvR0 s b = (zSpc, 2) := by unfold mvR0; rw [if_neg (by rw [hc1]; decide)]
    refine awp_seq ?_
    refine awp_region 1 mixed (by kernel_rfl) ?_
    refine rg_q (q_build pl32 zr32 rfl .nil trivial rfl) ?_
    refine rg_nil ?_
    refine aops_store sz32 rfl rfl (by exact .inr ⟨_, rfl⟩) rfl rfl (by decide) rfl ?_
    refine aops_q rfl (q_assign (x := .d (.v _)) rfl) ?_
    refine aops_nil ?_
    change Awp _ _ _ _ _
    refine Awp.le (le_upB 4 (spcC zSpc) rfl (.cons (.nil 2) (.cons (.same _) (.cons (.same _) (.cons (.same _) (.cons (.same _) (.cons (.same _) (.cons (.same _) (.cons (.same _) (.cons (.same _) (.cons (.same _) (.cons (.same _) (.cons (.nil 1) (.cons (.nil 8) .nil)))))))))))))) ?_
    refine awp_ret ?_
    refine ⟨_, (.cons (.cellA rfl rfl sz32 rfl) (.cons (.tmp (by exact .d _)) .nil)), ?_⟩
    rw [hz]; rfl
  ·
    (try simp only [decide_eq_true_eq, decide_eq_false_iff_not, Bool.and_eq_true, Bool.or_eq_true, Bool.and_eq_false_iff, Bool.or_eq_false_iff, Bool.not_eq_true', Bool.not_eq_false', Bool.not_true, Bool.not_false, bif_and, bif_or, Bool.not_not, ne_eq, Decidable.not_not, not_true_eq_false, not_false_eq_true, Int.not_le, Int.not_lt] at hc1)
    have hbb : inR (-100000) b 100000 = true := hc1
    have hb2 : -100000 ≤ b ∧ b ≤ 100000 := by simpa [inR] using hc1
    refine awp_skip ?_
    change Awp _ _ _ _ _
    refine awp_seq ?_
    refine awp_region 1 mixed (by kernel_rfl) ?_
    refine rg_q (q_loadA sz32 rfl rfl rfl) ?_
    refine rg_nil ?_
    refine aops_callL [14] [] en12 (copyO_p s hl h2 h3 h0) (.cons rfl .nil) rfl rfl rfl (by repeat (exact trivial)) (by repeat (first | exact trivial | refine ⟨rfl, ?_⟩)) rfl ?_
    refine aops_alloc zr32 rfl rfl rfl ?_
    refine aops_le (le_tbox (k := 6) (ts := [_, _, _, _, _, _, _, _, _, _, _, _, _]) rfl rfl) ?_
    refine aops_storeAg sz32 rfl rfl rfl rfl rfl rfl rfl ?_
    refine aops_nil ?_
    change Awp _ _ _ _ _
    refine awp_seq ?_
    refine awp_seq ?_
    refine awp_region 1 mixed (by kernel_rfl) ?_
    refine rg_q (q_assign (x := .d (.v _)) rfl) ?_
    refine rg_nil ?_
    refine aops_nil ?_
    change Awp _ _ _ _ _
    refine awp_block ?_
    refine awp_loopH [5, 7, 8, 15, 16, 17, 18, 19, 20, 21, 22, 23, 24, 25, 26, 27, 28, 29, 30, 31, 32, 33, 34, 35, 36, 37, 38, 39, 40, 41, 42, 43, 44, 45, 46, 47, 48, 49, 50, 51, 52, 53, 54, 55, 56, 57, 58, 59] [6, 14, 8] (α := Nat) (fun k => [(7, T.i (k : Int))]) (fun k => [(6, .tbox ((arrC s.ar ++ [D.sl 1 (s.pl.map iC)]).map T.d ++ [.rs 14])), (14, .row 95 8 ((mvL b s.fl k).map flwC))]) (fun k => k ≤ s.fl.length ∧ (s.fl.take k).all (mvB b) = true) (fun k => s.fl.length - k) 0 ⟨Nat.zero_le _, rfl⟩ ?_ ?_
    · exact le_head (ms := [6, 14, 8]) (by repeat (exact Out.refl _)) ⟨(by rfl), trivial⟩ ⟨(by rfl), (by rfl), trivial⟩ rfl rfl rfl rfl
    ·
      intro k ⟨hk, hall⟩
      refine awp_seq ?_
      refine awp_seq ?_
      refine awp_region 5 mixed (by kernel_rfl) ?_
      refine rg_q (q_move (x := .d (.v _)) rfl) ?_
      refine rg_q (q_fieldAddr_ref fld32_2 rfl) ?_
      refine rg_q (q_load_tb (x := .rs _) sz30 rfl rfl rfl) ?_
      refine rg_q (q_len_rs isl30 rfl rfl) ?_
      refine rg_q (q_lss rfl rfl) ?_
      refine rg_nil ?_
      refine aops_nil ?_
      change Awp _ _ _ _ _
      skip
      (try simp only [List.length_map] at hl17)
      refine awp_cond rfl (fun hc5 => ?_) (fun hc5 => ?_)
      ·
        (try simp only [decide_eq_true_eq, decide_eq_false_iff_not, Bool.and_eq_true, Bool.or_eq_true, Bool.and_eq_false_iff, Bool.or_eq_false_iff, Bool.not_eq_true', Bool.not_eq_false', Bool.not_true, Bool.not_false, bif_and, bif_or, Bool.not_not, ne_eq, Decidable.not_not, not_true_eq_false, not_false_eq_true, Int.not_le, Int.not_lt] at hc5)
        have hml2 : ((mvL b s.fl k).map flwC).length = s.fl.length := by rw [List.length_map, mvL_len]
        have hlt : k < s.fl.length := by omega
        obtain ⟨x, hx⟩ : ∃ x, s.fl[k]? = some x := ⟨_, List.getElem?_eq_getElem hlt⟩
        have hmx := List.mem_of_getElem? hx
        have hxo := hfl x hmx
        have ha1 := hxo.a1
        have ha2 := hxo.a2
        have hat : inR (-100000) x.at_.2 100000 = true := by unfold inR; simp; omega
        have ht2 := hto x hmx
        have htt : inR (-100000) x.to_.2 100000 = true := by unfold inR; simp; omega
        have hpl := hxo.pl
        have hrow : ((mvL b s.fl k).map flwC)[k]? = some (flwC x) := by rw [List.getElem?_map, mvL_at hx]; rfl
        refine awp_skip ?_
        change Awp _ _ _ _ _
        refine awp_seq ?_
        refine awp_block ?_
        refine awp_seq ?_
        refine awp_region 5 mixed (by kernel_rfl) ?_
        refine rg_q (q_fieldAddr_ref fld32_2 rfl) ?_
        refine rg_q (q_load_tb (x := .rs _) sz30 rfl rfl rfl) ?_
        refine rg_q (q_move (x := .d (.v _)) rfl) ?_
        refine rg_q (q_indexAddr_rs sl30 rfl rfl rfl (by omega) (by omega)) ?_
        refine rg_q (q_load_rowA sz95 rfl rfl (i := k) (by rw [Int.toNat_natCast]) hrow) ?_
        refine rg_nil ?_
        refine aops_alloc zr95 rfl rfl rfl ?_
        refine aops_store sz95 rfl rfl (by exact .inr ⟨_, rfl⟩) rfl rfl (by decide) rfl ?_
        refine aops_nil ?_
        change Awp _ _ _ _ _
        refine awp_seq ?_
        refine awp_region 7 mixed (by kernel_rfl) ?_
        refine rg_q (q_fieldAddr_ref fld95_1 rfl) ?_
        refine rg_q (q_fieldAddr_ref fld50_0 rfl) ?_
        refine rg_q (q_load_ref sz3 rfl rfl rfl) ?_
        refine rg_q (q_move (x := .d (.v _)) rfl) ?_
        refine rg_q (q_add rfl rfl (In64.mk (by omega) (by omega))) ?_
        refine rg_q (q_fieldAddr_ref fld95_1 rfl) ?_
        refine rg_q (q_fieldAddr_ref fld50_0 rfl) ?_
        refine rg_nil ?_
        refine aops_store sz3 rfl rfl (by exact .inl rfl) rfl rfl (by exact Nat.le_of_ble_eq_true rfl) rfl ?_
        refine aops_nil ?_
        change Awp _ _ _ _ _
        refine awp_seq ?_
        refine awp_seq ?_
        refine awp_region 3 mixed (by kernel_rfl) ?_
        refine rg_q (q_fieldAddr_ref fld95_0 rfl) ?_
        refine rg_q (q_load_ref sz3 rfl rfl rfl) ?_
        refine rg_q (q_eql rfl rfl) ?_
        refine rg_nil ?_
        refine aops_nil ?_
        change Awp _ _ _ _ _
        refine awp_cond rfl (fun hc9 => ?_) (fun hc9 => ?_)
        ·
          (try simp only [decide_eq_true_eq, decide_eq_false_iff_not, Bool.and_eq_true, Bool.or_eq_true, Bool.and_eq_false_iff, Bool.or_eq_false_iff, Bool.not_eq_true', Bool.not_eq_false', Bool.not_true, Bool.not_false, bif_and, bif_or, Bool.not_not, ne_eq, Decidable.not_not, not_true_eq_false, not_false_eq_true, Int.not_le, Int.not_lt] at hc9)
          have hk1 : x.kd = 1 := hc9
          have hpl2 := (hpl (by omega)).1
          have hset := mv_row hx (mvT_eq (b := b) hk1)
          have hto1 : (mvF b x).to_.1 = x.to_.1 + b := by rw [← mvT_eq hk1]; rfl
          refine awp_region 7 mixed (by kernel_rfl) ?_
          refine rg_q (q_fieldAddr_ref fld95_2 rfl) ?_
          refine rg_q (q_fieldAddr_ref fld50_0 rfl) ?_
          refine rg_q (q_load_ref sz3 rfl rfl rfl) ?_
          refine rg_q (q_move (x := .d (.v _)) rfl) ?_
          refine rg_q (q_add rfl rfl (In64.mk (by omega) (by omega))) ?_
          refine rg_q (q_fieldAddr_ref fld95_2 rfl) ?_
          refine rg_q (q_fieldAddr_ref fld50_0 rfl) ?_
          refine rg_nil ?_
          refine aops_store sz3 rfl rfl (by exact .inl rfl) rfl rfl (by exact Nat.le_of_ble_eq_true rfl) rfl ?_
          refine aops_nil ?_
          change Awp _ _ _ _ _
          refine awp_seq ?_
          refine awp_seq ?_
          refine awp_region 10 mixed (by kernel_rfl) ?_
          refine rg_q (q_fieldAddr_ref fld95_1 rfl) ?_
          refine rg_q (q_load_refA (ds := [_, _]) sz50 rfl rfl rfl rfl) ?_
          refine rg_q (q_call en59 (.cons rfl .nil) rfl (risSpot_p (x.at_.1 + b, x.at_.2))) ?_
          refine rg_q (q_not rfl) ?_
          refine rg_q (q_move (x := .d (.v _)) rfl) ?_
          refine rg_g rfl rfl (fun hG => (q_fieldAddr_ref fld95_2 rfl)) ?_
          refine rg_g rfl rfl (fun hG => (q_load_refA (ds := [_, _]) sz50 rfl rfl rfl rfl)) ?_
          refine rg_g rfl rfl (fun hG => (q_call en59 (.cons rfl .nil) rfl (risSpot_p (x.to_.1 + b, x.to_.2)))) ?_
          refine rg_g rfl rfl (fun hG => (q_not rfl)) ?_
          refine rg_pick rfl rfl rfl rfl rfl rfl ?_
          refine rg_nil ?_
          refine aops_nil ?_
          change Awp _ _ _ _ _
          refine awp_cond rfl (fun hc11 => ?_) (fun hc11 => ?_)
          ·
            (try simp only [decide_eq_true_eq, decide_eq_false_iff_not, Bool.and_eq_true, Bool.or_eq_true, Bool.and_eq_false_iff, Bool.or_eq_false_iff, Bool.not_eq_true', Bool.not_eq_false', Bool.not_true, Bool.not_false, bif_and, bif_or, Bool.not_not, ne_eq, Decidable.not_not, not_true_eq_false, not_false_eq_true, Int.not_le, Int.not_lt] at hc11)
            have hb3 : mvB b x = false := by
              cases q : mvB b x with
              | false => rfl
              | true =>
                unfold mvB at q
                rw [Bool.and_eq_true, hto1] at q
                have q1 : inR (-100000) (x.at_.1 + b) 100000 = true := q.1
                simp [hat, htt, q1, q.2] at hc11
            have hz : mvR0 s b = (zSpc, 2) := by unfold mvR0; rw [if_pos hbb, if_neg (all_not hx hb3)]
            refine awp_seq ?_
            refine awp_region 1 mixed (by kernel_rfl) ?_
            refine rg_q (q_build pl32 zr32 rfl .nil trivial rfl) ?_
            refine rg_nil ?_
            refine aops_store sz32 rfl rfl (by exact .inr ⟨_, rfl⟩) rfl rfl (by decide) rfl ?_
            refine aops_q rfl (q_assign (x := .d (.v _)) rfl) ?_
            refine aops_nil ?_
            change Awp _ _ _ _ _
            refine Awp.le (le_upB 4 (spcC zSpc) rfl (.cons (.nil 2) (.cons (.same _) (.cons (.same _) (.cons (.same _) (.cons (.same _) (.cons (.same _) (.cons (.same _) (.cons (.same _) (.cons (.same _) (.cons (.same _) (.cons (.same _) (.cons (.nil 1) (.cons (.nil 8) .nil)))))))))))))) ?_
            refine awp_ret ?_
            refine ⟨_, (.cons (.cellA rfl rfl sz32 rfl) (.cons (.tmp (by exact .d _)) .nil)), ?_⟩
            rw [hz]; rfl
          ·
            (try simp only [decide_eq_true_eq, decide_eq_false_iff_not, Bool.and_eq_true, Bool.or_eq_true, Bool.and_eq_false_iff, Bool.or_eq_false_iff, Bool.not_eq_true', Bool.not_eq_false', Bool.not_true, Bool.not_false, bif_and, bif_or, Bool.not_not, ne_eq, Decidable.not_not, not_true_eq_false, not_false_eq_true, Int.not_le, Int.not_lt] at hc11)
            have hb3 : mvB b x = true := by
              unfold mvB
              rw [hto1]
              exact (Bool.and_eq_true _ _).mpr ⟨hc11.1.1, hc11.2.1⟩
            refine awp_skip ?_
            change Awp _ _ _ _ _
            refine awp_region 5 mixed (by kernel_rfl) ?_
            refine rg_q (q_fieldAddr_ref fld32_2 rfl) ?_
            refine rg_q (q_load_tb (x := .rs _) sz30 rfl rfl rfl) ?_
            refine rg_q (q_move (x := .d (.v _)) rfl) ?_
            refine rg_q (q_load_refA (ds := [_, _, _, _, _, _, _, _]) sz95 rfl rfl rfl rfl) ?_
            refine rg_q (q_indexAddr_rs sl30 rfl rfl rfl (by omega) (by omega)) ?_
            refine rg_nil ?_
            refine aops_store_row sz95 rfl rfl (by exact .inr ⟨_, rfl⟩) rfl rfl (i := k) (j := 0) (es' := (mvL b s.fl (k + 1)).map flwC) (by rw [Int.toNat_natCast, Nat.add_zero]) hrow (by decide) hset ?_
            refine aops_nil ?_
            change Awp _ _ _ _ _
            refine awp_region 3 mixed (by kernel_rfl) ?_
            refine rg_q (q_move (x := .d (.v _)) rfl) ?_
            refine rg_q (q_add rfl rfl (In64.mk (by omega) (by omega))) ?_
            refine rg_q (q_assign (x := .d (.v _)) rfl) ?_
            refine rg_nil ?_
            refine aops_nil ?_
            refine ⟨k + 1, ⟨by omega, all_step hx hall hb3⟩, by omega, ?_⟩
            exact le_head (ms := [6, 14, 8]) (by repeat (first | exact Out.head rfl rfl | (refine Out.put ?_ rfl) | (refine Out.site ?_ rfl))) ⟨(by rfl), trivial⟩ ⟨(by rfl), (by rfl), trivial⟩ rfl rfl rfl rfl
        ·
          (try simp only [decide_eq_true_eq, decide_eq_false_iff_not, Bool.and_eq_true, Bool.or_eq_true, Bool.and_eq_false_iff, Bool.or_eq_false_iff, Bool.not_eq_true', Bool.not_eq_false', Bool.not_true, Bool.not_false, bif_and, bif_or, Bool.not_not, ne_eq, Decidable.not_not, not_true_eq_false, not_false_eq_true, Int.not_le, Int.not_lt] at hc9)
          have hk1 : ¬ x.kd = 1 := hc9
          have hset := mv_row hx (mvA_eq (b := b) hk1)
          have hto1 : (mvF b x).to_.1 = x.to_.1 := by rw [← mvA_eq hk1]; rfl
          refine awp_skip ?_
          change Awp _ _ _ _ _
          refine awp_seq ?_
          refine awp_seq ?_
          refine awp_region 10 mixed (by kernel_rfl) ?_
          refine rg_q (q_fieldAddr_ref fld95_1 rfl) ?_
          refine rg_q (q_load_refA (ds := [_, _]) sz50 rfl rfl rfl rfl) ?_
          refine rg_q (q_call en59 (.cons rfl .nil) rfl (risSpot_p (x.at_.1 + b, x.at_.2))) ?_
          refine rg_q (q_not rfl) ?_
          refine rg_q (q_move (x := .d (.v _)) rfl) ?_
          refine rg_g rfl rfl (fun hG => (q_fieldAddr_ref fld95_2 rfl)) ?_
          refine rg_g rfl rfl (fun hG => (q_load_refA (ds := [_, _]) sz50 rfl rfl rfl rfl)) ?_
          refine rg_g rfl rfl (fun hG => (q_call en59 (.cons rfl .nil) rfl (risSpot_p (x.to_.1, x.to_.2)))) ?_
          refine rg_g rfl rfl (fun hG => (q_not rfl)) ?_
          refine rg_pick rfl rfl rfl rfl rfl rfl ?_
          refine rg_nil ?_
          refine aops_nil ?_
          change Awp _ _ _ _ _
          refine awp_cond rfl (fun hc11 => ?_) (fun hc11 => ?_)
          ·
            (try simp only [decide_eq_true_eq, decide_eq_false_iff_not, Bool.and_eq_true, Bool.or_eq_true, Bool.and_eq_false_iff, Bool.or_eq_false_iff, Bool.not_eq_true', Bool.not_eq_false', Bool.not_true, Bool.not_false, bif_and, bif_or, Bool.not_not, ne_eq, Decidable.not_not, not_true_eq_false, not_false_eq_true, Int.not_le, Int.not_lt] at hc11)
            have hb3 : mvB b x = false := by
              cases q : mvB b x with
              | false => rfl
              | true =>
                unfold mvB at q
                rw [Bool.and_eq_true, hto1] at q
                have q1 : inR (-100000) (x.at_.1 + b) 100000 = true := q.1
                simp [hat, htt, q1, q.2] at hc11
            have hz : mvR0 s b = (zSpc, 2) := by unfold mvR0; rw [if_pos hbb, if_neg (all_not hx hb3)]
            refine awp_seq ?_
            refine awp_region 1 mixed (by kernel_rfl) ?_
            refine rg_q (q_build pl32 zr32 rfl .nil trivial rfl) ?_
            refine rg_nil ?_
            refine aops_store sz32 rfl rfl (by exact .inr ⟨_, rfl⟩) rfl rfl (by decide) rfl ?_
            refine aops_q rfl (q_assign (x := .d (.v _)) rfl) ?_
            refine aops_nil ?_
            change Awp _ _ _ _ _
            refine Awp.le (le_upB 4 (spcC zSpc) rfl (.cons (.nil 2) (.cons (.same _) (.cons (.same _) (.cons (.same _) (.cons (.same _) (.cons (.same _) (.cons (.same _) (.cons (.same _) (.cons (.same _) (.cons (.same _) (.cons (.same _) (.cons (.nil 1) (.cons (.nil 8) .nil)))))))))))))) ?_
            refine awp_ret ?_
            refine ⟨_, (.cons (.cellA rfl rfl sz32 rfl) (.cons (.tmp (by exact .d _)) .nil)), ?_⟩
            rw [hz]; rfl
          ·
            (try simp only [decide_eq_true_eq, decide_eq_false_iff_not, Bool.and_eq_true, Bool.or_eq_true, Bool.and_eq_false_iff, Bool.or_eq_false_iff, Bool.not_eq_true', Bool.not_eq_false', Bool.not_true, Bool.not_false, bif_and, bif_or, Bool.not_not, ne_eq, Decidable.not_not, not_true_eq_false, not_false_eq_true, Int.not_le, Int.not_lt] at hc11)
            have hb3 : mvB b x = true := by
              unfold mvB
              rw [hto1]
              exact (Bool.and_eq_true _ _).mpr ⟨hc11.1.1, hc11.2.1⟩
            refine awp_skip ?_
            change Awp _ _ _ _ _
            refine awp_region 5 mixed (by kernel_rfl) ?_
            refine rg_q (q_fieldAddr_ref fld32_2 rfl) ?_
            refine rg_q (q_load_tb (x := .rs _) sz30 rfl rfl rfl) ?_
            refine rg_q (q_move (x := .d (.v _)) rfl) ?_
            refine rg_q (q_load_refA (ds := [_, _, _, _, _, _, _, _]) sz95 rfl rfl rfl rfl) ?_
            refine rg_q (q_indexAddr_rs sl30 rfl rfl rfl (by omega) (by omega)) ?_
            refine rg_nil ?_
            refine aops_store_row sz95 rfl rfl (by exact .inr ⟨_, rfl⟩) rfl rfl (i := k) (j := 0) (es' := (mvL b s.fl (k + 1)).map flwC) (by rw [Int.toNat_natCast, Nat.add_zero]) hrow (by decide) hset ?_
            refine aops_nil ?_
            change Awp _ _ _ _ _
            refine awp_region 3 mixed (by kernel_rfl) ?_
            refine rg_q (q_move (x := .d (.v _)) rfl) ?_
            refine rg_q (q_add rfl rfl (In64.mk (by omega) (by omega))) ?_
            refine rg_q (q_assign (x := .d (.v _)) rfl) ?_
            refine rg_nil ?_
            refine aops_nil ?_
            refine ⟨k + 1, ⟨by omega, all_step hx hall hb3⟩, by omega, ?_⟩
            exact le_head (ms := [6, 14, 8]) (by repeat (first | exact Out.head rfl rfl | (refine Out.put ?_ rfl) | (refine Out.site ?_ rfl))) ⟨(by rfl), trivial⟩ ⟨(by rfl), (by rfl), trivial⟩ rfl rfl rfl rfl
      ·
        (try simp only [decide_eq_true_eq, decide_eq_false_iff_not, Bool.and_eq_true, Bool.or_eq_true, Bool.and_eq_false_iff, Bool.or_eq_false_iff, Bool.not_eq_true', Bool.not_eq_false', Bool.not_true, Bool.not_false, bif_and, bif_or, Bool.not_not, ne_eq, Decidable.not_not, not_true_eq_false, not_false_eq_true, Int.not_le, Int.not_lt] at hc5)
        have hml2 : ((mvL b s.fl k).map flwC).length = s.fl.length := by rw [List.length_map, mvL_len]
        have hkn : k = s.fl.length := by omega
        subst hkn
        have hall2 : s.fl.all (mvB b) = true := by rw [List.take_length] at hall; exact hall
        have hz : mvR0 s b = (mvS s b, 0) := by unfold mvR0; rw [if_pos hbb, if_pos hall2]
        rw [mvL_all]
        refine awp_exit ?_
        change Awp _ _ _ _ _
        refine awp_seq ?_
        refine Awp.le (le_freezeTB 6 14 12 rfl rfl rfl rfl hmine) ?_
        refine Awp.le (le_boxT 6 (spcC (mvS s b)) rfl rfl (by intro j d h; match j, h with | 0, h | 1, h | 2, h | 3, h | 4, h | 5, h | 6, h | 7, h | 8, h | 9, h | 10, h | 11, h | 12, h => cases h; rfl)) ?_
        refine awp_region 1 mixed (by kernel_rfl) ?_
        refine rg_q (q_load_refA sz32 rfl rfl rfl rfl) ?_
        refine rg_nil ?_
        refine aops_store sz32 rfl rfl (by exact .inr ⟨_, rfl⟩) rfl rfl (by decide) rfl ?_
        refine aops_q rfl (q_assign (x := .d (.v _)) rfl) ?_
        refine aops_nil ?_
        change Awp _ _ _ _ _
        refine awp_ret ?_
        refine ⟨_, (.cons (.cellA rfl rfl sz32 rfl) (.cons (.tmp (by exact .d _)) .nil)), ?_⟩
        rw [hz]; rfl
set_option maxRecDepth 100000 in
theorem rmovedN_p (s : Spc) (hl : s.ar.el.length ≤ 1000) (h2 : s.pl.length ≤ 1000) (h3 : s.fl.length ≤ 1000) (b : Int) (hn : s.fl.length = 0) : PC Tryz.prog 38 [.agg (spcC s), .v (.int .i64 (b))] (.tup [.agg (spcC (mvR0 s b).1), .v (.int .i64 ((mvR0 s b).2))]) := by
  have hml : (s.fl.map flwC).length = s.fl.length := List.length_map _
  have hS : mvS s b = s := by unfold mvS; rw [List.length_eq_zero_iff.1 hn]; have e := List.length_eq_zero_iff.1 hn; cases s; simp only at e; subst e; rfl
  refine pc_of_awpN Tryz.func38 rfl Tryz.ntmps38 (rs := [.cell 4 32, .tmp 5]) Tryz.results38 (by simp) fun w0 hmine hrnd hpn => ?_
  refine awp_seq ?_
  refine awp_region 1 mixed (by kernel_rfl) ?_
  refine rg_q (q_box rfl (by exact .inr ⟨_, rfl⟩)) ?_
  refine rg_nil ?_
  refine aops_alloc zr32 rfl rfl rfl ?_
  refine aops_q rfl (q_assign (x := .d (.v _)) rfl) ?_
  refine aops_nil ?_
  change Awp _ _ _ _ _
  refine awp_seq ?_
  refine awp_seq ?_
  refine awp_region 3 mixed (by kernel_rfl) ?_
  refine rg_q (q_move (x := .d (.v _)) rfl) ?_
  refine rg_q (q_call en33 (.cons rfl (.cons rfl (.cons rfl .nil))) rfl (within4_p _ _ _)) ?_
  refine rg_q (q_not rfl) ?_
  refine rg_nil ?_
  refine aops_nil ?_
  change Awp _ _ _ _ _
  refine awp_cond rfl (fun hc1 => ?_) (fun hc1 => ?_)
  ·
    (try simp only [decide_eq_true_eq, decide_eq_false_iff_not, Bool.and_eq_true, Bool.or_eq_true, Bool.and_eq_false_iff, Bool.or_eq_false_iff, Bool.not_eq_true', Bool.not_eq_false', Bool.not_true, Bool.not_false, bif_and, bif_or, Bool.not_not, ne_eq, Decidable.not_not, not_true_eq_false, not_false_eq_true, Int.not_le, Int.not_lt] at hc1)
    have hz : mvR0 s b = (zSpc, 2) := by unfold mvR0; rw [if_neg (by rw [hc1]; decide)]
    refine awp_seq ?_
    refine awp_region 1 mixed (by kernel_rfl) ?_
    refine rg_q (q_build pl32 zr32 rfl .nil trivial rfl) ?_
    refine rg_nil ?_
    refine aops_store sz32 rfl rfl (by exact .inr ⟨_, rfl⟩) rfl rfl (by decide) rfl ?_
    refine aops_q rfl (q_assign (x := .d (.v _)) rfl) ?_
    refine aops_nil ?_
    change Awp _ _ _ _ _
    refine Awp.le (le_upB 4 (spcC zSpc) rfl (.cons (.nil 2) (.cons (.same _) (.cons (.same _) (.cons (.same _) (.cons (.same _) (.cons (.same _) (.cons (.same _) (.cons (.same _) (.cons (.same _) (.cons (.same _) (.cons (.same _) (.cons (.nil 1) (.cons (.nil 8) .nil)))))))))))))) ?_
    refine awp_ret ?_
    refine ⟨_, (.cons (.cellA rfl rfl sz32 rfl) (.cons (.tmp (by exact .d _)) .nil)), ?_⟩
    rw [hz]; rfl
  ·
    (try simp only [decide_eq_true_eq, decide_eq_false_iff_not, Bool.and_eq_true, Bool.or_eq_true, Bool.and_eq_false_iff, Bool.or_eq_false_iff, Bool.not_eq_true', Bool.not_eq_false', Bool.not_true, Bool.not_false, bif_and, bif_or, Bool.not_not, ne_eq, Decidable.not_not, not_true_eq_false, not_false_eq_true, Int.not_le, Int.not_lt] at hc1)
    have hbb : inR (-100000) b 100000 = true := hc1
    refine awp_skip ?_
    change Awp _ _ _ _ _
    refine awp_seq ?_
    refine awp_region 2 mixed (by kernel_rfl) ?_
    refine rg_q (q_loadA sz32 rfl rfl rfl) ?_
    refine rg_q (q_call en12 (.cons rfl .nil) rfl (copySpc_p s hl h2 h3)) ?_
    refine rg_nil ?_
    refine aops_alloc zr32 rfl rfl rfl ?_
    refine aops_store sz32 rfl rfl (by exact .inr ⟨_, rfl⟩) rfl rfl (by decide) rfl ?_
    refine aops_nil ?_
    change Awp _ _ _ _ _
    refine awp_seq ?_
    refine awp_seq ?_
    refine awp_region 1 mixed (by kernel_rfl) ?_
    refine rg_q (q_assign (x := .d (.v _)) rfl) ?_
    refine rg_nil ?_
    refine aops_nil ?_
    change Awp _ _ _ _ _
    refine awp_block ?_
    refine awp_loopH [5, 7, 8, 15, 16, 17, 18, 19, 20, 21, 22, 23, 24, 25, 26, 27, 28, 29, 30, 31, 32, 33, 34, 35, 36, 37, 38, 39, 40, 41, 42, 43, 44, 45, 46, 47, 48, 49, 50, 51, 52, 53, 54, 55, 56, 57, 58, 59] [] (α := Nat) (fun k => [(7, T.i (k : Int))]) (fun k => []) (fun k => k = 0) (fun k => 0) 0 rfl ?_ ?_
    · exact le_head (ms := []) (by repeat (exact Out.refl _)) ⟨(by rfl), trivial⟩ trivial rfl rfl rfl rfl
    ·
      intro k hk
      subst hk
      refine awp_seq ?_
      refine awp_seq ?_
      refine awp_region 5 mixed (by kernel_rfl) ?_
      refine rg_q (q_move (x := .d (.v _)) rfl) ?_
      refine rg_q (q_fieldAddr_ref fld32_2 rfl) ?_
      refine rg_q (q_load_ref sz30 rfl rfl rfl) ?_
      refine rg_q (q_len isl30 rfl (by exact len_map _ _)) ?_
      refine rg_q (q_lss rfl rfl) ?_
      refine rg_nil ?_
      refine aops_nil ?_
      change Awp _ _ _ _ _
      refine awp_len (t := 17) rfl (fun hl17 => ?_)
      (try simp only [List.length_map] at hl17)
      refine awp_cond rfl (fun hc5 => ?_) (fun hc5 => ?_)
      ·
        exact absurd (of_decide_eq_true hc5) (by omega)
      ·
        (try simp only [decide_eq_true_eq, decide_eq_false_iff_not, Bool.and_eq_true, Bool.or_eq_true, Bool.and_eq_false_iff, Bool.or_eq_false_iff, Bool.not_eq_true', Bool.not_eq_false', Bool.not_true, Bool.not_false, bif_and, bif_or, Bool.not_not, ne_eq, Decidable.not_not, not_true_eq_false, not_false_eq_true, Int.not_le, Int.not_lt] at hc5)
        have hz : mvR0 s b = (s, 0) := by unfold mvR0; rw [if_pos hbb, if_pos (by rw [List.length_eq_zero_iff.1 hn]; rfl), hS]
        refine awp_exit ?_
        change Awp _ _ _ _ _
        refine awp_seq ?_
        refine awp_region 1 mixed (by kernel_rfl) ?_
        refine rg_q (q_load_refA sz32 rfl rfl rfl rfl) ?_
        refine rg_nil ?_
        refine aops_store sz32 rfl rfl (by exact .inr ⟨_, rfl⟩) rfl rfl (by decide) rfl ?_
        refine aops_q rfl (q_assign (x := .d (.v _)) rfl) ?_
        refine aops_nil ?_
        change Awp _ _ _ _ _
        refine awp_ret ?_
        refine ⟨_, (.cons (.cellA rfl rfl sz32 rfl) (.cons (.tmp (by exact .d _)) .nil)), ?_⟩
        rw [hz]; rfl

theorem rmoved0_p (s : Spc) (hl : s.ar.el.length ≤ 1000) (h2 : s.pl.length ≤ 1000) (h3 : s.fl.length ≤ 1000) (b : Int) (h : (ckSpc s).2 = 0) : PC Tryz.prog 38 [.agg (spcC s), .v (.int .i64 (b))] (.tup [.agg (spcC (mvR0 s b).1), .v (.int .i64 ((mvR0 s b).2))]) := by
  by_cases h0 : s.fl.length = 0
  · exact rmovedN_p s hl h2 h3 b h0
  · exact rmovedO_p s hl h2 h3 b (by omega) (spc_ok h).fl fun x hx => flw_to (spc_fls h x hx)

end Go.Proofs.YtblbnagdhcpnoaaGreat.Am.M
