/- Contracts over the abstract machine: specimens that are changed; BenchMoves. Conditions: none. -/
import Derived.Test.YtblbnagdhcpnoaaK21
import Derived.Test.YtblbnagdhcpnoaaAmF
set_option linter.unusedVariables false
set_option linter.unusedSimpArgs false
-- mini
namespace Go.Proofs.Ytblbnagdhcpnoaa.Am.M
open Go

def zF : List D := List.replicate 8 (.v (.int .i64 0))
set_option maxRecDepth 100000 in
theorem delete_p (es : List (List D)) (i : Nat) (hi : i < es.length) (hl : es.length ≤ 1000) : PCS Try.prog 78 [.rs 0, .d (.v (.int .i64 ((i : Int)))), .d (.v (.int .i64 (((i + 1 : Nat) : Int))))] [.row 40 8 es] (.sub 0 8 0 (es.length - 1)) [.row 40 8 ((es.take i ++ (es.take es.length).drop (i + 1) ++ es.drop (es.length - 1)).take (es.length - 1) ++ List.replicate (es.length - (es.length - 1)) zF ++ (es.take i ++ (es.take es.length).drop (i + 1) ++ es.drop (es.length - 1)).drop es.length)] := by
  refine pcs_of_awp Try.func78 rfl Try.ntmps78 (rs := [.tmp 6]) Try.results78 (by simp) fun w0 => ?_
  refine awp_seq ?_
  refine awp_region 1 mixed (by kernel_rfl) ?_
  refine rg_q (q_assign (x := .d (.sl _ _)) rfl) ?_
  refine rg_nil ?_
  refine aops_nil ?_
  change Awp _ _ _ _ _
  refine awp_seq ?_
  refine awp_region 6 mixed (by kernel_rfl) ?_
  refine rg_q (q_move (x := .rs _) rfl) ?_
  refine rg_q (q_move (x := .d (.v _)) rfl) ?_
  refine rg_q (q_move (x := .d (.v _)) rfl) ?_
  refine rg_q (q_move (x := .rs _) rfl) ?_
  refine rg_q (q_len_rs isl52 rfl rfl) ?_
  refine rg_q (q_slice3 (lo := i) (hi := i + 1) (m := es.length) sl52 rfl rfl rfl rfl rfl (by omega) (by omega) (by omega)) ?_
  refine rg_nil ?_
  refine aops_nil ?_
  change Awp _ _ _ _ _
  skip
  (try simp only [List.length_map] at hl11)
  refine awp_seq ?_
  refine awp_seq ?_
  refine awp_region 3 mixed (by kernel_rfl) ?_
  refine rg_q (q_move (x := .d (.v _)) rfl) ?_
  refine rg_q (q_move (x := .d (.v _)) rfl) ?_
  refine rg_q (q_eql rfl rfl) ?_
  refine rg_nil ?_
  refine aops_nil ?_
  change Awp _ _ _ _ _
  refine awp_cond rfl (fun hc2 => ?_) (fun hc2 => ?_)
  ·
    exact absurd (of_decide_eq_true hc2) (by omega)
  ·
    (try simp only [decide_eq_true_eq, decide_eq_false_iff_not, Bool.and_eq_true, Bool.or_eq_true, Bool.and_eq_false_iff, Bool.or_eq_false_iff, Bool.not_eq_true', Bool.not_eq_false', Bool.not_true, Bool.not_false, bif_and, bif_or, Bool.not_not, ne_eq, Decidable.not_not, not_true_eq_false, not_false_eq_true, Int.not_le, Int.not_lt] at hc2)
    refine awp_skip ?_
    change Awp _ _ _ _ _
    refine awp_seq ?_
    refine awp_region 3 mixed (by kernel_rfl) ?_
    refine rg_q (q_move (x := .rs _) rfl) ?_
    refine rg_q (q_len_rs isl52 rfl rfl) ?_
    refine rg_q (q_assign (x := .d (.v _)) rfl) ?_
    refine rg_nil ?_
    refine aops_nil ?_
    change Awp _ _ _ _ _
    skip
    (try simp only [List.length_map] at hl18)
    refine awp_seq ?_
    refine awp_region 6 mixed (by kernel_rfl) ?_
    refine rg_q (q_move (x := .rs _) rfl) ?_
    refine rg_q (q_move (x := .d (.v _)) rfl) ?_
    refine rg_q (q_slice_rs (lo := 0) (hi := i) sl52 rfl rfl rfl rfl (by omega) (by omega)) ?_
    refine rg_q (q_move (x := .rs _) rfl) ?_
    refine rg_q (q_move (x := .d (.v _)) rfl) ?_
    refine rg_q (q_slice_rs (lo := i + 1) (hi := es.length) sl52 rfl rfl rfl rfl (by omega) (by omega)) ?_
    refine rg_nil ?_
    refine aops_appendIn (p := i) (lo := i + 1) (hi := es.length) (m := es.length - 1) sl52 rfl rfl rfl (by omega) (by omega) (by omega) (by omega) (by omega) rfl rfl ?_
    refine aops_q rfl (q_assign (x := .own _ _ _ _) rfl) ?_
    refine aops_nil ?_
    change Awp _ _ _ _ _
    refine awp_seq ?_
    refine awp_region 5 mixed (by kernel_rfl) ?_
    refine rg_q (q_move (x := .own _ _ _ _) rfl) ?_
    refine rg_q (q_move (x := .own _ _ _ _) rfl) ?_
    refine rg_q (q_len_sub isl52 rfl rfl) ?_
    refine rg_q (q_move (x := .d (.v _)) rfl) ?_
    refine rg_q (q_slice_sub (lo := es.length - 1) (hi := es.length) sl52 rfl rfl rfl rfl (by omega) (by simp only [List.length_append, List.length_take, List.length_drop]; omega) (by simp only [List.length_append, List.length_take, List.length_drop]; omega)) ?_
    refine rg_nil ?_
    refine aops_clearSub (lo := es.length - 1) (hi := es.length) sl52 zr40 rfl rfl (by decide) rfl rfl (by simp only [List.length_append, List.length_take, List.length_drop]; omega) (by omega) (by simp only [List.length_append, List.length_take, List.length_drop]; omega) rfl ?_
    refine aops_nil ?_
    change Awp _ _ _ _ _
    skip
    (try simp only [List.length_map] at hl28)
    refine awp_seq ?_
    refine awp_region 2 mixed (by kernel_rfl) ?_
    refine rg_q (q_move (x := .own _ _ _ _) rfl) ?_
    refine rg_q (q_assign (x := .own _ _ _ _) rfl) ?_
    refine rg_nil ?_
    refine aops_nil ?_
    change Awp _ _ _ _ _
    refine awp_ret ?_
    exact end_mk (.inl rfl) [33] (.tmp rfl) (by repeat (first | exact trivial | refine ⟨rfl, ?_⟩)) rfl
set_option maxRecDepth 100000 in
theorem cloneS_p (es : List (List D)) (h0 : 0 < es.length) (hl : es.length ≤ 20000) : PC Try.prog 111 [.sl 2 es] (.sl 2 es) := by
  refine pc_of_awp Try.func111 rfl Try.ntmps111 (rs := [.tmp 2]) Try.results111 (by simp) fun w0 => ?_
  refine awp_seq ?_
  refine awp_region 1 mixed (by kernel_rfl) ?_
  refine rg_q (q_assign (x := .d (.sl _ _)) rfl) ?_
  refine rg_nil ?_
  refine aops_nil ?_
  change Awp _ _ _ _ _
  refine awp_seq ?_
  refine awp_seq ?_
  refine awp_region 2 mixed (by kernel_rfl) ?_
  refine rg_q (q_move (x := .d (.sl _ _)) rfl) ?_
  refine rg_q (q_eqnil_sl sl22 rfl (by (try simp only [List.length_map]); omega)) ?_
  refine rg_nil ?_
  refine aops_nil ?_
  change Awp _ _ _ _ _
  refine awp_cond rfl (fun hc1 => ?_) (fun hc1 => ?_)
  ·
    cases hc1
  ·
    (try simp only [decide_eq_true_eq, decide_eq_false_iff_not, Bool.and_eq_true, Bool.or_eq_true, Bool.and_eq_false_iff, Bool.or_eq_false_iff, Bool.not_eq_true', Bool.not_eq_false', Bool.not_true, Bool.not_false, bif_and, bif_or, Bool.not_not, ne_eq, Decidable.not_not, not_true_eq_false, not_false_eq_true, Int.not_le, Int.not_lt] at hc1)
    refine awp_skip ?_
    change Awp _ _ _ _ _
    refine awp_seq ?_
    refine awp_region 4 mixed (by kernel_rfl) ?_
    refine rg_q (q_empty0 sl22 zr38) ?_
    refine rg_q (q_move (x := .d (.sl _ _)) rfl) ?_
    refine rg_q (q_append0 sl22 zr38 by38 rfl (by decide) rfl rfl rfl (by (try simp only [List.length_map]); omega) (by (try simp only [List.length_map]); omega)) ?_
    refine rg_q (q_assign (x := .d (.sl _ _)) rfl) ?_
    refine rg_nil ?_
    refine aops_nil ?_
    change Awp _ _ _ _ _
    refine awp_ret ?_
    refine ⟨_, (.cons (.tmp (by exact .d _)) .nil), ?_⟩
    rfl
set_option maxRecDepth 100000 in
theorem cloneI_p (es : List (List D)) (h0 : 0 < es.length) (hl : es.length ≤ 20000) : PC Try.prog 112 [.sl 1 es] (.sl 1 es) := by
  refine pc_of_awp Try.func112 rfl Try.ntmps112 (rs := [.tmp 2]) Try.results112 (by simp) fun w0 => ?_
  refine awp_seq ?_
  refine awp_region 1 mixed (by kernel_rfl) ?_
  refine rg_q (q_assign (x := .d (.sl _ _)) rfl) ?_
  refine rg_nil ?_
  refine aops_nil ?_
  change Awp _ _ _ _ _
  refine awp_seq ?_
  refine awp_seq ?_
  refine awp_region 2 mixed (by kernel_rfl) ?_
  refine rg_q (q_move (x := .d (.sl _ _)) rfl) ?_
  refine rg_q (q_eqnil_sl sl51 rfl (by (try simp only [List.length_map]); omega)) ?_
  refine rg_nil ?_
  refine aops_nil ?_
  change Awp _ _ _ _ _
  refine awp_cond rfl (fun hc1 => ?_) (fun hc1 => ?_)
  ·
    cases hc1
  ·
    (try simp only [decide_eq_true_eq, decide_eq_false_iff_not, Bool.and_eq_true, Bool.or_eq_true, Bool.and_eq_false_iff, Bool.or_eq_false_iff, Bool.not_eq_true', Bool.not_eq_false', Bool.not_true, Bool.not_false, bif_and, bif_or, Bool.not_not, ne_eq, Decidable.not_not, not_true_eq_false, not_false_eq_true, Int.not_le, Int.not_lt] at hc1)
    refine awp_skip ?_
    change Awp _ _ _ _ _
    refine awp_seq ?_
    refine awp_region 4 mixed (by kernel_rfl) ?_
    refine rg_q (q_empty0 sl51 zr3) ?_
    refine rg_q (q_move (x := .d (.sl _ _)) rfl) ?_
    refine rg_q (q_append0 sl51 zr3 by3 rfl (by decide) rfl rfl rfl (by (try simp only [List.length_map]); omega) (by (try simp only [List.length_map]); omega)) ?_
    refine rg_q (q_assign (x := .d (.sl _ _)) rfl) ?_
    refine rg_nil ?_
    refine aops_nil ?_
    change Awp _ _ _ _ _
    refine awp_ret ?_
    refine ⟨_, (.cons (.tmp (by exact .d _)) .nil), ?_⟩
    rfl
theorem flwC_flat (x : Flw) : ∀ d ∈ flwC x, D.Flat d := by
  intro d hd
  simp only [flwC, List.mem_cons, List.not_mem_nil, or_false] at hd
  rcases hd with rfl | rfl | rfl | rfl | rfl | rfl | rfl | rfl <;> exact .v _
set_option maxRecDepth 100000 in
theorem cloneO_p (es : List (List D)) (h0 : 0 < es.length) (hl : es.length ≤ 20000) : PCS Try.prog 113 [.d (.sl 8 es)] [] (.rs 0) [.row 40 8 es] := by
  refine pcs_of_awp Try.func113 rfl Try.ntmps113 (rs := [.tmp 2]) Try.results113 (by simp) fun w0 => ?_
  refine awp_seq ?_
  refine awp_region 1 mixed (by kernel_rfl) ?_
  refine rg_q (q_assign (x := .d (.sl _ _)) rfl) ?_
  refine rg_nil ?_
  refine aops_nil ?_
  change Awp _ _ _ _ _
  refine awp_seq ?_
  refine awp_seq ?_
  refine awp_region 2 mixed (by kernel_rfl) ?_
  refine rg_q (q_move (x := .d (.sl _ _)) rfl) ?_
  refine rg_q (q_eqnil_sl sl52 rfl (by (try simp only [List.length_map]); omega)) ?_
  refine rg_nil ?_
  refine aops_nil ?_
  change Awp _ _ _ _ _
  refine awp_cond rfl (fun hc1 => ?_) (fun hc1 => ?_)
  ·
    cases hc1
  ·
    (try simp only [decide_eq_true_eq, decide_eq_false_iff_not, Bool.and_eq_true, Bool.or_eq_true, Bool.and_eq_false_iff, Bool.or_eq_false_iff, Bool.not_eq_true', Bool.not_eq_false', Bool.not_true, Bool.not_false, bif_and, bif_or, Bool.not_not, ne_eq, Decidable.not_not, not_true_eq_false, not_false_eq_true, Int.not_le, Int.not_lt] at hc1)
    refine awp_skip ?_
    change Awp _ _ _ _ _
    refine awp_seq ?_
    refine awp_region 2 mixed (by kernel_rfl) ?_
    refine rg_q (q_empty0 sl52 zr40) ?_
    refine rg_q (q_move (x := .d (.sl _ _)) rfl) ?_
    refine rg_nil ?_
    refine aops_append0 sl52 zr40 by40 rfl (by decide) rfl rfl rfl h0 (by omega) (by omega) rfl rfl ?_
    refine aops_q rfl (q_assign (x := .rs _) rfl) ?_
    refine aops_nil ?_
    change Awp _ _ _ _ _
    refine awp_ret ?_
    exact end_mk (.inl rfl) [7] (.tmp rfl) (by repeat (first | exact trivial | refine ⟨rfl, ?_⟩)) rfl
set_option maxRecDepth 100000 in
theorem copyO_p (s : Spc) (hl : s.ar.el.length ≤ 1000) (h2 : s.pl.length ≤ 1000) (h3 : s.fl.length ≤ 1000) (h0 : 0 < s.fl.length) : PCS Try.prog 24 [.d (.agg (spcC s))] [] (.ag 0 (arrC s.ar ++ [D.sl 1 (s.pl.map iC)]) []) [.row 40 8 (s.fl.map flwC)] := by
  refine pcs_of_awpA Try.func24 rfl Try.ntmps24 Try.results24 (by simp) fun w0 hrnd => ?_
  refine awp_seq ?_
  refine awp_region 1 mixed (by kernel_rfl) ?_
  refine rg_q (q_box rfl (by exact .inr ⟨_, rfl⟩)) ?_
  refine rg_nil ?_
  refine aops_alloc zr54 rfl rfl rfl ?_
  refine aops_nil ?_
  change Awp _ _ _ _ _
  refine awp_seq ?_
  refine awp_regionM 12 [none, none, none, none, none, none, none, none, none, some 12, none, some 2] mixed (by kernel_rfl) ?_
  refine rgm_q rfl (q_fieldAddr fld54_0 rfl) ?_
  refine rgm_q rfl (q_loadA (ds := [_, _, _, _, _, _, _, _, _, _, _]) sz28 rfl rfl rfl) ?_
  refine rgm_q rfl (q_call en15 (.cons rfl .nil) rfl (copyArr_p s.ar (by omega))) ?_
  refine rgm_q rfl (q_fieldAddr fld54_1 rfl) ?_
  refine rgm_q rfl (q_load sz51 rfl rfl) ?_
  refine rgm_q rfl (q_call en27 (.cons rfl .nil) rfl (copyInts4_p _ (by omega))) ?_
  refine rgm_q rfl (q_empty0 sl52 zr40) ?_
  refine rgm_q rfl (q_fieldAddr fld54_2 rfl) ?_
  refine rgm_q rfl (q_load sz52 rfl rfl) ?_
  refine rgm_m (k := 12) rfl rfl (by rfl) (m_append0 sl52 zr40 by40 rfl (by decide) rfl rfl rfl (by rw [List.length_map]; exact h0) (by rw [List.length_map]; omega) (by rw [List.length_map]; omega) rfl) ?_
  refine rgm_q rfl (q_buildR (u := (arrC s.ar ++ [D.sl 1 (s.pl.map iC)])) (v := []) pl54 zr54 rfl (by exact .agg rfl (by exact .one rfl rfl (by exact .one rfl rfl .nil))) (by exact ⟨⟨rfl, by decide⟩, ⟨rfl, by decide⟩, ⟨rfl, by decide⟩, trivial⟩) (by rfl)) ?_
  refine rgm_m (k := 2) rfl rfl (by rfl) (m_storeAg sz54 rfl rfl rfl rfl rfl rfl rfl) ?_
  refine rgm_nil ?_
  refine aops_nil ?_
  change Awp _ _ _ _ _
  refine awp_ret ?_
  exact enda_mk (.inl rfl) [12] ⟨2, 12, 13, (arrC s.ar ++ [D.sl 1 (s.pl.map iC)]), [], rfl, rfl, sz54, rfl, rfl⟩ (by repeat (first | exact trivial | refine ⟨rfl, ?_⟩)) rfl
set_option maxRecDepth 100000 in
theorem copiedO_p (s : Spc) (hl : s.ar.el.length ≤ 1000) (h2 : s.pl.length ≤ 1000) (h3 : s.fl.length ≤ 1000) (he : 0 < s.ar.el.length) (hp : 0 < s.pl.length) (h0 : 0 < s.fl.length) : PCS Try.prog 77 [.d (.agg (spcC s))] [] (.ag 0 (arrC s.ar ++ [D.sl 1 (s.pl.map iC)]) []) [.row 40 8 (s.fl.map flwC)] := by
  refine pcs_of_awpA Try.func77 rfl Try.ntmps77 Try.results77 (by simp) fun w0 hrnd => ?_
  refine awp_seq ?_
  refine awp_region 0 mixed (by kernel_rfl) ?_
  refine rg_nil ?_
  refine aops_box rfl (by exact .inr ⟨_, rfl⟩) rfl rfl rfl ?_
  refine aops_alloc zr54 rfl rfl rfl ?_
  refine aops_nil ?_
  change Awp _ _ _ _ _
  refine awp_seq ?_
  refine awp_regionM 17 [none, none, none, none, none, none, none, none, none, some 12, none, none, some 1, none, some 1, none, some 1] mixed (by kernel_rfl) ?_
  refine rgm_q rfl (q_fieldAddr_ref fld54_0 rfl) ?_
  refine rgm_q rfl (q_fieldAddr_ref fld28_0 rfl) ?_
  refine rgm_q rfl (q_load_ref sz22 rfl rfl rfl) ?_
  refine rgm_q rfl (q_call en111 (.cons rfl .nil) rfl (cloneS_p _ (by rw [List.length_map]; omega) (by rw [List.length_map]; omega))) ?_
  refine rgm_q rfl (q_fieldAddr_ref fld54_1 rfl) ?_
  refine rgm_q rfl (q_load_ref sz51 rfl rfl rfl) ?_
  refine rgm_q rfl (q_call en112 (.cons rfl .nil) rfl (cloneI_p _ (by rw [List.length_map]; omega) (by rw [List.length_map]; omega))) ?_
  refine rgm_q rfl (q_fieldAddr_ref fld54_2 rfl) ?_
  refine rgm_q rfl (q_load_ref sz52 rfl rfl rfl) ?_
  refine rgm_m (k := 12) rfl rfl (by rfl) (m_callN en113 (cloneO_p (s.fl.map flwC) (by rw [List.length_map]; exact h0) (by rw [List.length_map]; omega)) rfl (.cons rfl .nil) rfl (flat_row flwC 40 8 s.fl flwC_flat)) ?_
  refine rgm_q rfl (q_fieldAddr_ref fld54_0 rfl) ?_
  refine rgm_q rfl (q_fieldAddr_ref fld28_0 rfl) ?_
  refine rgm_m (k := 1) rfl rfl (by rfl) (m_store sz22 rfl rfl (by exact .inl rfl) rfl rfl (by exact Nat.le_of_ble_eq_true rfl) rfl) ?_
  refine rgm_q rfl (q_fieldAddr_ref fld54_1 rfl) ?_
  refine rgm_m (k := 1) rfl rfl (by rfl) (m_store sz51 rfl rfl (by exact .inl rfl) rfl rfl (by exact Nat.le_of_ble_eq_true rfl) rfl) ?_
  refine rgm_q rfl (q_fieldAddr_ref fld54_2 rfl) ?_
  refine rgm_m (k := 1) rfl rfl (by rfl) (m_storeR sz52 rfl rfl rfl (Nat.le_of_ble_eq_true rfl) rfl) ?_
  refine rgm_nil ?_
  refine aops_nil ?_
  change Awp _ _ _ _ _
  refine awp_seq ?_
  refine Awp.le (le_tbox (k := 2) (ts := [_, _, _, _, _, _, _, _, _, _, _, _, _]) rfl rfl) ?_
  refine awp_region 1 mixed (by kernel_rfl) ?_
  refine rg_q (q_load_ag (u := (arrC s.ar ++ [D.sl 1 (s.pl.map iC)])) (v := []) sz54 rfl rfl rfl rfl) ?_
  refine rg_nil ?_
  refine aops_storeAg sz54 rfl rfl rfl rfl rfl rfl rfl ?_
  refine aops_nil ?_
  change Awp _ _ _ _ _
  refine awp_ret ?_
  exact enda_mk (.inl rfl) [12] ⟨2, 12, 13, (arrC s.ar ++ [D.sl 1 (s.pl.map iC)]), [], rfl, rfl, sz54, rfl, rfl⟩ (by repeat (first | exact trivial | refine ⟨rfl, ?_⟩)) rfl

theorem spc_pulse {s : Spc} (h : (ckSpc s).2 = 0) : plsE s.pl = 0 := by
  unfold ckSpc at h
  by_cases h1 : (ckArr s.ar).2 ≠ 0
  · rw [if_pos h1] at h; exact absurd h h1
  rw [if_neg h1] at h
  by_cases h2 : spcE0 s ≠ 0
  · rw [if_pos h2] at h; exact absurd h h2
  have h3 := Decidable.not_not.1 h2
  unfold spcE0 at h3
  exact first_zero.1 h3 _ (by simp)
def zSpc : Spc := ⟨⟨[], ⟨0, 0, 0, 0⟩, ⟨0, 0, 0, 0⟩, (0, 0)⟩, [], []⟩
def woS (s : Spc) (i : Nat) : Spc := ⟨s.ar, s.pl, s.fl.eraseIdx i⟩
def woR0 (s : Spc) (f : Int) : Spc × Int := if inR 0 f ((s.fl.length : Int) - 1) = true then (woS s f.toNat, 0) else (zSpc, 6)
def woR (s : Spc) (f : Int) : Spc × Int := if (ckSpc s).2 ≠ 0 then (zSpc, (ckSpc s).2) else woR0 s f
theorem del_row (es : List (List D)) (i : Nat) (hi : i < es.length) : (es.take i ++ (es.take es.length).drop (i + 1) ++ es.drop (es.length - 1)).take (es.length - 1) = es.eraseIdx i := by
  have h1 : (es.take i ++ (es.take es.length).drop (i + 1)).length = es.length - 1 := by simp only [List.length_append, List.length_take, List.length_drop]; omega
  rw [List.take_append_of_le_length (by omega), List.take_of_length_le (by omega), List.take_length, List.eraseIdx_eq_take_drop_succ]
theorem del_rowZ (es : List (List D)) (i : Nat) (hi : i < es.length) (zs : List (List D)) : ((((es.take i ++ (es.take es.length).drop (i + 1) ++ es.drop (es.length - 1)).take (es.length - 1) ++ zs) ++ (es.take i ++ (es.take es.length).drop (i + 1) ++ es.drop (es.length - 1)).drop es.length).take (es.length - 1)).drop 0 = es.eraseIdx i := by
  rw [List.drop_zero, del_row es i hi]
  have h1 : (es.eraseIdx i).length = es.length - 1 := by rw [List.length_eraseIdx]; simp [hi]
  rw [List.append_assoc, List.take_append_of_le_length (by omega), List.take_of_length_le (by omega)]
theorem map_erase (l : List Flw) (i : Nat) : (l.map flwC).eraseIdx i = (l.eraseIdx i).map flwC := by
  rw [List.eraseIdx_eq_take_drop_succ, List.eraseIdx_eq_take_drop_succ, List.map_append, List.map_take, List.map_drop]
set_option maxRecDepth 100000 in
theorem without_p (s : Spc) (f : Int) : PC Try.prog 36 [.agg (spcC s), .v (.int .i64 (f))] (.tup [.agg (spcC (woR s f).1), .v (.int .i64 ((woR s f).2))]) := by
  refine pc_of_awpN Try.func36 rfl Try.ntmps36 (rs := [.cell 4 54, .tmp 5]) Try.results36 (by simp) fun w0 hmine hrnd hpn => ?_
  refine awp_seq ?_
  refine awp_region 0 mixed (by kernel_rfl) ?_
  refine rg_nil ?_
  refine aops_box rfl (by exact .inr ⟨_, rfl⟩) rfl rfl rfl ?_
  refine aops_alloc zr54 rfl rfl rfl ?_
  refine aops_q rfl (q_assign (x := .d (.v _)) rfl) ?_
  refine aops_nil ?_
  change Awp _ _ _ _ _
  refine awp_seq ?_
  refine awp_seq ?_
  refine awp_region 7 mixed (by kernel_rfl) ?_
  refine rg_q (q_load_refA sz54 rfl rfl rfl rfl) ?_
  refine rg_q (q_call en23 (.cons rfl .nil) rfl (checkSpecimen_p _)) ?_
  refine rg_q (q_move (x := .d (.tup _)) rfl) ?_
  refine rg_q (q_extract rfl rfl) ?_
  refine rg_q (q_extract rfl rfl) ?_
  refine rg_q (q_assign (x := .d (.v _)) rfl) ?_
  refine rg_q (q_assign (x := .d (.v _)) rfl) ?_
  refine rg_nil ?_
  refine aops_nil ?_
  change Awp _ _ _ _ _
  refine awp_seq ?_
  refine awp_region 2 mixed (by kernel_rfl) ?_
  refine rg_q (q_move (x := .d (.v _)) rfl) ?_
  refine rg_q (q_neq rfl rfl) ?_
  refine rg_nil ?_
  refine aops_nil ?_
  change Awp _ _ _ _ _
  refine awp_cond rfl (fun hc2 => ?_) (fun hc2 => ?_)
  ·
    (try simp only [decide_eq_true_eq, decide_eq_false_iff_not, Bool.and_eq_true, Bool.or_eq_true, Bool.and_eq_false_iff, Bool.or_eq_false_iff, Bool.not_eq_true', Bool.not_eq_false', Bool.not_true, Bool.not_false, bif_and, bif_or, Bool.not_not, ne_eq, Decidable.not_not, not_true_eq_false, not_false_eq_true, Int.not_le, Int.not_lt] at hc2)
    have hz : woR s f = (zSpc, (ckSpc s).2) := by unfold woR; rw [if_pos hc2]
    refine awp_seq ?_
    refine awp_region 2 mixed (by kernel_rfl) ?_
    refine rg_q (q_build pl54 zr54 rfl .nil trivial rfl) ?_
    refine rg_q (q_move (x := .d (.v _)) rfl) ?_
    refine rg_nil ?_
    refine aops_store sz54 rfl rfl (by exact .inr ⟨_, rfl⟩) rfl rfl (by decide) rfl ?_
    refine aops_q rfl (q_assign (x := .d (.v _)) rfl) ?_
    refine aops_nil ?_
    change Awp _ _ _ _ _
    refine Awp.le (le_upB 4 (spcC zSpc) rfl (.cons (.nil 2) (.cons (.same _) (.cons (.same _) (.cons (.same _) (.cons (.same _) (.cons (.same _) (.cons (.same _) (.cons (.same _) (.cons (.same _) (.cons (.same _) (.cons (.same _) (.cons (.nil 1) (.cons (.nil 8) .nil)))))))))))))) ?_
    refine awp_ret ?_
    refine ⟨_, (.cons (.cellA rfl rfl sz54 rfl) (.cons (.tmp (by exact .d _)) .nil)), ?_⟩
    rw [hz]; rfl
  ·
    (try simp only [decide_eq_true_eq, decide_eq_false_iff_not, Bool.and_eq_true, Bool.or_eq_true, Bool.and_eq_false_iff, Bool.or_eq_false_iff, Bool.not_eq_true', Bool.not_eq_false', Bool.not_true, Bool.not_false, bif_and, bif_or, Bool.not_not, ne_eq, Decidable.not_not, not_true_eq_false, not_false_eq_true, Int.not_le, Int.not_lt] at hc2)
    have h0 : (ckSpc s).2 = 0 := hc2
    have hsp := spc_ok h0
    have hok := hsp.ar
    have hn1 := hok.n1
    have hn2 := hok.n2
    have hp1 := hsp.p1
    have hp0 := (plsE_ok (spc_pulse h0)).1
    have hf1 := hsp.f1
    have hz : woR s f = woR0 s f := by unfold woR; rw [if_neg (fun q => q h0)]
    refine awp_skip ?_
    change Awp _ _ _ _ _
    refine awp_seq ?_
    refine awp_seq ?_
    refine awp_region 7 mixed (by kernel_rfl) ?_
    refine rg_q (q_move (x := .d (.v _)) rfl) ?_
    refine rg_q (q_fieldAddr_ref fld54_2 rfl) ?_
    refine rg_q (q_load_ref sz52 rfl rfl rfl) ?_
    refine rg_q (q_len isl52 rfl (by exact len_map _ _)) ?_
    refine rg_q (q_sub rfl rfl (In64.mk (by omega) (by omega))) ?_
    refine rg_q (q_call en61 (.cons rfl (.cons rfl (.cons rfl .nil))) rfl (bwithin_p _ _ _)) ?_
    refine rg_q (q_not rfl) ?_
    refine rg_nil ?_
    refine aops_nil ?_
    change Awp _ _ _ _ _
    refine awp_len (t := 19) rfl (fun hl19 => ?_)
    (try simp only [List.length_map] at hl19)
    refine awp_cond rfl (fun hc4 => ?_) (fun hc4 => ?_)
    ·
      (try simp only [decide_eq_true_eq, decide_eq_false_iff_not, Bool.and_eq_true, Bool.or_eq_true, Bool.and_eq_false_iff, Bool.or_eq_false_iff, Bool.not_eq_true', Bool.not_eq_false', Bool.not_true, Bool.not_false, bif_and, bif_or, Bool.not_not, ne_eq, Decidable.not_not, not_true_eq_false, not_false_eq_true, Int.not_le, Int.not_lt] at hc4)
      have hz2 : woR0 s f = (zSpc, 6) := by unfold woR0; rw [if_neg (by rw [hc4]; decide)]
      refine awp_seq ?_
      refine awp_region 1 mixed (by kernel_rfl) ?_
      refine rg_q (q_build pl54 zr54 rfl .nil trivial rfl) ?_
      refine rg_nil ?_
      refine aops_store sz54 rfl rfl (by exact .inr ⟨_, rfl⟩) rfl rfl (by decide) rfl ?_
      refine aops_q rfl (q_assign (x := .d (.v _)) rfl) ?_
      refine aops_nil ?_
      change Awp _ _ _ _ _
      refine Awp.le (le_upB 4 (spcC zSpc) rfl (.cons (.nil 2) (.cons (.same _) (.cons (.same _) (.cons (.same _) (.cons (.same _) (.cons (.same _) (.cons (.same _) (.cons (.same _) (.cons (.same _) (.cons (.same _) (.cons (.same _) (.cons (.nil 1) (.cons (.nil 8) .nil)))))))))))))) ?_
      refine awp_ret ?_
      refine ⟨_, (.cons (.cellA rfl rfl sz54 rfl) (.cons (.tmp (by exact .d _)) .nil)), ?_⟩
      rw [hz, hz2]; rfl
    ·
      (try simp only [decide_eq_true_eq, decide_eq_false_iff_not, Bool.and_eq_true, Bool.or_eq_true, Bool.and_eq_false_iff, Bool.or_eq_false_iff, Bool.not_eq_true', Bool.not_eq_false', Bool.not_true, Bool.not_false, bif_and, bif_or, Bool.not_not, ne_eq, Decidable.not_not, not_true_eq_false, not_false_eq_true, Int.not_le, Int.not_lt] at hc4)
      have hb : 0 ≤ f ∧ f ≤ (s.fl.length : Int) - 1 := by simpa [inR] using hc4
      obtain ⟨i, rfl⟩ : ∃ i : Nat, f = (i : Int) := ⟨f.toNat, by omega⟩
      have hi : i < s.fl.length := by omega
      have hml : (s.fl.map flwC).length = s.fl.length := List.length_map _
      have hz2 : woR0 s (i : Int) = (woS s i, 0) := by unfold woR0; rw [if_pos hc4]; rfl
      refine awp_skip ?_
      change Awp _ _ _ _ _
      refine awp_seq ?_
      refine awp_region 1 mixed (by kernel_rfl) ?_
      refine rg_q (q_load_refA sz54 rfl rfl rfl rfl) ?_
      refine rg_nil ?_
      refine aops_callL [26] [] en77 (copiedO_p s (by omega) (by omega) (by omega) (by omega) (by omega) (by omega)) (.cons rfl .nil) rfl rfl rfl (by repeat (exact trivial)) (by repeat (first | exact trivial | refine ⟨rfl, ?_⟩)) rfl ?_
      refine aops_le (le_tbox (k := 2) (ts := [_, _, _, _, _, _, _, _, _, _, _, _, _]) rfl rfl) ?_
      refine aops_storeAg sz54 rfl rfl rfl rfl rfl rfl rfl ?_
      refine aops_nil ?_
      change Awp _ _ _ _ _
      refine awp_seq ?_
      refine awp_region 5 mixed (by kernel_rfl) ?_
      refine rg_q (q_fieldAddr_ref fld54_2 rfl) ?_
      refine rg_q (q_load_tb (x := .rs _) sz52 rfl rfl rfl) ?_
      refine rg_q (q_move (x := .d (.v _)) rfl) ?_
      refine rg_q (q_move (x := .d (.v _)) rfl) ?_
      refine rg_q (q_add rfl rfl (In64.mk (by omega) (by omega))) ?_
      refine rg_nil ?_
      refine aops_callL [26] [26] en78 (delete_p (s.fl.map flwC) i (by omega) (by omega)) (.cons rfl (.cons rfl (.cons rfl .nil))) rfl rfl rfl (by repeat (first | exact trivial | refine ⟨rfl, ?_⟩)) (by repeat (exact trivial)) rfl ?_
      refine aops_q rfl (q_fieldAddr_ref fld54_2 rfl) ?_
      refine aops_storeT (z := .own _ _ _ _) sz52 rfl rfl rfl rfl (Nat.le_of_ble_eq_true rfl) rfl ?_
      refine aops_nil ?_
      change Awp _ _ _ _ _
      refine awp_seq ?_
      refine Awp.le (le_freezeTBS 2 26 12 rfl rfl rfl rfl (by omega) (by simp only [List.length_append, List.length_take, List.length_drop, List.length_replicate]; omega) hmine) ?_
      rw [del_rowZ _ i (by omega), map_erase]
      refine Awp.le (le_boxT 2 (spcC (woS s i)) rfl rfl (by intro j d h; match j, h with | 0, h | 1, h | 2, h | 3, h | 4, h | 5, h | 6, h | 7, h | 8, h | 9, h | 10, h | 11, h | 12, h => cases h; rfl)) ?_
      refine awp_region 1 mixed (by kernel_rfl) ?_
      refine rg_q (q_load_refA sz54 rfl rfl rfl rfl) ?_
      refine rg_nil ?_
      refine aops_store sz54 rfl rfl (by exact .inr ⟨_, rfl⟩) rfl rfl (by decide) rfl ?_
      refine aops_q rfl (q_assign (x := .d (.v _)) rfl) ?_
      refine aops_nil ?_
      change Awp _ _ _ _ _
      refine awp_ret ?_
      refine ⟨_, (.cons (.cellA rfl rfl sz54 rfl) (.cons (.tmp (by exact .d _)) .nil)), ?_⟩
      rw [hz, hz2]; rfl

theorem spc_fls {s : Spc} (h : (ckSpc s).2 = 0) : ∀ x ∈ s.fl, flwE x = 0 := by
  unfold ckSpc at h
  by_cases h1 : (ckArr s.ar).2 ≠ 0
  · rw [if_pos h1] at h; exact absurd h h1
  rw [if_neg h1] at h
  by_cases h2 : spcE0 s ≠ 0
  · rw [if_pos h2] at h; exact absurd h h2
  rw [if_neg h2] at h
  exact ckFls_ok h

end Go.Proofs.Ytblbnagdhcpnoaa.Am.M
