/- Contracts over the abstract machine: package bench: the trace of a specimen. Conditions: none. -/
import Derived.Test.YtblbnagdhcpnoaaK12
set_option linter.unusedVariables false
set_option linter.unusedSimpArgs false
-- mini
namespace Go.Proofs.Ytblbnagdhcpnoaa.Am.M
open Go

theorem pts_amp {x : Flw} (h : FlwOk x) : ∀ q ∈ ptsL x, -1000 ≤ q.2 ∧ q.2 ≤ 1000 := by
  intro q hq
  unfold ptsL at hq
  split at hq
  · rw [List.mem_singleton.1 hq]; exact h.am
  · rename_i hk
    unfold ptsTo at hq
    obtain ⟨i, _, rfl⟩ := List.mem_map.1 hq
    have h1 := h.am
    have h2 := (h.pl hk).2.2.2
    unfold ptK
    simp only
    split
    · exact h2
    · exact h1
theorem ptsS_in {s : Spc} (h : SpcOk s) : (ptsS s).length ≤ 300 ∧ ∀ q ∈ ptsS s, -1000 ≤ q.2 ∧ q.2 ≤ 1000 := by
  refine ⟨?_, fun q hq => ?_⟩
  · have h1 := ptsF_len h.fl s.fl.length (Nat.le_refl _)
    have h2 : ptsF s s.fl.length = ptsS s := by unfold ptsF ptsS; rw [List.take_length]
    rw [h2] at h1
    have := h.f1
    omega
  · unfold ptsS at hq
    obtain ⟨x, hx, hq⟩ := List.mem_flatMap.1 hq
    exact pts_amp (h.fl x hx) q hq
def zM : Md := ⟨0, 0, 0, 0⟩
def zS : Spc := ⟨⟨[], zM, zM, (0, 0)⟩, [], []⟩
def tcR (s : Spc) (pr : Int × Int) : List D × Int := if (ckSpc s).2 ≠ 0 then (z64, (ckSpc s).2) else if pairE s.ar.el.length pr ≠ 0 then (z64, pairE s.ar.el.length pr) else trcR s (ptsS s) pr
theorem trcR_len (s : Spc) (P : List ((Int × Int) × Int)) (pr : Int × Int) : (trcR s P pr).1.length = 64 := by
  unfold trcR
  split
  · rfl
  · show ((smT s.ar s.pl pr P P.length).map fv).length = 64
    rw [List.length_map, smT_len]
set_option maxRecDepth 100000 in
theorem traceBad_p (s : Spc) (pr : Int × Int) (h0 : (ckSpc s).2 ≠ 0) : PC Try.prog 37 [.agg (spcC s), .agg (shC pr)] (.tup [.agg (tcR s pr).1, .v (.int .i64 ((tcR s pr).2))]) := by
  have hos : osR s = (zOp, (ckSpc s).2) := by unfold osR; rw [if_pos h0]
  have hz : tcR s pr = (z64, (ckSpc s).2) := by unfold tcR; rw [if_pos h0]
  have hfe : firstE [(ckSpc s).2, pairE zS.ar.el.length pr] = (ckSpc s).2 := by unfold firstE; rw [if_neg h0]
  refine pc_of_awp Try.func37 rfl Try.ntmps37 (rs := [.cell 4 61, .tmp 5]) Try.results37 (by simp) fun w0 => ?_
  refine awp_seq ?_
  refine awp_region 2 mixed (by kernel_rfl) ?_
  refine rg_q (q_box rfl (by exact .inr ⟨_, rfl⟩)) ?_
  refine rg_q (q_box rfl (by exact .inr ⟨_, rfl⟩)) ?_
  refine rg_nil ?_
  refine aops_alloc zr61 rfl rfl rfl ?_
  refine aops_q rfl (q_assign (x := .d (.v _)) rfl) ?_
  refine aops_nil ?_
  change Awp _ _ _ _ _
  refine awp_seq ?_
  refine awp_region 5 mixed (by kernel_rfl) ?_
  refine rg_q (q_loadA sz54 rfl rfl rfl) ?_
  refine rg_q (q_call en79 (.cons rfl .nil) rfl ((by have h := openSpecimen_p s; rw [hos] at h; exact h))) ?_
  refine rg_q (q_move (x := .d (.tup _)) rfl) ?_
  refine rg_q (q_extract rfl rfl) ?_
  refine rg_q (q_extract rfl rfl) ?_
  refine rg_nil ?_
  refine aops_alloc zr136 rfl rfl rfl ?_
  refine aops_store sz136 rfl rfl (by exact .inr ⟨_, rfl⟩) rfl rfl (by decide) rfl ?_
  refine aops_q rfl (q_assign (x := .d (.v _)) rfl) ?_
  refine aops_nil ?_
  change Awp _ _ _ _ _
  refine awp_seq ?_
  refine awp_seq ?_
  refine Awp.le (le_upB 6 (opnS zS []) rfl (.cons (.nil 2) (.cons (.same _) (.cons (.same _) (.cons (.same _) (.cons (.same _) (.cons (.same _) (.cons (.same _) (.cons (.same _) (.cons (.same _) (.cons (.same _) (.cons (.same _) (.cons (.nil 1) (.cons (.nil 3) .nil)))))))))))))) ?_
  refine awp_region 8 mixed (by kernel_rfl) ?_
  refine rg_q (q_move (x := .d (.v _)) rfl) ?_
  refine rg_q (q_fieldAddr_ref fld136_0 rfl) ?_
  refine rg_q (q_load_refA (ds := [_, _, _, _, _, _, _, _, _, _, _]) sz134 rfl rfl rfl rfl) ?_
  refine rg_q (q_loadA (ds := [_, _]) sz75 rfl rfl rfl) ?_
  refine rg_q (q_call en80 (.cons rfl (.cons rfl .nil)) rfl (pairErr_p zS.ar pr (Nat.zero_le _))) ?_
  refine rg_q (q_buildSlice sl155 zr31 rfl rfl (by decide) (.cons rfl (by exact .inl rfl) (.cons rfl (by exact .inl rfl) .nil)) ⟨rfl, rfl, rfl, rfl, trivial⟩ rfl (by decide) rfl) ?_
  refine rg_q (q_call en49 (.cons rfl .nil) rfl (bfirst_p [(ckSpc s).2, pairE zS.ar.el.length pr])) ?_
  refine rg_q (q_assign (x := .d (.v _)) rfl) ?_
  refine rg_nil ?_
  refine aops_nil ?_
  change Awp _ _ _ _ _
  refine awp_seq ?_
  refine awp_region 2 mixed (by kernel_rfl) ?_
  refine rg_q (q_move (x := .d (.v _)) rfl) ?_
  refine rg_q (q_neq rfl rfl) ?_
  refine rg_nil ?_
  refine aops_nil ?_
  change Awp _ _ _ _ _
  refine awp_cond rfl (fun hc3 => ?_) (fun hc3 => ?_)
  ·
    (try simp only [decide_eq_true_eq, decide_eq_false_iff_not, Bool.and_eq_true, Bool.or_eq_true, Bool.and_eq_false_iff, Bool.or_eq_false_iff, Bool.not_eq_true', Bool.not_eq_false', Bool.not_true, Bool.not_false, bif_and, bif_or, Bool.not_not, ne_eq, Decidable.not_not, not_true_eq_false, not_false_eq_true, Int.not_le, Int.not_lt] at hc3)
    refine awp_seq ?_
    refine awp_region 2 mixed (by kernel_rfl) ?_
    refine rg_q (q_buildA ar61 zr61 rfl .nil trivial rfl) ?_
    refine rg_q (q_move (x := .d (.v _)) rfl) ?_
    refine rg_nil ?_
    refine aops_store sz61 rfl rfl (by exact .inr ⟨_, rfl⟩) rfl rfl (by decide) rfl ?_
    refine aops_q rfl (q_assign (x := .d (.v _)) rfl) ?_
    refine aops_nil ?_
    change Awp _ _ _ _ _
    refine awp_ret ?_
    refine ⟨_, (.cons (.cellA rfl rfl sz61 rfl) (.cons (.tmp (by exact .d _)) .nil)), ?_⟩
    rw [hz, hfe]; rfl
  ·
    rw [hfe] at hc3
    exact absurd (Decidable.not_not.1 (of_decide_eq_false hc3)) h0
set_option maxRecDepth 100000 in
theorem traceOk_p (s : Spc) (pr : Int × Int) (h0 : (ckSpc s).2 = 0) : PC Try.prog 37 [.agg (spcC s), .agg (shC pr)] (.tup [.agg (tcR s pr).1, .v (.int .i64 ((tcR s pr).2))]) := by
  have hos : osR s = (opnS s (ptsS s), 0) := by unfold osR; rw [if_neg (fun q => q h0)]
  have hsp := spc_ok h0
  have hok := hsp.ar
  have hn2 := hok.n2
  obtain ⟨hp1, hp2⟩ := ptsS_in hsp
  have hfe : firstE [0, pairE s.ar.el.length pr] = pairE s.ar.el.length pr := by
    unfold firstE
    rw [if_pos rfl]
    unfold firstE
    by_cases q : pairE s.ar.el.length pr = 0
    · rw [if_pos q, q]; rfl
    · rw [if_neg q]
  have hlen := trcR_len s (ptsS s) pr
  refine pc_of_awp Try.func37 rfl Try.ntmps37 (rs := [.cell 4 61, .tmp 5]) Try.results37 (by simp) fun w0 => ?_
  refine awp_seq ?_
  refine awp_region 2 mixed (by kernel_rfl) ?_
  refine rg_q (q_box rfl (by exact .inr ⟨_, rfl⟩)) ?_
  refine rg_q (q_box rfl (by exact .inr ⟨_, rfl⟩)) ?_
  refine rg_nil ?_
  refine aops_alloc zr61 rfl rfl rfl ?_
  refine aops_q rfl (q_assign (x := .d (.v _)) rfl) ?_
  refine aops_nil ?_
  change Awp _ _ _ _ _
  refine awp_seq ?_
  refine awp_region 5 mixed (by kernel_rfl) ?_
  refine rg_q (q_loadA sz54 rfl rfl rfl) ?_
  refine rg_q (q_call en79 (.cons rfl .nil) rfl ((by have h := openSpecimen_p s; rw [hos] at h; exact h))) ?_
  refine rg_q (q_move (x := .d (.tup _)) rfl) ?_
  refine rg_q (q_extract rfl rfl) ?_
  refine rg_q (q_extract rfl rfl) ?_
  refine rg_nil ?_
  refine aops_alloc zr136 rfl rfl rfl ?_
  refine aops_store sz136 rfl rfl (by exact .inr ⟨_, rfl⟩) rfl rfl (by decide) rfl ?_
  refine aops_q rfl (q_assign (x := .d (.v _)) rfl) ?_
  refine aops_nil ?_
  change Awp _ _ _ _ _
  refine awp_seq ?_
  refine awp_seq ?_
  refine awp_region 8 mixed (by kernel_rfl) ?_
  refine rg_q (q_move (x := .d (.v _)) rfl) ?_
  refine rg_q (q_fieldAddr_ref fld136_0 rfl) ?_
  refine rg_q (q_load_refA (ds := [_, _, _, _, _, _, _, _, _, _, _]) sz134 rfl rfl rfl rfl) ?_
  refine rg_q (q_loadA (ds := [_, _]) sz75 rfl rfl rfl) ?_
  refine rg_q (q_call en80 (.cons rfl (.cons rfl .nil)) rfl (pairErr_p s.ar pr (by omega))) ?_
  refine rg_q (q_buildSlice sl155 zr31 rfl rfl (by decide) (.cons rfl (by exact .inl rfl) (.cons rfl (by exact .inl rfl) .nil)) ⟨rfl, rfl, rfl, rfl, trivial⟩ rfl (by decide) rfl) ?_
  refine rg_q (q_call en49 (.cons rfl .nil) rfl (bfirst_p [0, pairE s.ar.el.length pr])) ?_
  refine rg_q (q_assign (x := .d (.v _)) rfl) ?_
  refine rg_nil ?_
  refine aops_nil ?_
  change Awp _ _ _ _ _
  refine awp_seq ?_
  refine awp_region 2 mixed (by kernel_rfl) ?_
  refine rg_q (q_move (x := .d (.v _)) rfl) ?_
  refine rg_q (q_neq rfl rfl) ?_
  refine rg_nil ?_
  refine aops_nil ?_
  change Awp _ _ _ _ _
  refine awp_cond rfl (fun hc3 => ?_) (fun hc3 => ?_)
  ·
    (try simp only [decide_eq_true_eq, decide_eq_false_iff_not, Bool.and_eq_true, Bool.or_eq_true, Bool.and_eq_false_iff, Bool.or_eq_false_iff, Bool.not_eq_true', Bool.not_eq_false', Bool.not_true, Bool.not_false, bif_and, bif_or, Bool.not_not, ne_eq, Decidable.not_not, not_true_eq_false, not_false_eq_true, Int.not_le, Int.not_lt] at hc3)
    rw [hfe] at hc3 ⊢
    have hz : tcR s pr = (z64, pairE s.ar.el.length pr) := by unfold tcR; rw [if_neg (fun q => q h0), if_pos hc3]
    refine awp_seq ?_
    refine awp_region 2 mixed (by kernel_rfl) ?_
    refine rg_q (q_buildA ar61 zr61 rfl .nil trivial rfl) ?_
    refine rg_q (q_move (x := .d (.v _)) rfl) ?_
    refine rg_nil ?_
    refine aops_store sz61 rfl rfl (by exact .inr ⟨_, rfl⟩) rfl rfl (by decide) rfl ?_
    refine aops_q rfl (q_assign (x := .d (.v _)) rfl) ?_
    refine aops_nil ?_
    change Awp _ _ _ _ _
    refine awp_ret ?_
    refine ⟨_, (.cons (.cellA rfl rfl sz61 (by rfl)) (.cons (.tmp (by exact .d _)) .nil)), ?_⟩
    rw [hz]; rfl
  ·
    (try simp only [decide_eq_true_eq, decide_eq_false_iff_not, Bool.and_eq_true, Bool.or_eq_true, Bool.and_eq_false_iff, Bool.or_eq_false_iff, Bool.not_eq_true', Bool.not_eq_false', Bool.not_true, Bool.not_false, bif_and, bif_or, Bool.not_not, ne_eq, Decidable.not_not, not_true_eq_false, not_false_eq_true, Int.not_le, Int.not_lt] at hc3)
    rw [hfe] at hc3
    have hp0 : pairE s.ar.el.length pr = 0 := hc3
    have hpk := pair_ok hp0
    have hz : tcR s pr = trcR s (ptsS s) pr := by unfold tcR; rw [if_neg (fun q => q h0), if_neg (fun q => q hp0)]
    refine awp_skip ?_
    change Awp _ _ _ _ _
    refine awp_seq ?_
    refine awp_region 5 mixed (by kernel_rfl) ?_
    refine rg_q (q_load_refA sz136 rfl rfl rfl rfl) ?_
    refine rg_q (q_loadA (ds := [_, _]) sz75 rfl rfl rfl) ?_
    refine rg_q (q_call en81 (.cons rfl (.cons rfl .nil)) rfl (traceOf_p s (ptsS s) pr hok hpk hsp.p1 hsp.p2 hp1 hp2)) ?_
    refine rg_q (q_extract rfl rfl) ?_
    refine rg_q (q_extract rfl rfl) ?_
    refine rg_nil ?_
    refine aops_store (cs' := (trcR s (ptsS s) pr).1) sz61 rfl rfl (by exact .inr ⟨_, rfl⟩) hlen rfl (Nat.le_of_ble_eq_true rfl) (setCs_all hlen) ?_
    refine aops_q rfl (q_assign (x := .d (.v _)) rfl) ?_
    refine aops_nil ?_
    change Awp _ _ _ _ _
    refine awp_ret ?_
    refine ⟨_, (.cons (.cellA rfl rfl sz61 (by exact hlen)) (.cons (.tmp (by exact .d _)) .nil)), ?_⟩
    rw [hz]; rfl

theorem traceOfS_p (s : Spc) (pr : Int × Int) : PC Try.prog 37 [.agg (spcC s), .agg (shC pr)] (.tup [.agg (tcR s pr).1, .v (.int .i64 ((tcR s pr).2))]) := by
  by_cases h : (ckSpc s).2 = 0
  · exact traceOk_p s pr h
  · exact traceBad_p s pr h
end Go.Proofs.Ytblbnagdhcpnoaa.Am.M
