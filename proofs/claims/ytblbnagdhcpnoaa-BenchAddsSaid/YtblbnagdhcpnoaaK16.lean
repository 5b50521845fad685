/- Contracts over the abstract machine: the reference of chapter 4: flaws and their points. Conditions: none. -/
import Derived.Test.YtblbnagdhcpnoaaK15
set_option linter.unusedVariables false
set_option linter.unusedSimpArgs false
-- mini
namespace Go.Proofs.Ytblbnagdhcpnoaa.Am.M
open Go
set_option maxRecDepth 100000 in
theorem risSpot_p (p : Int × Int) : PC Try.prog 55 [.agg (shC p)] (.v (.bool ((inR (-100000) p.1 100000 && inR (-100000) p.2 100000)))) := by
  refine pc_of_awp Try.func55 rfl Try.ntmps55 (rs := [.tmp 2]) Try.results55 (by simp) fun w0 => ?_
  refine awp_seq ?_
  refine awp_region 2 mixed (by kernel_rfl) ?_
  refine rg_q (q_box rfl (by exact .inr ⟨_, rfl⟩)) ?_
  refine rg_q (q_assign (x := .d (.v _)) rfl) ?_
  refine rg_nil ?_
  refine aops_nil ?_
  change Awp _ _ _ _ _
  refine awp_seq ?_
  refine awp_region 9 mixed (by kernel_rfl) ?_
  refine rg_q (q_fieldAddr fld38_0 rfl) ?_
  refine rg_q (q_load sz3 rfl rfl) ?_
  refine rg_q (q_call en33 (.cons rfl (.cons rfl (.cons rfl .nil))) rfl (within4_p _ _ _)) ?_
  refine rg_q (q_move (x := .d (.v _)) rfl) ?_
  refine rg_g rfl rfl (fun hG => (q_fieldAddr fld38_1 rfl)) ?_
  refine rg_g rfl rfl (fun hG => (q_load sz3 rfl rfl)) ?_
  refine rg_g rfl rfl (fun hG => (q_call en33 (.cons rfl (.cons rfl (.cons rfl .nil))) rfl (within4_p _ _ _))) ?_
  refine rg_pick rfl rfl rfl rfl rfl rfl ?_
  refine rg_q (q_assign (x := .d (.v _)) rfl) ?_
  refine rg_nil ?_
  refine aops_nil ?_
  change Awp _ _ _ _ _
  refine awp_ret ?_
  refine ⟨_, (.cons (.tmp (by exact .d _)) .nil), ?_⟩
  simp only [bif_and]; rfl

theorem spotE_is (p : Int × Int) : spotE p = if (inR (-100000) p.1 100000 && inR (-100000) p.2 100000) = true then 0 else 2 := by
  by_cases h : spotE p = 0
  · rw [h]
    have := spot_ok.1 h
    rw [if_pos (by simp [inR]; omega)]
  · have h2 : spotE p = 2 := by
      unfold spotE mustI at h ⊢
      split at h
      · exact absurd rfl h
      · rename_i q; rw [if_neg q]
    rw [h2, if_neg]
    intro q
    simp [inR] at q
    exact h (spot_ok.2 (by omega))
set_option maxRecDepth 100000 in
theorem rcheckFlaw_p (x : Flw) : PC Try.prog 18 [.agg (flwC x)] (.v (.int .i64 (flwE x))) := by
  have s1 := spotE_is x.at_
  have s2 := spotE_is x.to_
  refine pc_of_awp Try.func18 rfl Try.ntmps18 (rs := [.tmp 2]) Try.results18 (by simp) fun w0 => ?_
  refine awp_seq ?_
  refine awp_region 2 mixed (by kernel_rfl) ?_
  refine rg_q (q_box rfl (by exact .inr ⟨_, rfl⟩)) ?_
  refine rg_q (q_assign (x := .d (.v _)) rfl) ?_
  refine rg_nil ?_
  refine aops_nil ?_
  change Awp _ _ _ _ _
  refine awp_seq ?_
  refine awp_seq ?_
  refine awp_region 8 mixed (by kernel_rfl) ?_
  refine rg_q (q_fieldAddr fld40_0 rfl) ?_
  refine rg_q (q_load sz3 rfl rfl) ?_
  refine rg_q (q_neq rfl rfl) ?_
  refine rg_q (q_move (x := .d (.v _)) rfl) ?_
  refine rg_g rfl rfl (fun hG => (q_fieldAddr fld40_0 rfl)) ?_
  refine rg_g rfl rfl (fun hG => (q_load sz3 rfl rfl)) ?_
  refine rg_g rfl rfl (fun hG => (q_neq rfl rfl)) ?_
  refine rg_pick rfl rfl rfl rfl rfl rfl ?_
  refine rg_nil ?_
  refine aops_nil ?_
  change Awp _ _ _ _ _
  refine awp_cond rfl (fun hc1 => ?_) (fun hc1 => ?_)
  ·
    (try simp only [decide_eq_true_eq, decide_eq_false_iff_not, Bool.and_eq_true, Bool.or_eq_true, Bool.and_eq_false_iff, Bool.or_eq_false_iff, Bool.not_eq_true', Bool.not_eq_false', Bool.not_true, Bool.not_false, bif_and, bif_or, Bool.not_not, ne_eq, Decidable.not_not, not_true_eq_false, not_false_eq_true, Int.not_le, Int.not_lt] at hc1)
    have hz : flwE x = 15 := by unfold flwE; rw [if_pos (by omega)]
    refine awp_seq ?_
    refine awp_region 1 mixed (by kernel_rfl) ?_
    refine rg_q (q_assign (x := .d (.v _)) rfl) ?_
    refine rg_nil ?_
    refine aops_nil ?_
    change Awp _ _ _ _ _
    refine awp_ret ?_
    refine ⟨_, (.cons (.tmp (by exact .d _)) .nil), ?_⟩
    rw [hz]; rfl
  ·
    (try simp only [decide_eq_true_eq, decide_eq_false_iff_not, Bool.and_eq_true, Bool.or_eq_true, Bool.and_eq_false_iff, Bool.or_eq_false_iff, Bool.not_eq_true', Bool.not_eq_false', Bool.not_true, Bool.not_false, bif_and, bif_or, Bool.not_not, ne_eq, Decidable.not_not, not_true_eq_false, not_false_eq_true, Int.not_le, Int.not_lt] at hc1)
    have hk : 0 ≤ x.kd ∧ x.kd ≤ 1 := by omega
    have hu : flwE x = if flwE0 x ≠ 0 then flwE0 x else if x.kd = 0 then poreE x else planeE x := by unfold flwE; rw [if_neg (fun h => h hk)]
    refine awp_skip ?_
    change Awp _ _ _ _ _
    refine awp_seq ?_
    refine awp_seq ?_
    refine awp_region 10 mixed (by kernel_rfl) ?_
    refine rg_q (q_fieldAddr fld40_1 rfl) ?_
    refine rg_q (q_loadA (ds := [_, _]) sz38 rfl rfl rfl) ?_
    refine rg_q (q_call en55 (.cons rfl .nil) rfl (risSpot_p _)) ?_
    refine rg_q (q_not rfl) ?_
    refine rg_q (q_move (x := .d (.v _)) rfl) ?_
    refine rg_g rfl rfl (fun hG => (q_fieldAddr fld40_4 rfl)) ?_
    refine rg_g rfl rfl (fun hG => (q_load sz3 rfl rfl)) ?_
    refine rg_g rfl rfl (fun hG => (q_call en60 (.cons rfl .nil) rfl (risAmp_p _))) ?_
    refine rg_g rfl rfl (fun hG => (q_not rfl)) ?_
    refine rg_pick rfl rfl rfl rfl rfl rfl ?_
    refine rg_nil ?_
    refine aops_nil ?_
    change Awp _ _ _ _ _
    refine awp_cond rfl (fun hc3 => ?_) (fun hc3 => ?_)
    ·
      (try simp only [decide_eq_true_eq, decide_eq_false_iff_not, Bool.and_eq_true, Bool.or_eq_true, Bool.and_eq_false_iff, Bool.or_eq_false_iff, Bool.not_eq_true', Bool.not_eq_false', Bool.not_true, Bool.not_false, bif_and, bif_or, Bool.not_not, ne_eq, Decidable.not_not, not_true_eq_false, not_false_eq_true, Int.not_le, Int.not_lt] at hc3)
      have hz0 : flwE0 x = 2 := by
        unfold flwE0
        rw [s1]
        rcases hc3 with q | q
        · rw [if_neg (by rcases q with q | q <;> rw [q] <;> simp)]; rfl
        · rw [q]
          by_cases q2 : (inR (-100000) x.at_.1 100000 && inR (-100000) x.at_.2 100000) = true
          · rw [if_pos q2]; rfl
          · rw [if_neg q2]; rfl
      have hz : flwE x = 2 := by rw [hu, hz0, if_pos (by decide)]
      refine awp_seq ?_
      refine awp_region 1 mixed (by kernel_rfl) ?_
      refine rg_q (q_assign (x := .d (.v _)) rfl) ?_
      refine rg_nil ?_
      refine aops_nil ?_
      change Awp _ _ _ _ _
      refine awp_ret ?_
      refine ⟨_, (.cons (.tmp (by exact .d _)) .nil), ?_⟩
      rw [hz]; rfl
    ·
      (try simp only [decide_eq_true_eq, decide_eq_false_iff_not, Bool.and_eq_true, Bool.or_eq_true, Bool.and_eq_false_iff, Bool.or_eq_false_iff, Bool.not_eq_true', Bool.not_eq_false', Bool.not_true, Bool.not_false, bif_and, bif_or, Bool.not_not, ne_eq, Decidable.not_not, not_true_eq_false, not_false_eq_true, Int.not_le, Int.not_lt] at hc3)
      have hz0 : flwE0 x = 0 := by
        unfold flwE0
        rw [s1, hc3.2, if_pos (by simp_all)]; rfl
      have hu2 : flwE x = if x.kd = 0 then poreE x else planeE x := by rw [hu, hz0, if_neg (by simp)]
      refine awp_skip ?_
      change Awp _ _ _ _ _
      refine awp_seq ?_
      refine awp_seq ?_
      refine awp_region 3 mixed (by kernel_rfl) ?_
      refine rg_q (q_fieldAddr fld40_0 rfl) ?_
      refine rg_q (q_load sz3 rfl rfl) ?_
      refine rg_q (q_eql rfl rfl) ?_
      refine rg_nil ?_
      refine aops_nil ?_
      change Awp _ _ _ _ _
      refine awp_cond rfl (fun hc5 => ?_) (fun hc5 => ?_)
      ·
        (try simp only [decide_eq_true_eq, decide_eq_false_iff_not, Bool.and_eq_true, Bool.or_eq_true, Bool.and_eq_false_iff, Bool.or_eq_false_iff, Bool.not_eq_true', Bool.not_eq_false', Bool.not_true, Bool.not_false, bif_and, bif_or, Bool.not_not, ne_eq, Decidable.not_not, not_true_eq_false, not_false_eq_true, Int.not_le, Int.not_lt] at hc5)
        rw [if_pos hc5] at hu2
        refine awp_seq ?_
        refine awp_seq ?_
        refine awp_region 14 mixed (by kernel_rfl) ?_
        refine rg_q (q_fieldAddr fld40_2 rfl) ?_
        refine rg_q (q_loadA (ds := [_, _]) sz38 rfl rfl rfl) ?_
        refine rg_q (q_build (cs := [_, _]) pl38 zr38 rfl .nil trivial rfl) ?_
        refine rg_q (q_neqI (xs := [_, _]) (ys := [_, _]) eqi38 rfl rfl rfl rfl) ?_
        refine rg_q (q_move (x := .d (.v _)) rfl) ?_
        refine rg_g rfl rfl (fun hG => (q_fieldAddr fld40_3 rfl)) ?_
        refine rg_g rfl rfl (fun hG => (q_load sz3 rfl rfl)) ?_
        refine rg_g rfl rfl (fun hG => (q_neq rfl rfl)) ?_
        refine rg_pick rfl rfl rfl rfl rfl rfl ?_
        refine rg_q (q_move (x := .d (.v _)) rfl) ?_
        refine rg_g rfl rfl (fun hG => (q_fieldAddr fld40_5 rfl)) ?_
        refine rg_g rfl rfl (fun hG => (q_load sz3 rfl rfl)) ?_
        refine rg_g rfl rfl (fun hG => (q_neq rfl rfl)) ?_
        refine rg_pick rfl rfl rfl rfl rfl rfl ?_
        refine rg_nil ?_
        refine aops_nil ?_
        change Awp _ _ _ _ _
        refine awp_cond rfl (fun hc6 => ?_) (fun hc6 => ?_)
        ·
          (try simp only [decide_eq_true_eq, decide_eq_false_iff_not, Bool.and_eq_true, Bool.or_eq_true, Bool.and_eq_false_iff, Bool.or_eq_false_iff, Bool.not_eq_true', Bool.not_eq_false', Bool.not_true, Bool.not_false, bif_and, bif_or, Bool.not_not, ne_eq, Decidable.not_not, not_true_eq_false, not_false_eq_true, Int.not_le, Int.not_lt] at hc6)
          have hz : flwE x = 3 := by
            rw [hu2]; unfold poreE whenI
            rw [if_pos]
            simp
            simp at hc6
            omega
          refine awp_seq ?_
          refine awp_region 1 mixed (by kernel_rfl) ?_
          refine rg_q (q_assign (x := .d (.v _)) rfl) ?_
          refine rg_nil ?_
          refine aops_nil ?_
          change Awp _ _ _ _ _
          refine awp_ret ?_
          refine ⟨_, (.cons (.tmp (by exact .d _)) .nil), ?_⟩
          rw [hz]; rfl
        ·
          (try simp only [decide_eq_true_eq, decide_eq_false_iff_not, Bool.and_eq_true, Bool.or_eq_true, Bool.and_eq_false_iff, Bool.or_eq_false_iff, Bool.not_eq_true', Bool.not_eq_false', Bool.not_true, Bool.not_false, bif_and, bif_or, Bool.not_not, ne_eq, Decidable.not_not, not_true_eq_false, not_false_eq_true, Int.not_le, Int.not_lt] at hc6)
          have hz : flwE x = 0 := by
            rw [hu2]; unfold poreE whenI
            rw [if_neg]
            simp
            simp at hc6
            omega
          refine awp_skip ?_
          change Awp _ _ _ _ _
          refine awp_seq ?_
          refine awp_region 1 mixed (by kernel_rfl) ?_
          refine rg_q (q_assign (x := .d (.v _)) rfl) ?_
          refine rg_nil ?_
          refine aops_nil ?_
          change Awp _ _ _ _ _
          refine awp_ret ?_
          refine ⟨_, (.cons (.tmp (by exact .d _)) .nil), ?_⟩
          rw [hz]; rfl
      ·
        (try simp only [decide_eq_true_eq, decide_eq_false_iff_not, Bool.and_eq_true, Bool.or_eq_true, Bool.and_eq_false_iff, Bool.or_eq_false_iff, Bool.not_eq_true', Bool.not_eq_false', Bool.not_true, Bool.not_false, bif_and, bif_or, Bool.not_not, ne_eq, Decidable.not_not, not_true_eq_false, not_false_eq_true, Int.not_le, Int.not_lt] at hc5)
        rw [if_neg hc5] at hu2
        refine awp_skip ?_
        change Awp _ _ _ _ _
        refine awp_seq ?_
        refine awp_seq ?_
        refine awp_region 16 mixed (by kernel_rfl) ?_
        refine rg_q (q_fieldAddr fld40_2 rfl) ?_
        refine rg_q (q_loadA (ds := [_, _]) sz38 rfl rfl rfl) ?_
        refine rg_q (q_call en55 (.cons rfl .nil) rfl (risSpot_p _)) ?_
        refine rg_q (q_not rfl) ?_
        refine rg_q (q_move (x := .d (.v _)) rfl) ?_
        refine rg_g rfl rfl (fun hG => (q_fieldAddr fld40_3 rfl)) ?_
        refine rg_g rfl rfl (fun hG => (q_load sz3 rfl rfl)) ?_
        refine rg_g rfl rfl (fun hG => (q_call en33 (.cons rfl (.cons rfl (.cons rfl .nil))) rfl (within4_p _ _ _))) ?_
        refine rg_g rfl rfl (fun hG => (q_not rfl)) ?_
        refine rg_pick rfl rfl rfl rfl rfl rfl ?_
        refine rg_q (q_move (x := .d (.v _)) rfl) ?_
        refine rg_g rfl rfl (fun hG => (q_fieldAddr fld40_5 rfl)) ?_
        refine rg_g rfl rfl (fun hG => (q_load sz3 rfl rfl)) ?_
        refine rg_g rfl rfl (fun hG => (q_call en60 (.cons rfl .nil) rfl (risAmp_p _))) ?_
        refine rg_g rfl rfl (fun hG => (q_not rfl)) ?_
        refine rg_pick rfl rfl rfl rfl rfl rfl ?_
        refine rg_nil ?_
        refine aops_nil ?_
        change Awp _ _ _ _ _
        refine awp_cond rfl (fun hc9 => ?_) (fun hc9 => ?_)
        ·
          (try simp only [decide_eq_true_eq, decide_eq_false_iff_not, Bool.and_eq_true, Bool.or_eq_true, Bool.and_eq_false_iff, Bool.or_eq_false_iff, Bool.not_eq_true', Bool.not_eq_false', Bool.not_true, Bool.not_false, bif_and, bif_or, Bool.not_not, ne_eq, Decidable.not_not, not_true_eq_false, not_false_eq_true, Int.not_le, Int.not_lt] at hc9)
          have hz : flwE x = 2 := by
            rw [hu2]; unfold planeE; rw [s2]
            by_cases q : (inR (-100000) x.to_.1 100000 && inR (-100000) x.to_.2 100000) = true
            · have hb : (!inR 1 x.pc 20 || !inR (-1000) x.tp 1000) = true := by
                rcases hc9 with (q2 | q2) | q2
                · rw [Bool.and_eq_true] at q
                  rcases q2 with q2 | q2
                  · rw [q2] at q; cases q.1
                  · rw [q2] at q; cases q.2
                · rw [q2]; rfl
                · rw [q2]; simp
              rw [if_pos q, hb]; rfl
            · rw [if_neg q]; rfl
          refine awp_seq ?_
          refine awp_region 1 mixed (by kernel_rfl) ?_
          refine rg_q (q_assign (x := .d (.v _)) rfl) ?_
          refine rg_nil ?_
          refine aops_nil ?_
          change Awp _ _ _ _ _
          refine awp_ret ?_
          refine ⟨_, (.cons (.tmp (by exact .d _)) .nil), ?_⟩
          rw [hz]; rfl
        ·
          (try simp only [decide_eq_true_eq, decide_eq_false_iff_not, Bool.and_eq_true, Bool.or_eq_true, Bool.and_eq_false_iff, Bool.or_eq_false_iff, Bool.not_eq_true', Bool.not_eq_false', Bool.not_true, Bool.not_false, bif_and, bif_or, Bool.not_not, ne_eq, Decidable.not_not, not_true_eq_false, not_false_eq_true, Int.not_le, Int.not_lt] at hc9)
          have hu3 : flwE x = whenI (decide ([x.to_.1, x.to_.2] = [x.at_.1, x.at_.2])) 11 := by
            rw [hu2]; unfold planeE
            obtain ⟨⟨⟨q0, q1⟩, q2⟩, q3⟩ := hc9
            rw [s2, q0, q1, q2, q3]
            show firstE [0, 0, _] = _
            unfold firstE; rw [if_pos rfl]
            unfold firstE; rw [if_pos rfl]
            unfold firstE
            split
            · rename_i q; rw [q]; rfl
            · rfl
          refine awp_skip ?_
          change Awp _ _ _ _ _
          refine awp_seq ?_
          refine awp_seq ?_
          refine awp_region 5 mixed (by kernel_rfl) ?_
          refine rg_q (q_fieldAddr fld40_2 rfl) ?_
          refine rg_q (q_loadA (ds := [_, _]) sz38 rfl rfl rfl) ?_
          refine rg_q (q_fieldAddr fld40_1 rfl) ?_
          refine rg_q (q_loadA (ds := [_, _]) sz38 rfl rfl rfl) ?_
          refine rg_q (q_eqlI (xs := [_, _]) (ys := [_, _]) eqi38 rfl rfl rfl rfl) ?_
          refine rg_nil ?_
          refine aops_nil ?_
          change Awp _ _ _ _ _
          refine awp_cond rfl (fun hc11 => ?_) (fun hc11 => ?_)
          ·
            (try simp only [decide_eq_true_eq, decide_eq_false_iff_not, Bool.and_eq_true, Bool.or_eq_true, Bool.and_eq_false_iff, Bool.or_eq_false_iff, Bool.not_eq_true', Bool.not_eq_false', Bool.not_true, Bool.not_false, bif_and, bif_or, Bool.not_not, ne_eq, Decidable.not_not, not_true_eq_false, not_false_eq_true, Int.not_le, Int.not_lt] at hc11)
            have hz : flwE x = 11 := by rw [hu3, decide_eq_true hc11]; rfl
            refine awp_seq ?_
            refine awp_region 1 mixed (by kernel_rfl) ?_
            refine rg_q (q_assign (x := .d (.v _)) rfl) ?_
            refine rg_nil ?_
            refine aops_nil ?_
            change Awp _ _ _ _ _
            refine awp_ret ?_
            refine ⟨_, (.cons (.tmp (by exact .d _)) .nil), ?_⟩
            rw [hz]; rfl
          ·
            (try simp only [decide_eq_true_eq, decide_eq_false_iff_not, Bool.and_eq_true, Bool.or_eq_true, Bool.and_eq_false_iff, Bool.or_eq_false_iff, Bool.not_eq_true', Bool.not_eq_false', Bool.not_true, Bool.not_false, bif_and, bif_or, Bool.not_not, ne_eq, Decidable.not_not, not_true_eq_false, not_false_eq_true, Int.not_le, Int.not_lt] at hc11)
            have hz : flwE x = 0 := by rw [hu3, decide_eq_false hc11]; rfl
            refine awp_skip ?_
            change Awp _ _ _ _ _
            refine awp_seq ?_
            refine awp_region 1 mixed (by kernel_rfl) ?_
            refine rg_q (q_assign (x := .d (.v _)) rfl) ?_
            refine rg_nil ?_
            refine aops_nil ?_
            change Awp _ _ _ _ _
            refine awp_ret ?_
            refine ⟨_, (.cons (.tmp (by exact .d _)) .nil), ?_⟩
            rw [hz]; rfl
end Go.Proofs.Ytblbnagdhcpnoaa.Am.M
