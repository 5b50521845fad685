/- Contracts over the abstract machine: BenchFlaws. Conditions: none. -/
import Derived.Test.YtblbnagdhcpnoaaK17
set_option linter.unusedVariables false
set_option linter.unusedSimpArgs false
namespace Go.Proofs.Ytblbnagdhcpnoaa.Am.M
open Go

theorem rnd_mul {v n : Int} (h : 1 ≤ n) : rndI (v * n) n = v := by
  unfold rndI
  have e : 2 * (v * n) + n = n + v * (2 * n) := by grind
  rw [e, Int.add_mul_ediv_right _ _ (by omega), Int.ediv_eq_zero_of_lt (by omega) (by omega)]
  omega
theorem betw_0 {n u v : Int} (h : 1 ≤ n) : betw n u v 0 = u := by
  unfold betw
  rw [show u * (n - 0) + v * 0 = u * n by grind]
  exact rnd_mul h
theorem betw_n {n u v : Int} (h : 1 ≤ n) : betw n u v n = v := by
  unfold betw
  rw [show u * (n - n) + v * n = v * n by grind]
  exact rnd_mul h
theorem pts_ends {x : Flw} (hok : FlwOk x) : ∃ y0 yl, (ptsL x)[0]? = some y0 ∧ y0.1 = x.at_ ∧ (ptsL x)[(ptsL x).length - 1]? = some yl ∧ (x.kd ≠ 0 → yl.1 = x.to_ ∧ ((ptsL x).length : Int) = x.pc + 1) ∧ (x.kd = 0 → (ptsL x).length = 1) ∧ 1 ≤ (ptsL x).length := by
  by_cases hk : x.kd = 0
  · have hit : ptsL x = [(x.at_, x.am)] := by unfold ptsL; rw [if_pos hk]
    rw [hit]
    exact ⟨_, _, rfl, rfl, rfl, fun h => absurd hk h, fun _ => rfl, Nat.le_refl _⟩
  · obtain ⟨_, _, ⟨n1, n2⟩, _⟩ := hok.pl hk
    obtain ⟨N, hN⟩ : ∃ N : Nat, x.pc = (N : Int) := ⟨x.pc.toNat, by omega⟩
    have hit : ptsL x = ptsTo x (N + 1) := by unfold ptsL; rw [if_neg hk, show (x.pc + 1).toNat = N + 1 by omega]
    have hl : (ptsTo x (N + 1)).length = N + 1 := by unfold ptsTo; rw [List.length_map, List.length_range]
    have hat : ∀ i : Nat, i < N + 1 → (ptsTo x (N + 1))[i]? = some (ptK x (i : Int)) := fun i hi => by
      unfold ptsTo; rw [List.getElem?_map, List.getElem?_range hi]; rfl
    rw [hit, hl]
    refine ⟨ptK x ((0 : Nat) : Int), ptK x (N : Int), hat 0 (by omega), ?_, hat N (by omega), fun _ => ⟨?_, by omega⟩, fun h => absurd h hk, by omega⟩
    · show (betw x.pc x.at_.1 x.to_.1 0, betw x.pc x.at_.2 x.to_.2 0) = x.at_
      rw [betw_0 n1, betw_0 n1]
    · show (betw x.pc x.at_.1 x.to_.1 (N : Int), betw x.pc x.at_.2 x.to_.2 (N : Int)) = x.to_
      rw [← hN, betw_n n1, betw_n n1]
set_option maxRecDepth 100000 in
theorem benchFlaws_p (x : Flw) : PC Try.prog 4 [.agg (flwC x)] (.v (.bool (true))) := by
  refine pc_of_awpN Try.func4 rfl Try.ntmps4 (rs := [.tmp 2]) Try.results4 (by simp) fun w0 hmine hrnd hpn => ?_
  refine awp_seq ?_
  refine awp_region 2 mixed (by kernel_rfl) ?_
  refine rg_q (q_box rfl (by first | exact .inl rfl | exact .inr ⟨_, rfl⟩)) ?_
  refine rg_q (q_assign (x := .d (.v _)) rfl) ?_
  refine rg_nil ?_
  refine aops_nil ?_
  change Awp _ _ _ _ _
  refine awp_seq ?_
  refine awp_seq ?_
  refine awp_region 2 mixed (by kernel_rfl) ?_
  first | refine rg_q (q_call en12 .nil rfl (awake_p)) ?_ | refine rg_q (q_callF en12 .nil rfl (awake_p) (by first | exact .v _ | exact D.Flat.tupF (by repeat first | exact trivial | refine ⟨.v _, ?_⟩) | exact D.Flat.aggF (by repeat first | exact trivial | refine ⟨.v _, ?_⟩))) ?_
  refine rg_q (q_not rfl) ?_
  refine rg_nil ?_
  refine aops_nil ?_
  change Awp _ _ _ _ _
  refine awp_cond rfl (fun hc1 => ?_) (fun hc1 => ?_)
  ·
    simp at hc1
  ·
    (try simp only [decide_eq_true_eq, decide_eq_false_iff_not, Bool.and_eq_true, Bool.or_eq_true, Bool.and_eq_false_iff, Bool.or_eq_false_iff, Bool.not_eq_true', Bool.not_eq_false', Bool.not_true, Bool.not_false, bif_and, bif_or, Bool.not_not, ne_eq, Decidable.not_not, not_true_eq_false, not_false_eq_true, Int.not_le, Int.not_lt] at hc1)
    refine awp_skip ?_
    change Awp _ _ _ _ _
    refine awp_seq ?_
    refine awp_region 7 mixed (by kernel_rfl) ?_
    first | refine rg_q (q_loadA (ds := [_, _, _, _, _, _, _, _]) sz40 rfl rfl rfl) ?_ | refine rg_q (q_load_refA (ds := [_, _, _, _, _, _, _, _]) sz40 rfl rfl rfl rfl) ?_
    first | refine rg_q (q_call en17 (.cons rfl .nil) rfl (pointsOf_p _)) ?_ | refine rg_q (q_callF en17 (.cons (by first | exact .d _ | exact .rs rfl | exact .ref rfl | exact .nil _ | exact .tref rfl (by repeat (first | exact .nil | refine .cons (.d _ rfl) ?_ | refine .cons (.rs rfl) ?_))) .nil) rfl (pointsOf_p _) (by first | exact .v _ | exact D.Flat.tupF (by repeat first | exact trivial | refine ⟨.v _, ?_⟩) | exact D.Flat.aggF (by repeat first | exact trivial | refine ⟨.v _, ?_⟩))) ?_
    refine rg_q (q_move (x := .d (.tup _)) rfl) ?_
    refine rg_q (q_extract rfl rfl) ?_
    refine rg_q (q_extract rfl rfl) ?_
    first | refine rg_q (q_assign (x := .d (.sl _ _)) rfl) ?_ | refine rg_q (q_assign (x := .rs _) rfl) ?_ | refine rg_q (q_assign (x := .d (.v _)) rfl) ?_
    refine rg_q (q_assign (x := .d (.v _)) rfl) ?_
    refine rg_nil ?_
    refine aops_nil ?_
    change Awp _ _ _ _ _
    refine awp_seq ?_
    refine awp_region 3 mixed (by kernel_rfl) ?_
    first | refine rg_q (q_loadA (ds := [_, _, _, _, _, _, _, _]) sz40 rfl rfl rfl) ?_ | refine rg_q (q_load_refA (ds := [_, _, _, _, _, _, _, _]) sz40 rfl rfl rfl rfl) ?_
    first | refine rg_q (q_call en18 (.cons rfl .nil) rfl (rcheckFlaw_p _)) ?_ | refine rg_q (q_callF en18 (.cons (by first | exact .d _ | exact .rs rfl | exact .ref rfl | exact .nil _ | exact .tref rfl (by repeat (first | exact .nil | refine .cons (.d _ rfl) ?_ | refine .cons (.rs rfl) ?_))) .nil) rfl (rcheckFlaw_p _) (by first | exact .v _ | exact D.Flat.tupF (by repeat first | exact trivial | refine ⟨.v _, ?_⟩) | exact D.Flat.aggF (by repeat first | exact trivial | refine ⟨.v _, ?_⟩))) ?_
    refine rg_q (q_assign (x := .d (.v _)) rfl) ?_
    refine rg_nil ?_
    refine aops_nil ?_
    change Awp _ _ _ _ _
    refine awp_seq ?_
    refine awp_seq ?_
    refine awp_region 4 mixed (by kernel_rfl) ?_
    first | refine rg_q (q_loadA (ds := [_, _, _, _, _, _, _, _]) sz40 rfl rfl rfl) ?_ | refine rg_q (q_load_refA (ds := [_, _, _, _, _, _, _, _]) sz40 rfl rfl rfl rfl) ?_
    first | refine rg_q (q_call en19 (.cons rfl .nil) rfl (checkFlaw_p _)) ?_ | refine rg_q (q_callF en19 (.cons (by first | exact .d _ | exact .rs rfl | exact .ref rfl | exact .nil _ | exact .tref rfl (by repeat (first | exact .nil | refine .cons (.d _ rfl) ?_ | refine .cons (.rs rfl) ?_))) .nil) rfl (checkFlaw_p _) (by first | exact .v _ | exact D.Flat.tupF (by repeat first | exact trivial | refine ⟨.v _, ?_⟩) | exact D.Flat.aggF (by repeat first | exact trivial | refine ⟨.v _, ?_⟩))) ?_
    refine rg_q (q_move (x := .d (.v _)) rfl) ?_
    refine rg_q (q_neq rfl rfl) ?_
    refine rg_nil ?_
    refine aops_nil ?_
    change Awp _ _ _ _ _
    refine awp_cond rfl (fun hc5 => ?_) (fun hc5 => ?_)
    ·
      simp at hc5
    ·
      (try simp only [decide_eq_true_eq, decide_eq_false_iff_not, Bool.and_eq_true, Bool.or_eq_true, Bool.and_eq_false_iff, Bool.or_eq_false_iff, Bool.not_eq_true', Bool.not_eq_false', Bool.not_true, Bool.not_false, bif_and, bif_or, Bool.not_not, ne_eq, Decidable.not_not, not_true_eq_false, not_false_eq_true, Int.not_le, Int.not_lt] at hc5)
      refine awp_skip ?_
      change Awp _ _ _ _ _
      refine awp_seq ?_
      refine awp_seq ?_
      refine awp_region 2 mixed (by kernel_rfl) ?_
      refine rg_q (q_move (x := .d (.v _)) rfl) ?_
      refine rg_q (q_neq rfl rfl) ?_
      refine rg_nil ?_
      refine aops_nil ?_
      change Awp _ _ _ _ _
      refine awp_cond rfl (fun hc7 => ?_) (fun hc7 => ?_)
      ·
        (try simp only [decide_eq_true_eq, decide_eq_false_iff_not, Bool.and_eq_true, Bool.or_eq_true, Bool.and_eq_false_iff, Bool.or_eq_false_iff, Bool.not_eq_true', Bool.not_eq_false', Bool.not_true, Bool.not_false, bif_and, bif_or, Bool.not_not, ne_eq, Decidable.not_not, not_true_eq_false, not_false_eq_true, Int.not_le, Int.not_lt] at hc7)
        have hz : pofR x = ([], flwE x) := by unfold pofR; rw [if_pos hc7]
        rw [hz]
        refine awp_seq ?_
        refine awp_region 9 mixed (by kernel_rfl) ?_
        refine rg_q (q_move (x := .d (.v _)) rfl) ?_
        refine rg_q (q_move (x := .d (.v _)) rfl) ?_
        refine rg_q (q_eql rfl rfl) ?_
        refine rg_q (q_move (x := .d (.v _)) rfl) ?_
        first | refine rg_g rfl rfl (fun hG => (q_move (x := .d (.sl _ _)) rfl)) ?_ | refine rg_g rfl rfl (fun hG => (q_move (x := .rs _) rfl)) ?_ | refine rg_g rfl rfl (fun hG => (q_move (x := .d (.v _)) rfl)) ?_
        first | refine rg_g rfl rfl (fun hG => (q_len isl41 rfl (by first | exact len_map _ _ | rfl))) ?_ | refine rg_g rfl rfl (fun hG => (q_len_rs isl41 rfl rfl)) ?_ | refine rg_g rfl rfl (fun hG => (q_len_nil isl41 rfl)) ?_
        refine rg_g rfl rfl (fun hG => (q_eql rfl rfl)) ?_
        first | refine rg_pick rfl rfl rfl rfl rfl rfl ?_ | refine rg_q (q_pick rfl rfl rfl) ?_
        refine rg_q (q_assign (x := .d (.v _)) rfl) ?_
        refine rg_nil ?_
        refine aops_nil ?_
        change Awp _ _ _ _ _
        refine awp_ret ?_
        refine ⟨_, (.cons (.tmp (by first | exact .d _ | exact .rs rfl | exact .ref rfl | exact .tref rfl (.cons (.d _ rfl) (.cons (.rs rfl) .nil)))) .nil), ?_⟩
        simp [retD]
      ·
        (try simp only [decide_eq_true_eq, decide_eq_false_iff_not, Bool.and_eq_true, Bool.or_eq_true, Bool.and_eq_false_iff, Bool.or_eq_false_iff, Bool.not_eq_true', Bool.not_eq_false', Bool.not_true, Bool.not_false, bif_and, bif_or, Bool.not_not, ne_eq, Decidable.not_not, not_true_eq_false, not_false_eq_true, Int.not_le, Int.not_lt] at hc7)
        have h0 : flwE x = 0 := by omega
        have hok := flw_ok h0
        have hz : pofR x = (ptsL x, 0) := by unfold pofR; rw [if_neg (fun q => q h0)]
        rw [hz]
        obtain ⟨y0, yl, hx0, he0, hxl, hel, hl0, hl1⟩ := pts_ends hok
        obtain ⟨e01, e02⟩ : y0.1.1 = x.at_.1 ∧ y0.1.2 = x.at_.2 := by rw [he0]; exact ⟨rfl, rfl⟩
        have hl21 := ptsL_len hok
        have hne : ptsL x ≠ [] := fun e => by rw [e] at hl1; exact absurd hl1 (by decide)
        refine awp_skip ?_
        change Awp _ _ _ _ _
        refine awp_seq ?_
        refine awp_seq ?_
        refine awp_region 23 mixed (by kernel_rfl) ?_
        refine rg_q (q_move (x := .d (.v _)) rfl) ?_
        refine rg_q (q_neq rfl rfl) ?_
        refine rg_q (q_move (x := .d (.v _)) rfl) ?_
        first | refine rg_g rfl rfl (fun hG => (q_move (x := .d (.sl _ _)) rfl)) ?_ | refine rg_g rfl rfl (fun hG => (q_move (x := .rs _) rfl)) ?_ | refine rg_g rfl rfl (fun hG => (q_move (x := .d (.v _)) rfl)) ?_
        first | refine rg_g rfl rfl (fun hG => (q_loadA (ds := [_, _, _, _, _, _, _, _]) sz40 rfl rfl rfl)) ?_ | refine rg_g rfl rfl (fun hG => (q_load_refA (ds := [_, _, _, _, _, _, _, _]) sz40 rfl rfl rfl rfl)) ?_
        first | refine rg_g rfl rfl (fun hG => (q_call en21 (.cons rfl .nil) rfl (rpointsOf_p _ (by assumption)))) ?_ | refine rg_g rfl rfl (fun hG => (q_callF en21 (.cons (by first | exact .d _ | exact .rs rfl | exact .ref rfl | exact .nil _ | exact .tref rfl (by repeat (first | exact .nil | refine .cons (.d _ rfl) ?_ | refine .cons (.rs rfl) ?_))) .nil) rfl (rpointsOf_p _ (by assumption)) (by first | exact .v _ | exact D.Flat.tupF (by repeat first | exact trivial | refine ⟨.v _, ?_⟩) | exact D.Flat.aggF (by repeat first | exact trivial | refine ⟨.v _, ?_⟩)))) ?_
        first | refine rg_g rfl rfl (fun hG => (q_call en20 (.cons rfl (.cons rfl .nil)) rfl (samePoints_p (ptsL x) (ptsL x)))) ?_ | refine rg_g rfl rfl (fun hG => (q_callF en20 (.cons (by first | exact .d _ | exact .rs rfl | exact .ref rfl | exact .nil _ | exact .tref rfl (by repeat (first | exact .nil | refine .cons (.d _ rfl) ?_ | refine .cons (.rs rfl) ?_))) (.cons (by first | exact .d _ | exact .rs rfl | exact .ref rfl | exact .nil _ | exact .tref rfl (by repeat (first | exact .nil | refine .cons (.d _ rfl) ?_ | refine .cons (.rs rfl) ?_))) .nil)) rfl (samePoints_p (ptsL x) (ptsL x)) (by first | exact .v _ | exact D.Flat.tupF (by repeat first | exact trivial | refine ⟨.v _, ?_⟩) | exact D.Flat.aggF (by repeat first | exact trivial | refine ⟨.v _, ?_⟩)))) ?_
        refine rg_g rfl rfl (fun hG => (q_not rfl)) ?_
        first | refine rg_pick rfl rfl rfl rfl rfl rfl ?_ | refine rg_q (q_pick rfl rfl rfl) ?_
        refine rg_q (q_move (x := .d (.v _)) rfl) ?_
        first | refine rg_g rfl rfl (fun hG => (q_move (x := .d (.sl _ _)) rfl)) ?_ | refine rg_g rfl rfl (fun hG => (q_move (x := .rs _) rfl)) ?_ | refine rg_g rfl rfl (fun hG => (q_move (x := .d (.v _)) rfl)) ?_
        first | refine rg_g rfl rfl (fun hG => (q_len isl41 rfl (by first | exact len_map _ _ | rfl))) ?_ | refine rg_g rfl rfl (fun hG => (q_len_rs isl41 rfl rfl)) ?_ | refine rg_g rfl rfl (fun hG => (q_len_nil isl41 rfl)) ?_
        refine rg_g rfl rfl (fun hG => (q_eql rfl rfl)) ?_
        first | refine rg_pick rfl rfl rfl rfl rfl rfl ?_ | refine rg_q (q_pick rfl rfl rfl) ?_
        refine rg_q (q_move (x := .d (.v _)) rfl) ?_
        first | refine rg_g rfl rfl (fun hG => (q_move (x := .d (.sl _ _)) rfl)) ?_ | refine rg_g rfl rfl (fun hG => (q_move (x := .rs _) rfl)) ?_ | refine rg_g rfl rfl (fun hG => (q_move (x := .d (.v _)) rfl)) ?_
        first | refine rg_g rfl rfl (fun hG => (q_indexAddr sl41 rfl rfl (by (have hg0 := T.bool_inj (a := _) hG.1; (try simp only [decide_eq_true_eq, decide_eq_false_iff_not, Bool.and_eq_true, Bool.or_eq_true, Bool.and_eq_false_iff, Bool.or_eq_false_iff, Bool.not_eq_true', Bool.not_eq_false', Bool.not_true, Bool.not_false, bif_and, bif_or, Bool.not_not, ne_eq, Decidable.not_not, not_true_eq_false, not_false_eq_true, Int.not_le, Int.not_lt] at hg0); first | omega | (simp only; omega) | (simp only [List.length_map]; omega))) (map_at (k := 0) (by rfl) hx0))) ?_ | refine rg_g rfl rfl (fun hG => (q_indexAddr_rs sl41 rfl rfl rfl (by (have hg0 := T.bool_inj (a := _) hG.1; (try simp only [decide_eq_true_eq, decide_eq_false_iff_not, Bool.and_eq_true, Bool.or_eq_true, Bool.and_eq_false_iff, Bool.or_eq_false_iff, Bool.not_eq_true', Bool.not_eq_false', Bool.not_true, Bool.not_false, bif_and, bif_or, Bool.not_not, ne_eq, Decidable.not_not, not_true_eq_false, not_false_eq_true, Int.not_le, Int.not_lt] at hg0); first | omega | (simp only; omega) | (simp only [List.length_map]; omega))) (by (have hg0 := T.bool_inj (a := _) hG.1; (try simp only [decide_eq_true_eq, decide_eq_false_iff_not, Bool.and_eq_true, Bool.or_eq_true, Bool.and_eq_false_iff, Bool.or_eq_false_iff, Bool.not_eq_true', Bool.not_eq_false', Bool.not_true, Bool.not_false, bif_and, bif_or, Bool.not_not, ne_eq, Decidable.not_not, not_true_eq_false, not_false_eq_true, Int.not_le, Int.not_lt] at hg0); first | omega | (simp only; omega) | (simp only [List.length_map]; omega))))) ?_
        first | refine rg_g rfl rfl (fun hG => (q_fieldAddr fld49_0 rfl)) ?_ | refine rg_g rfl rfl (fun hG => (q_fieldAddr_ref fld49_0 rfl)) ?_
        first | refine rg_g rfl rfl (fun hG => (q_loadA (ds := [_, _]) sz38 rfl rfl rfl)) ?_ | refine rg_g rfl rfl (fun hG => (q_load_refA (ds := [_, _]) sz38 rfl rfl rfl rfl)) ?_
        first | refine rg_g rfl rfl (fun hG => (q_fieldAddr fld40_1 rfl)) ?_ | refine rg_g rfl rfl (fun hG => (q_fieldAddr_ref fld40_1 rfl)) ?_
        first | refine rg_g rfl rfl (fun hG => (q_loadA (ds := [_, _]) sz38 rfl rfl rfl)) ?_ | refine rg_g rfl rfl (fun hG => (q_load_refA (ds := [_, _]) sz38 rfl rfl rfl rfl)) ?_
        refine rg_g rfl rfl (fun hG => (q_neqI (xs := [_, _]) (ys := [_, _]) eqi38 rfl rfl rfl rfl)) ?_
        first | refine rg_pick rfl rfl rfl rfl rfl rfl ?_ | refine rg_q (q_pick rfl rfl rfl) ?_
        refine rg_nil ?_
        refine aops_nil ?_
        change Awp _ _ _ _ _
        refine awp_cond rfl (fun hc9 => ?_) (fun hc9 => ?_)
        ·
          simp [hne, e01, e02] at hc9
        ·
          (try simp only [decide_eq_true_eq, decide_eq_false_iff_not, Bool.and_eq_true, Bool.or_eq_true, Bool.and_eq_false_iff, Bool.or_eq_false_iff, Bool.not_eq_true', Bool.not_eq_false', Bool.not_true, Bool.not_false, bif_and, bif_or, Bool.not_not, ne_eq, Decidable.not_not, not_true_eq_false, not_false_eq_true, Int.not_le, Int.not_lt] at hc9)
          refine awp_skip ?_
          change Awp _ _ _ _ _
          refine awp_seq ?_
          refine awp_region 34 mixed (by kernel_rfl) ?_
          first | refine rg_q (q_fieldAddr fld40_0 rfl) ?_ | refine rg_q (q_fieldAddr_ref fld40_0 rfl) ?_
          first | refine rg_q (q_load sz3 rfl rfl) ?_ | refine rg_q (q_load_ref sz3 rfl rfl rfl) ?_ | refine rg_q (q_load_tb (x := .d _) sz3 rfl rfl rfl) ?_ | refine rg_q (q_load_tb (x := .rs _) sz3 rfl rfl rfl) ?_
          refine rg_q (q_eql rfl rfl) ?_
          refine rg_q (q_move (x := .d (.v _)) rfl) ?_
          first | refine rg_g rfl rfl (fun hG => (q_move (x := .d (.sl _ _)) rfl)) ?_ | refine rg_g rfl rfl (fun hG => (q_move (x := .rs _) rfl)) ?_ | refine rg_g rfl rfl (fun hG => (q_move (x := .d (.v _)) rfl)) ?_
          first | refine rg_g rfl rfl (fun hG => (q_len isl41 rfl (by first | exact len_map _ _ | rfl))) ?_ | refine rg_g rfl rfl (fun hG => (q_len_rs isl41 rfl rfl)) ?_ | refine rg_g rfl rfl (fun hG => (q_len_nil isl41 rfl)) ?_
          refine rg_g rfl rfl (fun hG => (q_eql rfl rfl)) ?_
          first | refine rg_pick rfl rfl rfl rfl rfl rfl ?_ | refine rg_q (q_pick rfl rfl rfl) ?_
          refine rg_q (q_move (x := .d (.v _)) rfl) ?_
          first | refine rg_g rfl rfl (fun hG => (q_fieldAddr fld40_0 rfl)) ?_ | refine rg_g rfl rfl (fun hG => (q_fieldAddr_ref fld40_0 rfl)) ?_
          first | refine rg_g rfl rfl (fun hG => (q_load sz3 rfl rfl)) ?_ | refine rg_g rfl rfl (fun hG => (q_load_ref sz3 rfl rfl rfl)) ?_ | refine rg_g rfl rfl (fun hG => (q_load_tb (x := .d _) sz3 rfl rfl rfl)) ?_ | refine rg_g rfl rfl (fun hG => (q_load_tb (x := .rs _) sz3 rfl rfl rfl)) ?_
          refine rg_g rfl rfl (fun hG => (q_eql rfl rfl)) ?_
          refine rg_g rfl rfl (fun hG => (q_move (x := .d (.v _)) rfl)) ?_
          first | refine rg_g rfl rfl (fun hG => (q_move (x := .d (.sl _ _)) rfl)) ?_ | refine rg_g rfl rfl (fun hG => (q_move (x := .rs _) rfl)) ?_ | refine rg_g rfl rfl (fun hG => (q_move (x := .d (.v _)) rfl)) ?_
          first | refine rg_g rfl rfl (fun hG => (q_len isl41 rfl (by first | exact len_map _ _ | rfl))) ?_ | refine rg_g rfl rfl (fun hG => (q_len_rs isl41 rfl rfl)) ?_ | refine rg_g rfl rfl (fun hG => (q_len_nil isl41 rfl)) ?_
          first | refine rg_g rfl rfl (fun hG => (q_fieldAddr fld40_3 rfl)) ?_ | refine rg_g rfl rfl (fun hG => (q_fieldAddr_ref fld40_3 rfl)) ?_
          first | refine rg_g rfl rfl (fun hG => (q_load sz3 rfl rfl)) ?_ | refine rg_g rfl rfl (fun hG => (q_load_ref sz3 rfl rfl rfl)) ?_ | refine rg_g rfl rfl (fun hG => (q_load_tb (x := .d _) sz3 rfl rfl rfl)) ?_ | refine rg_g rfl rfl (fun hG => (q_load_tb (x := .rs _) sz3 rfl rfl rfl)) ?_
          refine rg_g rfl rfl (fun hG => (q_add rfl rfl (In64.mk (by (have hg0 := T.bool_inj (a := _) hG.1; (try simp only [decide_eq_true_eq, decide_eq_false_iff_not, Bool.and_eq_true, Bool.or_eq_true, Bool.and_eq_false_iff, Bool.or_eq_false_iff, Bool.not_eq_true', Bool.not_eq_false', Bool.not_true, Bool.not_false, bif_and, bif_or, Bool.not_not, ne_eq, Decidable.not_not, not_true_eq_false, not_false_eq_true, Int.not_le, Int.not_lt] at hg0); have hg1 := T.bool_inj (a := _) hG.2.1; (try simp only [decide_eq_true_eq, decide_eq_false_iff_not, Bool.and_eq_true, Bool.or_eq_true, Bool.and_eq_false_iff, Bool.or_eq_false_iff, Bool.not_eq_true', Bool.not_eq_false', Bool.not_true, Bool.not_false, bif_and, bif_or, Bool.not_not, ne_eq, Decidable.not_not, not_true_eq_false, not_false_eq_true, Int.not_le, Int.not_lt] at hg1); first | omega | (simp only; omega) | (simp only [List.length_map]; omega))) (by (have hg0 := T.bool_inj (a := _) hG.1; (try simp only [decide_eq_true_eq, decide_eq_false_iff_not, Bool.and_eq_true, Bool.or_eq_true, Bool.and_eq_false_iff, Bool.or_eq_false_iff, Bool.not_eq_true', Bool.not_eq_false', Bool.not_true, Bool.not_false, bif_and, bif_or, Bool.not_not, ne_eq, Decidable.not_not, not_true_eq_false, not_false_eq_true, Int.not_le, Int.not_lt] at hg0); have hg1 := T.bool_inj (a := _) hG.2.1; (try simp only [decide_eq_true_eq, decide_eq_false_iff_not, Bool.and_eq_true, Bool.or_eq_true, Bool.and_eq_false_iff, Bool.or_eq_false_iff, Bool.not_eq_true', Bool.not_eq_false', Bool.not_true, Bool.not_false, bif_and, bif_or, Bool.not_not, ne_eq, Decidable.not_not, not_true_eq_false, not_false_eq_true, Int.not_le, Int.not_lt] at hg1); first | omega | (simp only; omega) | (simp only [List.length_map]; omega)))))) ?_
          refine rg_g rfl rfl (fun hG => (q_eql rfl rfl)) ?_
          refine rg_pickg rfl rfl rfl rfl rfl rfl rfl rfl ?_
          refine rg_g rfl rfl (fun hG => (q_move (x := .d (.v _)) rfl)) ?_
          first | refine rg_g rfl rfl (fun hG => (q_move (x := .d (.sl _ _)) rfl)) ?_ | refine rg_g rfl rfl (fun hG => (q_move (x := .rs _) rfl)) ?_ | refine rg_g rfl rfl (fun hG => (q_move (x := .d (.v _)) rfl)) ?_
          first | refine rg_g rfl rfl (fun hG => (q_move (x := .d (.sl _ _)) rfl)) ?_ | refine rg_g rfl rfl (fun hG => (q_move (x := .rs _) rfl)) ?_ | refine rg_g rfl rfl (fun hG => (q_move (x := .d (.v _)) rfl)) ?_
          first | refine rg_g rfl rfl (fun hG => (q_len isl41 rfl (by first | exact len_map _ _ | rfl))) ?_ | refine rg_g rfl rfl (fun hG => (q_len_rs isl41 rfl rfl)) ?_ | refine rg_g rfl rfl (fun hG => (q_len_nil isl41 rfl)) ?_
          refine rg_g rfl rfl (fun hG => (q_sub rfl rfl (In64.mk (by (have hg0 := T.bool_inj (a := _) hG.1; (try simp only [decide_eq_true_eq, decide_eq_false_iff_not, Bool.and_eq_true, Bool.or_eq_true, Bool.and_eq_false_iff, Bool.or_eq_false_iff, Bool.not_eq_true', Bool.not_eq_false', Bool.not_true, Bool.not_false, bif_and, bif_or, Bool.not_not, ne_eq, Decidable.not_not, not_true_eq_false, not_false_eq_true, Int.not_le, Int.not_lt] at hg0); have hg1 := T.bool_inj (a := _) hG.2.1; (try simp only [decide_eq_true_eq, decide_eq_false_iff_not, Bool.and_eq_true, Bool.or_eq_true, Bool.and_eq_false_iff, Bool.or_eq_false_iff, Bool.not_eq_true', Bool.not_eq_false', Bool.not_true, Bool.not_false, bif_and, bif_or, Bool.not_not, ne_eq, Decidable.not_not, not_true_eq_false, not_false_eq_true, Int.not_le, Int.not_lt] at hg1); first | omega | (simp only; omega) | (simp only [List.length_map]; omega))) (by (have hg0 := T.bool_inj (a := _) hG.1; (try simp only [decide_eq_true_eq, decide_eq_false_iff_not, Bool.and_eq_true, Bool.or_eq_true, Bool.and_eq_false_iff, Bool.or_eq_false_iff, Bool.not_eq_true', Bool.not_eq_false', Bool.not_true, Bool.not_false, bif_and, bif_or, Bool.not_not, ne_eq, Decidable.not_not, not_true_eq_false, not_false_eq_true, Int.not_le, Int.not_lt] at hg0); have hg1 := T.bool_inj (a := _) hG.2.1; (try simp only [decide_eq_true_eq, decide_eq_false_iff_not, Bool.and_eq_true, Bool.or_eq_true, Bool.and_eq_false_iff, Bool.or_eq_false_iff, Bool.not_eq_true', Bool.not_eq_false', Bool.not_true, Bool.not_false, bif_and, bif_or, Bool.not_not, ne_eq, Decidable.not_not, not_true_eq_false, not_false_eq_true, Int.not_le, Int.not_lt] at hg1); first | omega | (simp only; omega) | (simp only [List.length_map]; omega)))))) ?_
          first | refine rg_g rfl rfl (fun hG => (q_indexAddr sl41 rfl rfl (by (have hg0 := T.bool_inj (a := _) hG.1; (try simp only [decide_eq_true_eq, decide_eq_false_iff_not, Bool.and_eq_true, Bool.or_eq_true, Bool.and_eq_false_iff, Bool.or_eq_false_iff, Bool.not_eq_true', Bool.not_eq_false', Bool.not_true, Bool.not_false, bif_and, bif_or, Bool.not_not, ne_eq, Decidable.not_not, not_true_eq_false, not_false_eq_true, Int.not_le, Int.not_lt] at hg0); have hg1 := T.bool_inj (a := _) hG.2.1; (try simp only [decide_eq_true_eq, decide_eq_false_iff_not, Bool.and_eq_true, Bool.or_eq_true, Bool.and_eq_false_iff, Bool.or_eq_false_iff, Bool.not_eq_true', Bool.not_eq_false', Bool.not_true, Bool.not_false, bif_and, bif_or, Bool.not_not, ne_eq, Decidable.not_not, not_true_eq_false, not_false_eq_true, Int.not_le, Int.not_lt] at hg1); first | omega | (simp only; omega) | (simp only [List.length_map]; omega))) (map_at (k := (ptsL x).length - 1) (by (try simp only [List.length_map]); omega) hxl))) ?_ | refine rg_g rfl rfl (fun hG => (q_indexAddr_rs sl41 rfl rfl rfl (by (have hg0 := T.bool_inj (a := _) hG.1; (try simp only [decide_eq_true_eq, decide_eq_false_iff_not, Bool.and_eq_true, Bool.or_eq_true, Bool.and_eq_false_iff, Bool.or_eq_false_iff, Bool.not_eq_true', Bool.not_eq_false', Bool.not_true, Bool.not_false, bif_and, bif_or, Bool.not_not, ne_eq, Decidable.not_not, not_true_eq_false, not_false_eq_true, Int.not_le, Int.not_lt] at hg0); have hg1 := T.bool_inj (a := _) hG.2.1; (try simp only [decide_eq_true_eq, decide_eq_false_iff_not, Bool.and_eq_true, Bool.or_eq_true, Bool.and_eq_false_iff, Bool.or_eq_false_iff, Bool.not_eq_true', Bool.not_eq_false', Bool.not_true, Bool.not_false, bif_and, bif_or, Bool.not_not, ne_eq, Decidable.not_not, not_true_eq_false, not_false_eq_true, Int.not_le, Int.not_lt] at hg1); first | omega | (simp only; omega) | (simp only [List.length_map]; omega))) (by (have hg0 := T.bool_inj (a := _) hG.1; (try simp only [decide_eq_true_eq, decide_eq_false_iff_not, Bool.and_eq_true, Bool.or_eq_true, Bool.and_eq_false_iff, Bool.or_eq_false_iff, Bool.not_eq_true', Bool.not_eq_false', Bool.not_true, Bool.not_false, bif_and, bif_or, Bool.not_not, ne_eq, Decidable.not_not, not_true_eq_false, not_false_eq_true, Int.not_le, Int.not_lt] at hg0); have hg1 := T.bool_inj (a := _) hG.2.1; (try simp only [decide_eq_true_eq, decide_eq_false_iff_not, Bool.and_eq_true, Bool.or_eq_true, Bool.and_eq_false_iff, Bool.or_eq_false_iff, Bool.not_eq_true', Bool.not_eq_false', Bool.not_true, Bool.not_false, bif_and, bif_or, Bool.not_not, ne_eq, Decidable.not_not, not_true_eq_false, not_false_eq_true, Int.not_le, Int.not_lt] at hg1); first | omega | (simp only; omega) | (simp only [List.length_map]; omega))))) ?_
          first | refine rg_g rfl rfl (fun hG => (q_fieldAddr fld49_0 rfl)) ?_ | refine rg_g rfl rfl (fun hG => (q_fieldAddr_ref fld49_0 rfl)) ?_
          first | refine rg_g rfl rfl (fun hG => (q_loadA (ds := [_, _]) sz38 rfl rfl rfl)) ?_ | refine rg_g rfl rfl (fun hG => (q_load_refA (ds := [_, _]) sz38 rfl rfl rfl rfl)) ?_
          first | refine rg_g rfl rfl (fun hG => (q_fieldAddr fld40_2 rfl)) ?_ | refine rg_g rfl rfl (fun hG => (q_fieldAddr_ref fld40_2 rfl)) ?_
          first | refine rg_g rfl rfl (fun hG => (q_loadA (ds := [_, _]) sz38 rfl rfl rfl)) ?_ | refine rg_g rfl rfl (fun hG => (q_load_refA (ds := [_, _]) sz38 rfl rfl rfl rfl)) ?_
          refine rg_g rfl rfl (fun hG => (q_eqlI (xs := [_, _]) (ys := [_, _]) eqi38 rfl rfl rfl rfl)) ?_
          refine rg_pickg rfl rfl rfl rfl rfl rfl rfl rfl ?_
          first | refine rg_pick rfl rfl rfl rfl rfl rfl ?_ | refine rg_q (q_pick rfl rfl rfl) ?_
          refine rg_q (q_assign (x := .d (.v _)) rfl) ?_
          refine rg_nil ?_
          refine aops_nil ?_
          change Awp _ _ _ _ _
          refine awp_ret ?_
          refine ⟨_, (.cons (.tmp (by first | exact .d _ | exact .rs rfl | exact .ref rfl | exact .tref rfl (.cons (.d _ rfl) (.cons (.rs rfl) .nil)))) .nil), ?_⟩
          by_cases hk : x.kd = 0
          · simp [retD, hk, hl0 hk]
          · obtain ⟨q1, q2⟩ := hel hk
            have hk1 : x.kd = 1 := by have := hok.kd; omega
            simp [retD, hk1, q1, q2]
end Go.Proofs.Ytblbnagdhcpnoaa.Am.M
