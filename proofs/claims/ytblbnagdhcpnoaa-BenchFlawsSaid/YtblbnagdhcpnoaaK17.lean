/- Contracts over the abstract machine: the reference of chapter 4: points of flaws. Conditions: none. -/
import Derived.Test.YtblbnagdhcpnoaaK16
set_option linter.unusedVariables false
set_option linter.unusedSimpArgs false
namespace Go.Proofs.Ytblbnagdhcpnoaa.Am.M
open Go
set_option maxRecDepth 100000 in
theorem rfloor4_p (n b : Int) (h1 : -1000000000000000000 ≤ n) (h2 : n ≤ 1000000000000000000) (hb : 0 < b) : PC Try.prog 106 [.v (.int .i64 (n)), .v (.int .i64 (b))] (.v (.int .i64 (n / b))) := by
  have hq := tdiv_sm (show Sm n from ⟨by omega, by omega⟩) hb
  obtain ⟨h3, h4⟩ := hq
  have hl := floor_law (n := n) hb
  refine pc_of_awp Try.func106 rfl Try.ntmps106 (rs := [.tmp 4]) Try.results106 (by simp) fun w0 => ?_
  refine awp_seq ?_
  refine awp_region 1 mixed (by kernel_rfl) ?_
  refine rg_q (q_assign (x := .d (.v _)) rfl) ?_
  refine rg_nil ?_
  refine aops_nil ?_
  change Awp _ _ _ _ _
  refine awp_seq ?_
  refine awp_region 4 mixed (by kernel_rfl) ?_
  refine rg_q (q_move (x := .d (.v _)) rfl) ?_
  refine rg_q (q_move (x := .d (.v _)) rfl) ?_
  refine rg_q (q_quo rfl rfl (by omega) (In64.mk (by omega) (by omega))) ?_
  refine rg_q (q_assign (x := .d (.v _)) rfl) ?_
  refine rg_nil ?_
  refine aops_nil ?_
  change Awp _ _ _ _ _
  refine awp_seq ?_
  refine awp_seq ?_
  refine awp_region 4 mixed (by kernel_rfl) ?_
  refine rg_q (q_move (x := .d (.v _)) rfl) ?_
  refine rg_q (q_move (x := .d (.v _)) rfl) ?_
  refine rg_q (q_rem rfl rfl (by omega)) ?_
  refine rg_q (q_lss rfl rfl) ?_
  refine rg_nil ?_
  refine aops_nil ?_
  change Awp _ _ _ _ _
  refine awp_cond rfl (fun hc2 => ?_) (fun hc2 => ?_)
  ·
    (try simp only [decide_eq_true_eq, decide_eq_false_iff_not, Bool.and_eq_true, Bool.or_eq_true, Bool.and_eq_false_iff, Bool.or_eq_false_iff, Bool.not_eq_true', Bool.not_eq_false', Bool.not_true, Bool.not_false, bif_and, bif_or, Bool.not_not, ne_eq, Decidable.not_not, not_true_eq_false, not_false_eq_true, Int.not_le, Int.not_lt] at hc2)
    rw [if_pos hc2] at hl
    refine awp_region 3 mixed (by kernel_rfl) ?_
    refine rg_q (q_move (x := .d (.v _)) rfl) ?_
    refine rg_q (q_sub rfl rfl (In64.mk (by omega) (by omega))) ?_
    refine rg_q (q_assign (x := .d (.v _)) rfl) ?_
    refine rg_nil ?_
    refine aops_nil ?_
    change Awp _ _ _ _ _
    refine awp_seq ?_
    refine awp_region 2 mixed (by kernel_rfl) ?_
    refine rg_q (q_move (x := .d (.v _)) rfl) ?_
    refine rg_q (q_assign (x := .d (.v _)) rfl) ?_
    refine rg_nil ?_
    refine aops_nil ?_
    change Awp _ _ _ _ _
    refine awp_ret ?_
    refine ⟨_, (.cons (.tmp (by first | exact .d _ | exact .rs rfl | exact .ref rfl | exact .tref rfl (.cons (.d _ rfl) (.cons (.rs rfl) .nil)))) .nil), ?_⟩
    rw [← hl]; rfl
  ·
    (try simp only [decide_eq_true_eq, decide_eq_false_iff_not, Bool.and_eq_true, Bool.or_eq_true, Bool.and_eq_false_iff, Bool.or_eq_false_iff, Bool.not_eq_true', Bool.not_eq_false', Bool.not_true, Bool.not_false, bif_and, bif_or, Bool.not_not, ne_eq, Decidable.not_not, not_true_eq_false, not_false_eq_true, Int.not_le, Int.not_lt] at hc2)
    rw [if_neg (by omega)] at hl
    refine awp_skip ?_
    change Awp _ _ _ _ _
    refine awp_seq ?_
    refine awp_region 2 mixed (by kernel_rfl) ?_
    refine rg_q (q_move (x := .d (.v _)) rfl) ?_
    refine rg_q (q_assign (x := .d (.v _)) rfl) ?_
    refine rg_nil ?_
    refine aops_nil ?_
    change Awp _ _ _ _ _
    refine awp_ret ?_
    refine ⟨_, (.cons (.tmp (by first | exact .d _ | exact .rs rfl | exact .ref rfl | exact .tref rfl (.cons (.d _ rfl) (.cons (.rs rfl) .nil)))) .nil), ?_⟩
    rw [← hl]; rfl
set_option maxRecDepth 100000 in
theorem rrounded4_p (n b : Int) (h1 : -100000000000000 ≤ n) (h2 : n ≤ 100000000000000) (h3 : 1 ≤ b) (h4 : b ≤ 100000000000000) : PC Try.prog 63 [.v (.int .i64 (n)), .v (.int .i64 (b))] (.v (.int .i64 (rndI n b))) := by
  refine pc_of_awp Try.func63 rfl Try.ntmps63 (rs := [.tmp 4]) Try.results63 (by simp) fun w0 => ?_
  refine awp_seq ?_
  refine awp_region 1 mixed (by kernel_rfl) ?_
  refine rg_q (q_assign (x := .d (.v _)) rfl) ?_
  refine rg_nil ?_
  refine aops_nil ?_
  change Awp _ _ _ _ _
  refine awp_seq ?_
  refine awp_region 8 mixed (by kernel_rfl) ?_
  refine rg_q (q_move (x := .d (.v _)) rfl) ?_
  refine rg_q (q_mul rfl rfl (In64.mk (by omega) (by omega))) ?_
  refine rg_q (q_move (x := .d (.v _)) rfl) ?_
  refine rg_q (q_add rfl rfl (In64.mk (by omega) (by omega))) ?_
  refine rg_q (q_move (x := .d (.v _)) rfl) ?_
  refine rg_q (q_mul rfl rfl (In64.mk (by omega) (by omega))) ?_
  first | refine rg_q (q_call en106 (.cons rfl (.cons rfl .nil)) rfl (rfloor4_p _ _ (by omega) (by omega) (by omega))) ?_ | refine rg_q (q_callF en106 (.cons (by first | exact .d _ | exact .rs rfl | exact .ref rfl | exact .nil _ | exact .tref rfl (by repeat (first | exact .nil | refine .cons (.d _ rfl) ?_ | refine .cons (.rs rfl) ?_))) (.cons (by first | exact .d _ | exact .rs rfl | exact .ref rfl | exact .nil _ | exact .tref rfl (by repeat (first | exact .nil | refine .cons (.d _ rfl) ?_ | refine .cons (.rs rfl) ?_))) .nil)) rfl (rfloor4_p _ _ (by omega) (by omega) (by omega)) (by first | exact .v _ | exact D.Flat.tupF (by repeat first | exact trivial | refine ⟨.v _, ?_⟩) | exact D.Flat.aggF (by repeat first | exact trivial | refine ⟨.v _, ?_⟩))) ?_
  refine rg_q (q_assign (x := .d (.v _)) rfl) ?_
  refine rg_nil ?_
  refine aops_nil ?_
  change Awp _ _ _ _ _
  refine awp_ret ?_
  refine ⟨_, (.cons (.tmp (by first | exact .d _ | exact .rs rfl | exact .ref rfl | exact .tref rfl (.cons (.d _ rfl) (.cons (.rs rfl) .nil)))) .nil), ?_⟩
  rfl
set_option maxRecDepth 100000 in
theorem rpointsOf_p (x : Flw) (hok : FlwOk x) : PC Try.prog 21 [.agg (flwC x)] (.sl 3 ((ptsL x).map ptnC)) := by
  obtain ⟨⟨kd1, kd2⟩, ⟨ha1, ha2⟩, ⟨ha3, ha4⟩, ham, hpl⟩ := hok
  refine pc_of_awpN Try.func21 rfl Try.ntmps21 (rs := [.tmp 2]) Try.results21 (by simp) fun w0 hmine hrnd hpn => ?_
  refine awp_seq ?_
  refine awp_region 2 mixed (by kernel_rfl) ?_
  refine rg_q (q_box rfl (by first | exact .inl rfl | exact .inr ⟨_, rfl⟩)) ?_
  first | refine rg_q (q_assign (x := .d (.sl _ _)) rfl) ?_ | refine rg_q (q_assign (x := .rs _) rfl) ?_ | refine rg_q (q_assign (x := .d (.v _)) rfl) ?_
  refine rg_nil ?_
  refine aops_nil ?_
  change Awp _ _ _ _ _
  refine awp_seq ?_
  refine awp_seq ?_
  refine awp_region 3 mixed (by kernel_rfl) ?_
  first | refine rg_q (q_fieldAddr fld40_0 rfl) ?_ | refine rg_q (q_fieldAddr_ref fld40_0 rfl) ?_
  first | refine rg_q (q_load sz3 rfl rfl) ?_ | refine rg_q (q_load_ref sz3 rfl rfl rfl) ?_ | refine rg_q (q_load_tb (x := .d _) sz3 rfl rfl rfl) ?_ | refine rg_q (q_load_tb (x := .rs _) sz3 rfl rfl rfl) ?_
  refine rg_q (q_eql rfl rfl) ?_
  refine rg_nil ?_
  refine aops_nil ?_
  change Awp _ _ _ _ _
  refine awp_cond rfl (fun hc1 => ?_) (fun hc1 => ?_)
  ·
    (try simp only [decide_eq_true_eq, decide_eq_false_iff_not, Bool.and_eq_true, Bool.or_eq_true, Bool.and_eq_false_iff, Bool.or_eq_false_iff, Bool.not_eq_true', Bool.not_eq_false', Bool.not_true, Bool.not_false, bif_and, bif_or, Bool.not_not, ne_eq, Decidable.not_not, not_true_eq_false, not_false_eq_true, Int.not_le, Int.not_lt] at hc1)
    have hit : ptsL x = [(x.at_, x.am)] := by unfold ptsL; rw [if_pos hc1]
    refine awp_seq ?_
    refine awp_region 7 mixed (by kernel_rfl) ?_
    first | refine rg_q (q_fieldAddr fld40_1 rfl) ?_ | refine rg_q (q_fieldAddr_ref fld40_1 rfl) ?_
    first | refine rg_q (q_loadA (ds := [_, _]) sz38 rfl rfl rfl) ?_ | refine rg_q (q_load_refA (ds := [_, _]) sz38 rfl rfl rfl rfl) ?_
    first | refine rg_q (q_fieldAddr fld40_4 rfl) ?_ | refine rg_q (q_fieldAddr_ref fld40_4 rfl) ?_
    first | refine rg_q (q_load sz3 rfl rfl) ?_ | refine rg_q (q_load_ref sz3 rfl rfl rfl) ?_ | refine rg_q (q_load_tb (x := .d _) sz3 rfl rfl rfl) ?_ | refine rg_q (q_load_tb (x := .rs _) sz3 rfl rfl rfl) ?_
    refine rg_q (q_build (cs := [_, _, _]) pl49 zr49 rfl (.cons rfl (by first | exact .inl rfl | exact .inr ⟨_, rfl⟩) (.cons rfl (by first | exact .inl rfl | exact .inr ⟨_, rfl⟩) .nil)) ⟨⟨rfl, by decide⟩, ⟨rfl, by decide⟩, trivial⟩ rfl) ?_
    refine rg_q (q_buildSlice sl41 zr49 rfl rfl (by decide) (.cons rfl (by first | exact .inl rfl | exact .inr ⟨_, rfl⟩) .nil) ⟨rfl, rfl, trivial⟩ rfl (by decide) rfl) ?_
    first | refine rg_q (q_assign (x := .d (.sl _ _)) rfl) ?_ | refine rg_q (q_assign (x := .rs _) rfl) ?_ | refine rg_q (q_assign (x := .d (.v _)) rfl) ?_
    refine rg_nil ?_
    refine aops_nil ?_
    change Awp _ _ _ _ _
    refine awp_ret ?_
    refine ⟨_, (.cons (.tmp (by first | exact .d _ | exact .rs rfl | exact .ref rfl | exact .tref rfl (.cons (.d _ rfl) (.cons (.rs rfl) .nil)))) .nil), ?_⟩
    rw [hit]; rfl
  ·
    (try simp only [decide_eq_true_eq, decide_eq_false_iff_not, Bool.and_eq_true, Bool.or_eq_true, Bool.and_eq_false_iff, Bool.or_eq_false_iff, Bool.not_eq_true', Bool.not_eq_false', Bool.not_true, Bool.not_false, bif_and, bif_or, Bool.not_not, ne_eq, Decidable.not_not, not_true_eq_false, not_false_eq_true, Int.not_le, Int.not_lt] at hc1)
    obtain ⟨⟨ht1, ht2⟩, ⟨ht3, ht4⟩, ⟨n1, n2⟩, htp⟩ := hpl hc1
    obtain ⟨N, hN⟩ : ∃ N : Nat, x.pc = (N : Int) := ⟨x.pc.toNat, by omega⟩
    have hit : ptsL x = ptsTo x (N + 1) := by unfold ptsL; rw [if_neg hc1, show (x.pc + 1).toNat = N + 1 by omega]
    refine awp_skip ?_
    change Awp _ _ _ _ _
    refine awp_seq ?_
    refine awp_region 1 mixed (by kernel_rfl) ?_
    refine rg_q (q_assign_nil) ?_
    refine rg_nil ?_
    refine aops_nil ?_
    change Awp _ _ _ _ _
    refine Awp.le (le_own (k := 3) (e := 49) (sz := 3) rfl rfl) ?_
    refine awp_seq ?_
    refine awp_seq ?_
    refine awp_region 1 mixed (by kernel_rfl) ?_
    refine rg_q (q_assign (x := .d (.v _)) rfl) ?_
    refine rg_nil ?_
    refine aops_nil ?_
    change Awp _ _ _ _ _
    refine awp_block ?_
    refine awp_loopH [3, 4, 5, 6, 7, 17, 18, 19, 20, 21, 22, 23, 24, 25, 26, 27, 28, 29, 30, 31, 32, 33, 34, 35, 36, 37, 38, 39, 40, 41, 42, 43, 44, 45, 46, 47, 48, 49, 50, 51, 52, 53, 54, 55, 56, 57, 58, 59, 60, 61, 62, 63, 64, 65, 66, 67, 68, 69, 70, 71, 72, 73, 74, 75, 76, 77, 78, 79, 80, 81] [3] (α := Nat) (fun k => [(4, T.i (k : Int)), (3, .rs 3)]) (fun k => [(3, .row 49 3 ((ptsTo x k).map ptnC))]) (fun k => k ≤ N + 1) (fun k => N + 1 - k) 0 (Nat.zero_le _) ?_ ?_
    · exact le_head (ms := [3]) (by repeat (first | exact Out.refl _ | exact Out.head rfl rfl | (refine Out.put ?_ rfl) | (refine Out.site ?_ rfl) | (refine Out.putn ?_) | (refine Out.headIn ?_ rfl rfl rfl) | (refine Out.called ?_ rfl rfl) | (refine Out.killS ?_ rfl))) ⟨(by first | rfl | (show Site.row 49 3 (_ ++ [_]) = Site.row 49 3 _; rw [hsk]; rfl)), (by first | rfl | (show Site.row 49 3 (_ ++ [_]) = Site.row 49 3 _; rw [hsk]; rfl)), trivial⟩ ⟨(by first | rfl | (show Site.row 49 3 (_ ++ [_]) = Site.row 49 3 _; rw [hsk]; rfl)), trivial⟩ rfl rfl rfl rfl
    ·
      intro k hk
      refine awp_seq ?_
      refine awp_seq ?_
      refine awp_region 4 mixed (by kernel_rfl) ?_
      refine rg_q (q_move (x := .d (.v _)) rfl) ?_
      first | refine rg_q (q_fieldAddr fld40_3 rfl) ?_ | refine rg_q (q_fieldAddr_ref fld40_3 rfl) ?_
      first | refine rg_q (q_load sz3 rfl rfl) ?_ | refine rg_q (q_load_ref sz3 rfl rfl rfl) ?_ | refine rg_q (q_load_tb (x := .d _) sz3 rfl rfl rfl) ?_ | refine rg_q (q_load_tb (x := .rs _) sz3 rfl rfl rfl) ?_
      refine rg_q (q_leq rfl rfl) ?_
      refine rg_nil ?_
      refine aops_nil ?_
      change Awp _ _ _ _ _
      refine awp_cond rfl (fun hc5 => ?_) (fun hc5 => ?_)
      ·
        (try simp only [decide_eq_true_eq, decide_eq_false_iff_not, Bool.and_eq_true, Bool.or_eq_true, Bool.and_eq_false_iff, Bool.or_eq_false_iff, Bool.not_eq_true', Bool.not_eq_false', Bool.not_true, Bool.not_false, bif_and, bif_or, Bool.not_not, ne_eq, Decidable.not_not, not_true_eq_false, not_false_eq_true, Int.not_le, Int.not_lt] at hc5)
        have hlt : k ≤ N := by omega
        have m1 := mulb (a := x.at_.1) (b := x.pc) (A := 100000) (B := 20) (by omega) (by omega) (by omega) (by omega)
        have m2 := mulb (a := x.to_.1 - x.at_.1) (b := (k : Int)) (A := 200000) (B := 20) (by omega) (by omega) (by omega) (by omega)
        have m3 := mulb (a := x.at_.2) (b := x.pc) (A := 100000) (B := 20) (by omega) (by omega) (by omega) (by omega)
        have m4 := mulb (a := x.to_.2 - x.at_.2) (b := (k : Int)) (A := 200000) (B := 20) (by omega) (by omega) (by omega) (by omega)
        have hbx : x.at_.1 * x.pc + (x.to_.1 - x.at_.1) * (k : Int) = x.at_.1 * (x.pc - (k : Int)) + x.to_.1 * (k : Int) := by grind
        have hbz : x.at_.2 * x.pc + (x.to_.2 - x.at_.2) * (k : Int) = x.at_.2 * (x.pc - (k : Int)) + x.to_.2 * (k : Int) := by grind
        have hln : (ptsTo x k).length ≤ 21 := by unfold ptsTo; rw [List.length_map, List.length_range]; omega
        refine awp_skip ?_
        change Awp _ _ _ _ _
        refine awp_seq ?_
        refine awp_block ?_
        refine awp_seq ?_
        refine awp_region 20 mixed (by kernel_rfl) ?_
        first | refine rg_q (q_fieldAddr fld40_1 rfl) ?_ | refine rg_q (q_fieldAddr_ref fld40_1 rfl) ?_
        first | refine rg_q (q_fieldAddr fld38_0 rfl) ?_ | refine rg_q (q_fieldAddr_ref fld38_0 rfl) ?_
        first | refine rg_q (q_load sz3 rfl rfl) ?_ | refine rg_q (q_load_ref sz3 rfl rfl rfl) ?_ | refine rg_q (q_load_tb (x := .d _) sz3 rfl rfl rfl) ?_ | refine rg_q (q_load_tb (x := .rs _) sz3 rfl rfl rfl) ?_
        first | refine rg_q (q_fieldAddr fld40_3 rfl) ?_ | refine rg_q (q_fieldAddr_ref fld40_3 rfl) ?_
        first | refine rg_q (q_load sz3 rfl rfl) ?_ | refine rg_q (q_load_ref sz3 rfl rfl rfl) ?_ | refine rg_q (q_load_tb (x := .d _) sz3 rfl rfl rfl) ?_ | refine rg_q (q_load_tb (x := .rs _) sz3 rfl rfl rfl) ?_
        refine rg_q (q_mul rfl rfl (In64.mk (by omega) (by omega))) ?_
        first | refine rg_q (q_fieldAddr fld40_2 rfl) ?_ | refine rg_q (q_fieldAddr_ref fld40_2 rfl) ?_
        first | refine rg_q (q_fieldAddr fld38_0 rfl) ?_ | refine rg_q (q_fieldAddr_ref fld38_0 rfl) ?_
        first | refine rg_q (q_load sz3 rfl rfl) ?_ | refine rg_q (q_load_ref sz3 rfl rfl rfl) ?_ | refine rg_q (q_load_tb (x := .d _) sz3 rfl rfl rfl) ?_ | refine rg_q (q_load_tb (x := .rs _) sz3 rfl rfl rfl) ?_
        first | refine rg_q (q_fieldAddr fld40_1 rfl) ?_ | refine rg_q (q_fieldAddr_ref fld40_1 rfl) ?_
        first | refine rg_q (q_fieldAddr fld38_0 rfl) ?_ | refine rg_q (q_fieldAddr_ref fld38_0 rfl) ?_
        first | refine rg_q (q_load sz3 rfl rfl) ?_ | refine rg_q (q_load_ref sz3 rfl rfl rfl) ?_ | refine rg_q (q_load_tb (x := .d _) sz3 rfl rfl rfl) ?_ | refine rg_q (q_load_tb (x := .rs _) sz3 rfl rfl rfl) ?_
        refine rg_q (q_sub rfl rfl (In64.mk (by omega) (by omega))) ?_
        refine rg_q (q_move (x := .d (.v _)) rfl) ?_
        refine rg_q (q_mul rfl rfl (In64.mk (by omega) (by omega))) ?_
        refine rg_q (q_add rfl rfl (In64.mk (by omega) (by omega))) ?_
        first | refine rg_q (q_fieldAddr fld40_3 rfl) ?_ | refine rg_q (q_fieldAddr_ref fld40_3 rfl) ?_
        first | refine rg_q (q_load sz3 rfl rfl) ?_ | refine rg_q (q_load_ref sz3 rfl rfl rfl) ?_ | refine rg_q (q_load_tb (x := .d _) sz3 rfl rfl rfl) ?_ | refine rg_q (q_load_tb (x := .rs _) sz3 rfl rfl rfl) ?_
        first | refine rg_q (q_call en63 (.cons rfl (.cons rfl .nil)) rfl ((by have h := rrounded4_p (x.at_.1 * x.pc + (x.to_.1 - x.at_.1) * (k : Int)) x.pc (by omega) (by omega) n1 (by omega); rw [show rndI (x.at_.1 * x.pc + (x.to_.1 - x.at_.1) * (k : Int)) x.pc = betw x.pc x.at_.1 x.to_.1 k by rw [hbx]; rfl] at h; exact h))) ?_ | refine rg_q (q_callF en63 (.cons (by first | exact .d _ | exact .rs rfl | exact .ref rfl | exact .nil _ | exact .tref rfl (by repeat (first | exact .nil | refine .cons (.d _ rfl) ?_ | refine .cons (.rs rfl) ?_))) (.cons (by first | exact .d _ | exact .rs rfl | exact .ref rfl | exact .nil _ | exact .tref rfl (by repeat (first | exact .nil | refine .cons (.d _ rfl) ?_ | refine .cons (.rs rfl) ?_))) .nil)) rfl ((by have h := rrounded4_p (x.at_.1 * x.pc + (x.to_.1 - x.at_.1) * (k : Int)) x.pc (by omega) (by omega) n1 (by omega); rw [show rndI (x.at_.1 * x.pc + (x.to_.1 - x.at_.1) * (k : Int)) x.pc = betw x.pc x.at_.1 x.to_.1 k by rw [hbx]; rfl] at h; exact h)) (by first | exact .v _ | exact D.Flat.tupF (by repeat first | exact trivial | refine ⟨.v _, ?_⟩) | exact D.Flat.aggF (by repeat first | exact trivial | refine ⟨.v _, ?_⟩))) ?_
        refine rg_q (q_assign (x := .d (.v _)) rfl) ?_
        refine rg_nil ?_
        refine aops_nil ?_
        change Awp _ _ _ _ _
        refine awp_seq ?_
        refine awp_region 20 mixed (by kernel_rfl) ?_
        first | refine rg_q (q_fieldAddr fld40_1 rfl) ?_ | refine rg_q (q_fieldAddr_ref fld40_1 rfl) ?_
        first | refine rg_q (q_fieldAddr fld38_1 rfl) ?_ | refine rg_q (q_fieldAddr_ref fld38_1 rfl) ?_
        first | refine rg_q (q_load sz3 rfl rfl) ?_ | refine rg_q (q_load_ref sz3 rfl rfl rfl) ?_ | refine rg_q (q_load_tb (x := .d _) sz3 rfl rfl rfl) ?_ | refine rg_q (q_load_tb (x := .rs _) sz3 rfl rfl rfl) ?_
        first | refine rg_q (q_fieldAddr fld40_3 rfl) ?_ | refine rg_q (q_fieldAddr_ref fld40_3 rfl) ?_
        first | refine rg_q (q_load sz3 rfl rfl) ?_ | refine rg_q (q_load_ref sz3 rfl rfl rfl) ?_ | refine rg_q (q_load_tb (x := .d _) sz3 rfl rfl rfl) ?_ | refine rg_q (q_load_tb (x := .rs _) sz3 rfl rfl rfl) ?_
        refine rg_q (q_mul rfl rfl (In64.mk (by omega) (by omega))) ?_
        first | refine rg_q (q_fieldAddr fld40_2 rfl) ?_ | refine rg_q (q_fieldAddr_ref fld40_2 rfl) ?_
        first | refine rg_q (q_fieldAddr fld38_1 rfl) ?_ | refine rg_q (q_fieldAddr_ref fld38_1 rfl) ?_
        first | refine rg_q (q_load sz3 rfl rfl) ?_ | refine rg_q (q_load_ref sz3 rfl rfl rfl) ?_ | refine rg_q (q_load_tb (x := .d _) sz3 rfl rfl rfl) ?_ | refine rg_q (q_load_tb (x := .rs _) sz3 rfl rfl rfl) ?_
        first | refine rg_q (q_fieldAddr fld40_1 rfl) ?_ | refine rg_q (q_fieldAddr_ref fld40_1 rfl) ?_
        first | refine rg_q (q_fieldAddr fld38_1 rfl) ?_ | refine rg_q (q_fieldAddr_ref fld38_1 rfl) ?_
        first | refine rg_q (q_load sz3 rfl rfl) ?_ | refine rg_q (q_load_ref sz3 rfl rfl rfl) ?_ | refine rg_q (q_load_tb (x := .d _) sz3 rfl rfl rfl) ?_ | refine rg_q (q_load_tb (x := .rs _) sz3 rfl rfl rfl) ?_
        refine rg_q (q_sub rfl rfl (In64.mk (by omega) (by omega))) ?_
        refine rg_q (q_move (x := .d (.v _)) rfl) ?_
        refine rg_q (q_mul rfl rfl (In64.mk (by omega) (by omega))) ?_
        refine rg_q (q_add rfl rfl (In64.mk (by omega) (by omega))) ?_
        first | refine rg_q (q_fieldAddr fld40_3 rfl) ?_ | refine rg_q (q_fieldAddr_ref fld40_3 rfl) ?_
        first | refine rg_q (q_load sz3 rfl rfl) ?_ | refine rg_q (q_load_ref sz3 rfl rfl rfl) ?_ | refine rg_q (q_load_tb (x := .d _) sz3 rfl rfl rfl) ?_ | refine rg_q (q_load_tb (x := .rs _) sz3 rfl rfl rfl) ?_
        first | refine rg_q (q_call en63 (.cons rfl (.cons rfl .nil)) rfl ((by have h := rrounded4_p (x.at_.2 * x.pc + (x.to_.2 - x.at_.2) * (k : Int)) x.pc (by omega) (by omega) n1 (by omega); rw [show rndI (x.at_.2 * x.pc + (x.to_.2 - x.at_.2) * (k : Int)) x.pc = betw x.pc x.at_.2 x.to_.2 k by rw [hbz]; rfl] at h; exact h))) ?_ | refine rg_q (q_callF en63 (.cons (by first | exact .d _ | exact .rs rfl | exact .ref rfl | exact .nil _ | exact .tref rfl (by repeat (first | exact .nil | refine .cons (.d _ rfl) ?_ | refine .cons (.rs rfl) ?_))) (.cons (by first | exact .d _ | exact .rs rfl | exact .ref rfl | exact .nil _ | exact .tref rfl (by repeat (first | exact .nil | refine .cons (.d _ rfl) ?_ | refine .cons (.rs rfl) ?_))) .nil)) rfl ((by have h := rrounded4_p (x.at_.2 * x.pc + (x.to_.2 - x.at_.2) * (k : Int)) x.pc (by omega) (by omega) n1 (by omega); rw [show rndI (x.at_.2 * x.pc + (x.to_.2 - x.at_.2) * (k : Int)) x.pc = betw x.pc x.at_.2 x.to_.2 k by rw [hbz]; rfl] at h; exact h)) (by first | exact .v _ | exact D.Flat.tupF (by repeat first | exact trivial | refine ⟨.v _, ?_⟩) | exact D.Flat.aggF (by repeat first | exact trivial | refine ⟨.v _, ?_⟩))) ?_
        refine rg_q (q_assign (x := .d (.v _)) rfl) ?_
        refine rg_nil ?_
        refine aops_nil ?_
        change Awp _ _ _ _ _
        refine awp_seq ?_
        refine awp_region 6 mixed (by kernel_rfl) ?_
        refine rg_q (q_move (x := .d (.v _)) rfl) ?_
        refine rg_q (q_move (x := .d (.v _)) rfl) ?_
        refine rg_q (q_build (cs := [_, _]) pl38 zr38 rfl (.cons rfl (by first | exact .inl rfl | exact .inr ⟨_, rfl⟩) (.cons rfl (by first | exact .inl rfl | exact .inr ⟨_, rfl⟩) .nil)) ⟨⟨rfl, by decide⟩, ⟨rfl, by decide⟩, trivial⟩ rfl) ?_
        first | refine rg_q (q_fieldAddr fld40_4 rfl) ?_ | refine rg_q (q_fieldAddr_ref fld40_4 rfl) ?_
        first | refine rg_q (q_load sz3 rfl rfl) ?_ | refine rg_q (q_load_ref sz3 rfl rfl rfl) ?_ | refine rg_q (q_load_tb (x := .d _) sz3 rfl rfl rfl) ?_ | refine rg_q (q_load_tb (x := .rs _) sz3 rfl rfl rfl) ?_
        refine rg_q (q_build (cs := [_, _, _]) pl49 zr49 rfl (.cons rfl (by first | exact .inl rfl | exact .inr ⟨_, rfl⟩) (.cons rfl (by first | exact .inl rfl | exact .inr ⟨_, rfl⟩) .nil)) ⟨⟨rfl, by decide⟩, ⟨rfl, by decide⟩, trivial⟩ rfl) ?_
        refine rg_nil ?_
        refine aops_alloc zr49 rfl rfl rfl ?_
        first | refine aops_store sz49 rfl rfl (by first | exact .inl rfl | exact .inr ⟨_, rfl⟩) rfl rfl (by first | decide | simp; done | exact Nat.le_of_ble_eq_true rfl) rfl ?_ | refine aops_storeT (z := .rs _) sz49 rfl rfl rfl rfl (by first | decide | simp) rfl ?_ | refine aops_storeT (z := .d _) sz49 rfl rfl rfl rfl (by first | decide | simp) rfl ?_ | refine aops_storeTA sz49 rfl rfl (by first | exact .inl rfl | exact .inr ⟨_, rfl⟩) rfl rfl (by first | decide | simp) rfl ?_
        refine aops_nil ?_
        change Awp _ _ _ _ _
        refine awp_seq ?_
        refine awp_seq ?_
        refine awp_region 8 mixed (by kernel_rfl) ?_
        refine rg_q (q_move (x := .d (.v _)) rfl) ?_
        refine rg_q (q_eql rfl rfl) ?_
        refine rg_q (q_move (x := .d (.v _)) rfl) ?_
        refine rg_g rfl rfl (fun hG => (q_move (x := .d (.v _)) rfl)) ?_
        first | refine rg_g rfl rfl (fun hG => (q_fieldAddr fld40_3 rfl)) ?_ | refine rg_g rfl rfl (fun hG => (q_fieldAddr_ref fld40_3 rfl)) ?_
        first | refine rg_g rfl rfl (fun hG => (q_load sz3 rfl rfl)) ?_ | refine rg_g rfl rfl (fun hG => (q_load_ref sz3 rfl rfl rfl)) ?_ | refine rg_g rfl rfl (fun hG => (q_load_tb (x := .d _) sz3 rfl rfl rfl)) ?_ | refine rg_g rfl rfl (fun hG => (q_load_tb (x := .rs _) sz3 rfl rfl rfl)) ?_
        refine rg_g rfl rfl (fun hG => (q_eql rfl rfl)) ?_
        first | refine rg_pick rfl rfl rfl rfl rfl rfl ?_ | refine rg_q (q_pick rfl rfl rfl) ?_
        refine rg_nil ?_
        refine aops_nil ?_
        change Awp _ _ _ _ _
        refine awp_cond rfl (fun hc10 => ?_) (fun hc10 => ?_)
        ·
          (try simp only [decide_eq_true_eq, decide_eq_false_iff_not, Bool.and_eq_true, Bool.or_eq_true, Bool.and_eq_false_iff, Bool.or_eq_false_iff, Bool.not_eq_true', Bool.not_eq_false', Bool.not_true, Bool.not_false, bif_and, bif_or, Bool.not_not, ne_eq, Decidable.not_not, not_true_eq_false, not_false_eq_true, Int.not_le, Int.not_lt] at hc10)
          have hpk : ptK x (k : Int) = ((betw x.pc x.at_.1 x.to_.1 k, betw x.pc x.at_.2 x.to_.2 k), x.tp) := by unfold ptK; rw [if_pos (by omega)]
          have hsk : ((ptsTo x (k + 1)).map ptnC) = ((ptsTo x k).map ptnC) ++ [[.v (.int .i64 (betw x.pc x.at_.1 x.to_.1 k)), .v (.int .i64 (betw x.pc x.at_.2 x.to_.2 k)), .v (.int .i64 x.tp)]] := by rw [ptsTo_succ, List.map_append, hpk]; rfl
          refine awp_region 3 mixed (by kernel_rfl) ?_
          first | refine rg_q (q_fieldAddr fld40_5 rfl) ?_ | refine rg_q (q_fieldAddr_ref fld40_5 rfl) ?_
          first | refine rg_q (q_load sz3 rfl rfl) ?_ | refine rg_q (q_load_ref sz3 rfl rfl rfl) ?_ | refine rg_q (q_load_tb (x := .d _) sz3 rfl rfl rfl) ?_ | refine rg_q (q_load_tb (x := .rs _) sz3 rfl rfl rfl) ?_
          first | refine rg_q (q_fieldAddr fld49_1 rfl) ?_ | refine rg_q (q_fieldAddr_ref fld49_1 rfl) ?_
          refine rg_nil ?_
          first | refine aops_store sz3 rfl rfl (by first | exact .inl rfl | exact .inr ⟨_, rfl⟩) rfl rfl (by first | decide | simp; done | exact Nat.le_of_ble_eq_true rfl) rfl ?_ | refine aops_storeT (z := .rs _) sz3 rfl rfl rfl rfl (by first | decide | simp) rfl ?_ | refine aops_storeT (z := .d _) sz3 rfl rfl rfl rfl (by first | decide | simp) rfl ?_ | refine aops_storeTA sz3 rfl rfl (by first | exact .inl rfl | exact .inr ⟨_, rfl⟩) rfl rfl (by first | decide | simp) rfl ?_
          refine aops_nil ?_
          change Awp _ _ _ _ _
          refine awp_region 3 mixed (by kernel_rfl) ?_
          first | refine rg_q (q_move (x := .d (.sl _ _)) rfl) ?_ | refine rg_q (q_move (x := .rs _) rfl) ?_ | refine rg_q (q_move (x := .d (.v _)) rfl) ?_
          first | refine rg_q (q_loadA (ds := [_, _, _]) sz49 rfl rfl rfl) ?_ | refine rg_q (q_load_refA (ds := [_, _, _]) sz49 rfl rfl rfl rfl) ?_
          refine rg_q (q_buildSlice sl41 zr49 rfl rfl (by decide) (.cons rfl (by first | exact .inl rfl | exact .inr ⟨_, rfl⟩) .nil) ⟨rfl, rfl, trivial⟩ rfl (by decide) rfl) ?_
          refine rg_nil ?_
          first | refine aops_append sl41 zr49 by49 rfl (by decide) rfl rfl rfl rfl (by (try simp only [List.length_map, List.length_append, List.length_cons, List.length_nil]); omega) (by (try simp only [List.length_map, List.length_append, List.length_cons, List.length_nil]); omega) rfl rfl ?_ | refine aops_appendR sl41 zr49 by49 rfl (by decide) rfl rfl rfl rfl rfl (by (try simp only [List.length_map, List.length_append, List.length_cons, List.length_nil]); omega) (by (try simp only [List.length_map, List.length_append, List.length_cons, List.length_nil]); omega) rfl rfl ?_
          first | refine aops_q rfl (q_assign (x := .d (.sl _ _)) rfl) ?_ | refine aops_q rfl (q_assign (x := .rs _) rfl) ?_ | refine aops_q rfl (q_assign (x := .d (.v _)) rfl) ?_
          refine aops_nil ?_
          change Awp _ _ _ _ _
          refine awp_region 3 mixed (by kernel_rfl) ?_
          refine rg_q (q_move (x := .d (.v _)) rfl) ?_
          refine rg_q (q_add rfl rfl (In64.mk (by omega) (by omega))) ?_
          refine rg_q (q_assign (x := .d (.v _)) rfl) ?_
          refine rg_nil ?_
          refine aops_nil ?_
          refine ⟨k + 1, by omega, by omega, ?_⟩
          exact le_head (ms := [3]) (by repeat (first | exact Out.refl _ | exact Out.head rfl rfl | (refine Out.put ?_ rfl) | (refine Out.site ?_ rfl) | (refine Out.putn ?_) | (refine Out.headIn ?_ rfl rfl rfl) | (refine Out.called ?_ rfl rfl) | (refine Out.killS ?_ rfl))) ⟨(by first | rfl | (show Site.row 49 3 (_ ++ [_]) = Site.row 49 3 _; rw [hsk]; rfl)), (by first | rfl | (show Site.row 49 3 (_ ++ [_]) = Site.row 49 3 _; rw [hsk]; rfl)), trivial⟩ ⟨(by first | rfl | (show Site.row 49 3 (_ ++ [_]) = Site.row 49 3 _; rw [hsk]; rfl)), trivial⟩ rfl rfl rfl rfl
        ·
          (try simp only [decide_eq_true_eq, decide_eq_false_iff_not, Bool.and_eq_true, Bool.or_eq_true, Bool.and_eq_false_iff, Bool.or_eq_false_iff, Bool.not_eq_true', Bool.not_eq_false', Bool.not_true, Bool.not_false, bif_and, bif_or, Bool.not_not, ne_eq, Decidable.not_not, not_true_eq_false, not_false_eq_true, Int.not_le, Int.not_lt] at hc10)
          have hpk : ptK x (k : Int) = ((betw x.pc x.at_.1 x.to_.1 k, betw x.pc x.at_.2 x.to_.2 k), x.am) := by unfold ptK; rw [if_neg (by omega)]
          have hsk : ((ptsTo x (k + 1)).map ptnC) = ((ptsTo x k).map ptnC) ++ [[.v (.int .i64 (betw x.pc x.at_.1 x.to_.1 k)), .v (.int .i64 (betw x.pc x.at_.2 x.to_.2 k)), .v (.int .i64 x.am)]] := by rw [ptsTo_succ, List.map_append, hpk]; rfl
          refine awp_skip ?_
          change Awp _ _ _ _ _
          refine awp_region 3 mixed (by kernel_rfl) ?_
          first | refine rg_q (q_move (x := .d (.sl _ _)) rfl) ?_ | refine rg_q (q_move (x := .rs _) rfl) ?_ | refine rg_q (q_move (x := .d (.v _)) rfl) ?_
          first | refine rg_q (q_loadA (ds := [_, _, _]) sz49 rfl rfl rfl) ?_ | refine rg_q (q_load_refA (ds := [_, _, _]) sz49 rfl rfl rfl rfl) ?_
          refine rg_q (q_buildSlice sl41 zr49 rfl rfl (by decide) (.cons rfl (by first | exact .inl rfl | exact .inr ⟨_, rfl⟩) .nil) ⟨rfl, rfl, trivial⟩ rfl (by decide) rfl) ?_
          refine rg_nil ?_
          first | refine aops_append sl41 zr49 by49 rfl (by decide) rfl rfl rfl rfl (by (try simp only [List.length_map, List.length_append, List.length_cons, List.length_nil]); omega) (by (try simp only [List.length_map, List.length_append, List.length_cons, List.length_nil]); omega) rfl rfl ?_ | refine aops_appendR sl41 zr49 by49 rfl (by decide) rfl rfl rfl rfl rfl (by (try simp only [List.length_map, List.length_append, List.length_cons, List.length_nil]); omega) (by (try simp only [List.length_map, List.length_append, List.length_cons, List.length_nil]); omega) rfl rfl ?_
          first | refine aops_q rfl (q_assign (x := .d (.sl _ _)) rfl) ?_ | refine aops_q rfl (q_assign (x := .rs _) rfl) ?_ | refine aops_q rfl (q_assign (x := .d (.v _)) rfl) ?_
          refine aops_nil ?_
          change Awp _ _ _ _ _
          refine awp_region 3 mixed (by kernel_rfl) ?_
          refine rg_q (q_move (x := .d (.v _)) rfl) ?_
          refine rg_q (q_add rfl rfl (In64.mk (by omega) (by omega))) ?_
          refine rg_q (q_assign (x := .d (.v _)) rfl) ?_
          refine rg_nil ?_
          refine aops_nil ?_
          refine ⟨k + 1, by omega, by omega, ?_⟩
          exact le_head (ms := [3]) (by repeat (first | exact Out.refl _ | exact Out.head rfl rfl | (refine Out.put ?_ rfl) | (refine Out.site ?_ rfl) | (refine Out.putn ?_) | (refine Out.headIn ?_ rfl rfl rfl) | (refine Out.called ?_ rfl rfl) | (refine Out.killS ?_ rfl))) ⟨(by first | rfl | (show Site.row 49 3 (_ ++ [_]) = Site.row 49 3 _; rw [hsk]; rfl)), (by first | rfl | (show Site.row 49 3 (_ ++ [_]) = Site.row 49 3 _; rw [hsk]; rfl)), trivial⟩ ⟨(by first | rfl | (show Site.row 49 3 (_ ++ [_]) = Site.row 49 3 _; rw [hsk]; rfl)), trivial⟩ rfl rfl rfl rfl
      ·
        (try simp only [decide_eq_true_eq, decide_eq_false_iff_not, Bool.and_eq_true, Bool.or_eq_true, Bool.and_eq_false_iff, Bool.or_eq_false_iff, Bool.not_eq_true', Bool.not_eq_false', Bool.not_true, Bool.not_false, bif_and, bif_or, Bool.not_not, ne_eq, Decidable.not_not, not_true_eq_false, not_false_eq_true, Int.not_le, Int.not_lt] at hc5)
        have hkn : k = N + 1 := by omega
        have hfin : (ptsTo x k).map ptnC = (ptsL x).map ptnC := by rw [hkn, hit]
        refine awp_exit ?_
        change Awp _ _ _ _ _
        refine awp_seq ?_
        refine awp_region 2 mixed (by kernel_rfl) ?_
        first | refine rg_q (q_move (x := .d (.sl _ _)) rfl) ?_ | refine rg_q (q_move (x := .rs _) rfl) ?_ | refine rg_q (q_move (x := .d (.v _)) rfl) ?_
        first | refine rg_q (q_assign (x := .d (.sl _ _)) rfl) ?_ | refine rg_q (q_assign (x := .rs _) rfl) ?_ | refine rg_q (q_assign (x := .d (.v _)) rfl) ?_
        refine rg_nil ?_
        refine aops_nil ?_
        change Awp _ _ _ _ _
        refine awp_ret ?_
        refine ⟨_, (.cons (.tmp (by first | exact .d _ | exact .rs rfl | exact .ref rfl | exact .tref rfl (.cons (.d _ rfl) (.cons (.rs rfl) .nil)))) .nil), ?_⟩
        rw [← hfin]; rfl
end Go.Proofs.Ytblbnagdhcpnoaa.Am.M
