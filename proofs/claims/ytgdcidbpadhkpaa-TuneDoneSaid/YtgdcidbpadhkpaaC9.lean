/- Contracts over the abstract machine: the reference of tables. Conditions: none. -/
import Derived.Test.YtgdcidbpadhkpaaC8
set_option linter.unusedVariables false
set_option linter.unusedSimpArgs false
-- mini
namespace Go.Proofs.Ytgdcidbpadhkpaa.Am.M
open Go
set_option maxRecDepth 100000 in
theorem rows_p {α : Type} (C : α → List D) (l : List α) : PC Try.prog 17 [.sl 2 (l.map C)] (.v (.bool (decide ((l.length : Int) ≤ 9) || (decide (20 < (l.length : Int)) && decide ((l.length : Int) ≤ 22))))) := by
  refine pc_of_awp Try.func17 rfl Try.ntmps17 (rs := [.tmp 2]) Try.results17 (by simp) fun w0 => ?_
  refine awp_seq ?_
  refine awp_region 1 mixed (by kernel_rfl) ?_
  refine rg_q (q_assign (x := .d (.v _)) rfl) ?_
  refine rg_nil ?_
  refine aops_nil ?_
  change Awp _ _ _ _ _
  refine awp_seq ?_
  refine awp_region 14 mixed (by kernel_rfl) ?_
  refine rg_q (q_move (x := .d (.sl _ _)) rfl) ?_
  refine rg_q (q_len isl22 rfl (by exact len_map _ _)) ?_
  refine rg_q (q_leq rfl rfl) ?_
  refine rg_q (q_move (x := .d (.v _)) rfl) ?_
  refine rg_g rfl rfl (fun hG => (q_move (x := .d (.sl _ _)) rfl)) ?_
  refine rg_g rfl rfl (fun hG => (q_len isl22 rfl (by exact len_map _ _))) ?_
  refine rg_g rfl rfl (fun hG => (q_gtr rfl rfl)) ?_
  refine rg_g rfl rfl (fun hG => (q_move (x := .d (.v _)) rfl)) ?_
  refine rg_g rfl rfl (fun hG => (q_move (x := .d (.sl _ _)) rfl)) ?_
  refine rg_g rfl rfl (fun hG => (q_len isl22 rfl (by exact len_map _ _))) ?_
  refine rg_g rfl rfl (fun hG => (q_leq rfl rfl)) ?_
  refine rg_pickg rfl rfl rfl rfl rfl rfl rfl rfl ?_
  refine rg_pick rfl rfl rfl rfl rfl rfl ?_
  refine rg_q (q_assign (x := .d (.v _)) rfl) ?_
  refine rg_nil ?_
  refine aops_nil ?_
  change Awp _ _ _ _ _
  refine awp_len (t := 3) rfl (fun hl3 => ?_)
  (try simp only [List.length_map] at hl3)
  refine awp_ret ?_
  refine ⟨_, (.cons (.tmp (by exact .d _)) .nil), ?_⟩
  simp only [bif_and, bif_or]; rfl
set_option maxRecDepth 100000 in
theorem copyTable_p (l : List (Int × Int)) (hl : l.length ≤ 1000) : PC Try.prog 19 [.sl 2 (l.map rowC)] (.sl 2 (l.map rowC)) := by
  refine pc_of_awp Try.func19 rfl Try.ntmps19 (rs := [.tmp 2]) Try.results19 (by simp) fun w0 => ?_
  refine awp_seq ?_
  refine awp_region 1 mixed (by kernel_rfl) ?_
  refine rg_q (q_assign (x := .d (.sl _ _)) rfl) ?_
  refine rg_nil ?_
  refine aops_nil ?_
  change Awp _ _ _ _ _
  refine awp_seq ?_
  refine awp_region 0 mixed (by kernel_rfl) ?_
  refine rg_nil ?_
  refine aops_empty sl22 zr59 rfl rfl ?_
  refine aops_q rfl (q_move (x := .d (.sl _ _)) rfl) ?_
  refine aops_append sl22 zr59 by59 rfl (by decide) rfl rfl rfl rfl (by (try simp only [List.length_map, List.length_append, List.length_cons, List.length_nil]); omega) (by (try simp only [List.length_map, List.length_append, List.length_cons, List.length_nil]); omega) rfl rfl ?_
  refine aops_q rfl (q_assign (x := .rs _) rfl) ?_
  refine aops_nil ?_
  change Awp _ _ _ _ _
  refine awp_ret ?_
  refine ⟨_, (.cons (.tmp (by exact .rs rfl)) .nil), ?_⟩
  rfl
set_option maxRecDepth 100000 in
theorem Within_p (n lo hi : Int) : PC Try.prog 21 [.v (.int .i64 (n)), .v (.int .i64 (lo)), .v (.int .i64 (hi))] (.v (.bool (inR lo n hi))) := by
  refine pc_of_awp Try.func21 rfl Try.ntmps21 (rs := [.tmp 6]) Try.results21 (by simp) fun w0 => ?_
  refine awp_seq ?_
  refine awp_region 1 mixed (by kernel_rfl) ?_
  refine rg_q (q_assign (x := .d (.v _)) rfl) ?_
  refine rg_nil ?_
  refine aops_nil ?_
  change Awp _ _ _ _ _
  refine awp_seq ?_
  refine awp_region 9 mixed (by kernel_rfl) ?_
  refine rg_q (q_move (x := .d (.v _)) rfl) ?_
  refine rg_q (q_move (x := .d (.v _)) rfl) ?_
  refine rg_q (q_leq rfl rfl) ?_
  refine rg_q (q_move (x := .d (.v _)) rfl) ?_
  refine rg_g rfl rfl (fun hG => (q_move (x := .d (.v _)) rfl)) ?_
  refine rg_g rfl rfl (fun hG => (q_move (x := .d (.v _)) rfl)) ?_
  refine rg_g rfl rfl (fun hG => (q_leq rfl rfl)) ?_
  refine rg_pick rfl rfl rfl rfl rfl rfl ?_
  refine rg_q (q_assign (x := .d (.v _)) rfl) ?_
  refine rg_nil ?_
  refine aops_nil ?_
  change Awp _ _ _ _ _
  refine awp_ret ?_
  refine ⟨_, (.cons (.tmp (by exact .d _)) .nil), ?_⟩
  simp only [bif_and]; rfl
set_option maxRecDepth 100000 in
theorem EchoErr_p (n : Int) : PC Try.prog 39 [.v (.int .i64 (n))] (.v (.int .i64 (echoE n))) := by
  refine pc_of_awp Try.func39 rfl Try.ntmps39 (rs := [.tmp 2]) Try.results39 (by simp) fun w0 => ?_
  refine awp_seq ?_
  refine awp_region 1 mixed (by kernel_rfl) ?_
  refine rg_q (q_assign (x := .d (.v _)) rfl) ?_
  refine rg_nil ?_
  refine aops_nil ?_
  change Awp _ _ _ _ _
  refine awp_seq ?_
  refine awp_seq ?_
  refine awp_region 3 mixed (by kernel_rfl) ?_
  refine rg_q (q_move (x := .d (.v _)) rfl) ?_
  refine rg_q (q_call en21 (.cons rfl (.cons rfl (.cons rfl .nil))) rfl (Within_p _ _ _)) ?_
  refine rg_q (q_not rfl) ?_
  refine rg_nil ?_
  refine aops_nil ?_
  change Awp _ _ _ _ _
  refine awp_cond rfl (fun hc1 => ?_) (fun hc1 => ?_)
  ·
    (try simp only [decide_eq_true_eq, decide_eq_false_iff_not, Bool.and_eq_true, Bool.or_eq_true, Bool.and_eq_false_iff, Bool.or_eq_false_iff, Bool.not_eq_true', Bool.not_eq_false', Bool.not_true, Bool.not_false, bif_and, bif_or, Bool.not_not, ne_eq, Decidable.not_not, not_true_eq_false, not_false_eq_true, Int.not_le, Int.not_lt] at hc1)
    have hz : echoE n = 2 := by unfold echoE; rw [hc1]; rfl
    refine awp_seq ?_
    refine awp_region 1 mixed (by kernel_rfl) ?_
    refine rg_q (q_assign (x := .d (.v _)) rfl) ?_
    refine rg_nil ?_
    refine aops_nil ?_
    change Awp _ _ _ _ _
    refine awp_ret ?_
    refine ⟨_, (.cons (.tmp (by exact .d _)) .nil), ?_⟩
    rw [hz]; rfl
  ·
    (try simp only [decide_eq_true_eq, decide_eq_false_iff_not, Bool.and_eq_true, Bool.or_eq_true, Bool.and_eq_false_iff, Bool.or_eq_false_iff, Bool.not_eq_true', Bool.not_eq_false', Bool.not_true, Bool.not_false, bif_and, bif_or, Bool.not_not, ne_eq, Decidable.not_not, not_true_eq_false, not_false_eq_true, Int.not_le, Int.not_lt] at hc1)
    have hz : echoE n = 0 := by unfold echoE; rw [hc1]; rfl
    refine awp_skip ?_
    change Awp _ _ _ _ _
    refine awp_seq ?_
    refine awp_region 1 mixed (by kernel_rfl) ?_
    refine rg_q (q_assign (x := .d (.v _)) rfl) ?_
    refine rg_nil ?_
    refine aops_nil ?_
    change Awp _ _ _ _ _
    refine awp_ret ?_
    refine ⟨_, (.cons (.tmp (by exact .d _)) .nil), ?_⟩
    rw [hz]; rfl
set_option maxRecDepth 100000 in
theorem rcheckTable_p (l : List (Int × Int)) : PC Try.prog 20 [.sl 2 (l.map rowC)] (.tup [.v (.int .i64 ((ckT l).1)), .v (.int .i64 ((ckT l).2))]) := by
  refine pc_of_awp Try.func20 rfl Try.ntmps20 (rs := [.tmp 2, .tmp 3]) Try.results20 (by simp) fun w0 => ?_
  refine awp_seq ?_
  refine awp_region 2 mixed (by kernel_rfl) ?_
  refine rg_q (q_assign (x := .d (.v _)) rfl) ?_
  refine rg_q (q_assign (x := .d (.v _)) rfl) ?_
  refine rg_nil ?_
  refine aops_nil ?_
  change Awp _ _ _ _ _
  refine awp_seq ?_
  refine awp_seq ?_
  refine awp_region 3 mixed (by kernel_rfl) ?_
  refine rg_q (q_move (x := .d (.sl _ _)) rfl) ?_
  refine rg_q (q_len isl22 rfl (by exact len_map _ _)) ?_
  refine rg_q (q_eql rfl rfl) ?_
  refine rg_nil ?_
  refine aops_nil ?_
  change Awp _ _ _ _ _
  refine awp_len (t := 5) rfl (fun hl5 => ?_)
  (try simp only [List.length_map] at hl5)
  refine awp_cond rfl (fun hc1 => ?_) (fun hc1 => ?_)
  ·
    (try simp only [decide_eq_true_eq, decide_eq_false_iff_not, Bool.and_eq_true, Bool.or_eq_true, Bool.and_eq_false_iff, Bool.or_eq_false_iff, Bool.not_eq_true', Bool.not_eq_false', Bool.not_true, Bool.not_false, bif_and, bif_or, Bool.not_not, ne_eq, Decidable.not_not, not_true_eq_false, not_false_eq_true, Int.not_le, Int.not_lt] at hc1)
    have hz : ckT l = (0, 10) := by unfold ckT; rw [if_pos (by omega)]
    refine awp_seq ?_
    refine awp_region 2 mixed (by kernel_rfl) ?_
    refine rg_q (q_assign (x := .d (.v _)) rfl) ?_
    refine rg_q (q_assign (x := .d (.v _)) rfl) ?_
    refine rg_nil ?_
    refine aops_nil ?_
    change Awp _ _ _ _ _
    refine awp_ret ?_
    refine ⟨_, (.cons (.tmp (by exact .d _)) (.cons (.tmp (by exact .d _)) .nil)), ?_⟩
    rw [hz]; rfl
  ·
    (try simp only [decide_eq_true_eq, decide_eq_false_iff_not, Bool.and_eq_true, Bool.or_eq_true, Bool.and_eq_false_iff, Bool.or_eq_false_iff, Bool.not_eq_true', Bool.not_eq_false', Bool.not_true, Bool.not_false, bif_and, bif_or, Bool.not_not, ne_eq, Decidable.not_not, not_true_eq_false, not_false_eq_true, Int.not_le, Int.not_lt] at hc1)
    refine awp_skip ?_
    change Awp _ _ _ _ _
    refine awp_seq ?_
    refine awp_seq ?_
    refine awp_region 3 mixed (by kernel_rfl) ?_
    refine rg_q (q_move (x := .d (.sl _ _)) rfl) ?_
    refine rg_q (q_len isl22 rfl (by exact len_map _ _)) ?_
    refine rg_q (q_gtr rfl rfl) ?_
    refine rg_nil ?_
    refine aops_nil ?_
    change Awp _ _ _ _ _
    refine awp_len (t := 8) rfl (fun hl8 => ?_)
    (try simp only [List.length_map] at hl8)
    refine awp_cond rfl (fun hc3 => ?_) (fun hc3 => ?_)
    ·
      (try simp only [decide_eq_true_eq, decide_eq_false_iff_not, Bool.and_eq_true, Bool.or_eq_true, Bool.and_eq_false_iff, Bool.or_eq_false_iff, Bool.not_eq_true', Bool.not_eq_false', Bool.not_true, Bool.not_false, bif_and, bif_or, Bool.not_not, ne_eq, Decidable.not_not, not_true_eq_false, not_false_eq_true, Int.not_le, Int.not_lt] at hc3)
      have hz : ckT l = (0, 8) := by unfold ckT; rw [if_neg (by omega), if_pos (by omega)]
      refine awp_seq ?_
      refine awp_region 2 mixed (by kernel_rfl) ?_
      refine rg_q (q_assign (x := .d (.v _)) rfl) ?_
      refine rg_q (q_assign (x := .d (.v _)) rfl) ?_
      refine rg_nil ?_
      refine aops_nil ?_
      change Awp _ _ _ _ _
      refine awp_ret ?_
      refine ⟨_, (.cons (.tmp (by exact .d _)) (.cons (.tmp (by exact .d _)) .nil)), ?_⟩
      rw [hz]; rfl
    ·
      (try simp only [decide_eq_true_eq, decide_eq_false_iff_not, Bool.and_eq_true, Bool.or_eq_true, Bool.and_eq_false_iff, Bool.or_eq_false_iff, Bool.not_eq_true', Bool.not_eq_false', Bool.not_true, Bool.not_false, bif_and, bif_or, Bool.not_not, ne_eq, Decidable.not_not, not_true_eq_false, not_false_eq_true, Int.not_le, Int.not_lt] at hc3)
      have hz : ckT l = ckFrom 0 none l := by unfold ckT; rw [if_neg (by omega), if_neg (by omega)]
      refine awp_skip ?_
      change Awp _ _ _ _ _
      refine awp_seq ?_
      refine awp_seq ?_
      refine awp_region 1 mixed (by kernel_rfl) ?_
      refine rg_q (q_assign (x := .d (.v _)) rfl) ?_
      refine rg_nil ?_
      refine aops_nil ?_
      change Awp _ _ _ _ _
      refine awp_block ?_
      refine awp_loopH [2, 3, 4, 11, 12, 13, 14, 15, 16, 17, 18, 19, 20, 21, 22, 23, 24, 25, 26, 27, 28, 29, 30, 31, 32, 33, 34, 35, 36, 37, 38, 39, 40, 41, 42, 43, 44, 45, 46, 47, 48, 49, 50] [] (α := Nat) (fun k => [(4, T.i (k : Int))]) (fun k => []) (fun k => k ≤ l.length ∧ ckFrom 0 none l = ckFrom k (prevOf l k) (l.drop k)) (fun k => l.length - k) 0 ⟨Nat.zero_le _, rfl⟩ ?_ ?_
      · exact le_head (ms := []) (by repeat (exact Out.refl _)) ⟨(by rfl), trivial⟩ trivial rfl rfl rfl rfl
      ·
        intro k ⟨hk, hf⟩
        refine awp_seq ?_
        refine awp_seq ?_
        refine awp_region 4 mixed (by kernel_rfl) ?_
        refine rg_q (q_move (x := .d (.v _)) rfl) ?_
        refine rg_q (q_move (x := .d (.sl _ _)) rfl) ?_
        refine rg_q (q_len isl22 rfl (by exact len_map _ _)) ?_
        refine rg_q (q_lss rfl rfl) ?_
        refine rg_nil ?_
        refine aops_nil ?_
        change Awp _ _ _ _ _
        refine awp_len (t := 12) rfl (fun hl12 => ?_)
        (try simp only [List.length_map] at hl12)
        refine awp_cond rfl (fun hc6 => ?_) (fun hc6 => ?_)
        ·
          (try simp only [decide_eq_true_eq, decide_eq_false_iff_not, Bool.and_eq_true, Bool.or_eq_true, Bool.and_eq_false_iff, Bool.or_eq_false_iff, Bool.not_eq_true', Bool.not_eq_false', Bool.not_true, Bool.not_false, bif_and, bif_or, Bool.not_not, ne_eq, Decidable.not_not, not_true_eq_false, not_false_eq_true, Int.not_le, Int.not_lt] at hc6)
          have hlt : k < l.length := by omega
          have hx := List.getElem?_eq_getElem hlt
          have hd : ckFrom k (prevOf l k) (l.drop k) = if rowBad l[k] ≠ 0 then ((k : Int), rowBad l[k]) else if ordBad (prevOf l k) l[k].1 = true then ((k : Int), 9) else ckFrom (k + 1) (prevOf l (k + 1)) (l.drop (k + 1)) := by
            rw [List.drop_eq_getElem_cons hlt, show prevOf l (k + 1) = some l[k].1 from by simp [prevOf, hlt]]; rfl
          obtain ⟨y, hp⟩ : ∃ y, 0 < k → l[k - 1]? = some y := by
            by_cases h0 : 0 < k
            · exact ⟨l[k - 1], fun _ => List.getElem?_eq_getElem (by omega)⟩
            · exact ⟨(0, 0), fun h => absurd h h0⟩
          have hpo : 0 < k → prevOf l k = some y.1 := fun h0 => by
            obtain ⟨m, rfl⟩ : ∃ m, k = m + 1 := ⟨k - 1, by omega⟩
            have := hp h0
            simp only [Nat.add_sub_cancel] at this
            simp [prevOf, this]
          generalize l[k] = x at *
          refine awp_skip ?_
          change Awp _ _ _ _ _
          refine awp_seq ?_
          refine awp_block ?_
          refine awp_seq ?_
          refine awp_seq ?_
          refine awp_region 16 mixed (by kernel_rfl) ?_
          refine rg_q (q_move (x := .d (.sl _ _)) rfl) ?_
          refine rg_q (q_move (x := .d (.v _)) rfl) ?_
          refine rg_q (q_indexAddr sl22 rfl rfl (by omega) (map_at (by omega) hx)) ?_
          refine rg_q (q_fieldAddr fld59_0 rfl) ?_
          refine rg_q (q_load sz3 rfl rfl) ?_
          refine rg_q (q_call en21 (.cons rfl (.cons rfl (.cons rfl .nil))) rfl (Within_p _ _ _)) ?_
          refine rg_q (q_not rfl) ?_
          refine rg_q (q_move (x := .d (.v _)) rfl) ?_
          refine rg_g rfl rfl (fun hG => (q_move (x := .d (.sl _ _)) rfl)) ?_
          refine rg_g rfl rfl (fun hG => (q_move (x := .d (.v _)) rfl)) ?_
          refine rg_g rfl rfl (fun hG => (q_indexAddr sl22 rfl rfl (by (have hg0 := T.bool_inj (a := _) hG.1; (try simp only [decide_eq_true_eq, decide_eq_false_iff_not, Bool.and_eq_true, Bool.or_eq_true, Bool.and_eq_false_iff, Bool.or_eq_false_iff, Bool.not_eq_true', Bool.not_eq_false', Bool.not_true, Bool.not_false, bif_and, bif_or, Bool.not_not, ne_eq, Decidable.not_not, not_true_eq_false, not_false_eq_true, Int.not_le, Int.not_lt] at hg0); omega)) (map_at (by (have hg0 := T.bool_inj (a := _) hG.1; (try simp only [decide_eq_true_eq, decide_eq_false_iff_not, Bool.and_eq_true, Bool.or_eq_true, Bool.and_eq_false_iff, Bool.or_eq_false_iff, Bool.not_eq_true', Bool.not_eq_false', Bool.not_true, Bool.not_false, bif_and, bif_or, Bool.not_not, ne_eq, Decidable.not_not, not_true_eq_false, not_false_eq_true, Int.not_le, Int.not_lt] at hg0); omega)) hx))) ?_
          refine rg_g rfl rfl (fun hG => (q_fieldAddr fld59_1 rfl)) ?_
          refine rg_g rfl rfl (fun hG => (q_load sz3 rfl rfl)) ?_
          refine rg_g rfl rfl (fun hG => (q_call en39 (.cons rfl .nil) rfl (EchoErr_p _))) ?_
          refine rg_g rfl rfl (fun hG => (q_neq rfl rfl)) ?_
          refine rg_pick rfl rfl rfl rfl rfl rfl ?_
          refine rg_nil ?_
          refine aops_nil ?_
          change Awp _ _ _ _ _
          refine awp_cond rfl (fun hc8 => ?_) (fun hc8 => ?_)
          ·
            (try simp only [decide_eq_true_eq, decide_eq_false_iff_not, Bool.and_eq_true, Bool.or_eq_true, Bool.and_eq_false_iff, Bool.or_eq_false_iff, Bool.not_eq_true', Bool.not_eq_false', Bool.not_true, Bool.not_false, bif_and, bif_or, Bool.not_not, ne_eq, Decidable.not_not, not_true_eq_false, not_false_eq_true, Int.not_le, Int.not_lt] at hc8)
            have hb : rowBad x = 2 := by
              unfold rowBad
              rcases hc8 with h | h
              · rw [h]; rfl
              · rcases echoE_01 x.2 with e | e
                · exact absurd e h
                · rw [e]; cases inR 0 x.1 100000 <;> rfl
            refine awp_seq ?_
            refine awp_region 3 mixed (by kernel_rfl) ?_
            refine rg_q (q_move (x := .d (.v _)) rfl) ?_
            refine rg_q (q_assign (x := .d (.v _)) rfl) ?_
            refine rg_q (q_assign (x := .d (.v _)) rfl) ?_
            refine rg_nil ?_
            refine aops_nil ?_
            change Awp _ _ _ _ _
            refine awp_ret ?_
            refine ⟨_, (.cons (.tmp (by exact .d _)) (.cons (.tmp (by exact .d _)) .nil)), ?_⟩
            rw [hz, hf, hd, if_pos (by rw [hb]; simp), hb]; rfl
          ·
            (try simp only [decide_eq_true_eq, decide_eq_false_iff_not, Bool.and_eq_true, Bool.or_eq_true, Bool.and_eq_false_iff, Bool.or_eq_false_iff, Bool.not_eq_true', Bool.not_eq_false', Bool.not_true, Bool.not_false, bif_and, bif_or, Bool.not_not, ne_eq, Decidable.not_not, not_true_eq_false, not_false_eq_true, Int.not_le, Int.not_lt] at hc8)
            have hb : rowBad x = 0 := by
              unfold rowBad; rw [hc8.1, hc8.2]; rfl
            refine awp_skip ?_
            change Awp _ _ _ _ _
            refine awp_seq ?_
            refine awp_region 16 mixed (by kernel_rfl) ?_
            refine rg_q (q_move (x := .d (.v _)) rfl) ?_
            refine rg_q (q_gtr rfl rfl) ?_
            refine rg_q (q_move (x := .d (.v _)) rfl) ?_
            refine rg_g rfl rfl (fun hG => (q_move (x := .d (.sl _ _)) rfl)) ?_
            refine rg_g rfl rfl (fun hG => (q_move (x := .d (.v _)) rfl)) ?_
            refine rg_g rfl rfl (fun hG => (q_indexAddr sl22 rfl rfl (by (have hg0 := T.bool_inj (a := _) hG.1; (try simp only [decide_eq_true_eq, decide_eq_false_iff_not, Bool.and_eq_true, Bool.or_eq_true, Bool.and_eq_false_iff, Bool.or_eq_false_iff, Bool.not_eq_true', Bool.not_eq_false', Bool.not_true, Bool.not_false, bif_and, bif_or, Bool.not_not, ne_eq, Decidable.not_not, not_true_eq_false, not_false_eq_true, Int.not_le, Int.not_lt] at hg0); omega)) (map_at (by (have hg0 := T.bool_inj (a := _) hG.1; (try simp only [decide_eq_true_eq, decide_eq_false_iff_not, Bool.and_eq_true, Bool.or_eq_true, Bool.and_eq_false_iff, Bool.or_eq_false_iff, Bool.not_eq_true', Bool.not_eq_false', Bool.not_true, Bool.not_false, bif_and, bif_or, Bool.not_not, ne_eq, Decidable.not_not, not_true_eq_false, not_false_eq_true, Int.not_le, Int.not_lt] at hg0); omega)) hx))) ?_
            refine rg_g rfl rfl (fun hG => (q_fieldAddr fld59_0 rfl)) ?_
            refine rg_g rfl rfl (fun hG => (q_load sz3 rfl rfl)) ?_
            refine rg_g rfl rfl (fun hG => (q_move (x := .d (.sl _ _)) rfl)) ?_
            refine rg_g rfl rfl (fun hG => (q_move (x := .d (.v _)) rfl)) ?_
            refine rg_g rfl rfl (fun hG => (q_sub rfl rfl (In64.mk (by (have hg0 := T.bool_inj (a := _) hG.1; (try simp only [decide_eq_true_eq, decide_eq_false_iff_not, Bool.and_eq_true, Bool.or_eq_true, Bool.and_eq_false_iff, Bool.or_eq_false_iff, Bool.not_eq_true', Bool.not_eq_false', Bool.not_true, Bool.not_false, bif_and, bif_or, Bool.not_not, ne_eq, Decidable.not_not, not_true_eq_false, not_false_eq_true, Int.not_le, Int.not_lt] at hg0); omega)) (by (have hg0 := T.bool_inj (a := _) hG.1; (try simp only [decide_eq_true_eq, decide_eq_false_iff_not, Bool.and_eq_true, Bool.or_eq_true, Bool.and_eq_false_iff, Bool.or_eq_false_iff, Bool.not_eq_true', Bool.not_eq_false', Bool.not_true, Bool.not_false, bif_and, bif_or, Bool.not_not, ne_eq, Decidable.not_not, not_true_eq_false, not_false_eq_true, Int.not_le, Int.not_lt] at hg0); omega))))) ?_
            refine rg_g rfl rfl (fun hG => (q_indexAddr sl22 rfl rfl (by (have hg0 := T.bool_inj (a := _) hG.1; (try simp only [decide_eq_true_eq, decide_eq_false_iff_not, Bool.and_eq_true, Bool.or_eq_true, Bool.and_eq_false_iff, Bool.or_eq_false_iff, Bool.not_eq_true', Bool.not_eq_false', Bool.not_true, Bool.not_false, bif_and, bif_or, Bool.not_not, ne_eq, Decidable.not_not, not_true_eq_false, not_false_eq_true, Int.not_le, Int.not_lt] at hg0); omega)) (map_at (k := k - 1) (by (have hg0 := T.bool_inj (a := _) hG.1; (try simp only [decide_eq_true_eq, decide_eq_false_iff_not, Bool.and_eq_true, Bool.or_eq_true, Bool.and_eq_false_iff, Bool.or_eq_false_iff, Bool.not_eq_true', Bool.not_eq_false', Bool.not_true, Bool.not_false, bif_and, bif_or, Bool.not_not, ne_eq, Decidable.not_not, not_true_eq_false, not_false_eq_true, Int.not_le, Int.not_lt] at hg0); omega)) (hp (by (have hg0 := T.bool_inj (a := _) hG.1; (try simp only [decide_eq_true_eq, decide_eq_false_iff_not, Bool.and_eq_true, Bool.or_eq_true, Bool.and_eq_false_iff, Bool.or_eq_false_iff, Bool.not_eq_true', Bool.not_eq_false', Bool.not_true, Bool.not_false, bif_and, bif_or, Bool.not_not, ne_eq, Decidable.not_not, not_true_eq_false, not_false_eq_true, Int.not_le, Int.not_lt] at hg0); omega)))))) ?_
            refine rg_g rfl rfl (fun hG => (q_fieldAddr fld59_0 rfl)) ?_
            refine rg_g rfl rfl (fun hG => (q_load sz3 rfl rfl)) ?_
            refine rg_g rfl rfl (fun hG => (q_leq rfl rfl)) ?_
            refine rg_pick rfl rfl rfl rfl rfl rfl ?_
            refine rg_nil ?_
            refine aops_nil ?_
            change Awp _ _ _ _ _
            refine awp_cond rfl (fun hc10 => ?_) (fun hc10 => ?_)
            ·
              (try simp only [decide_eq_true_eq, decide_eq_false_iff_not, Bool.and_eq_true, Bool.or_eq_true, Bool.and_eq_false_iff, Bool.or_eq_false_iff, Bool.not_eq_true', Bool.not_eq_false', Bool.not_true, Bool.not_false, bif_and, bif_or, Bool.not_not, ne_eq, Decidable.not_not, not_true_eq_false, not_false_eq_true, Int.not_le, Int.not_lt] at hc10)
              have ho : ordBad (prevOf l k) x.1 = true := by rw [hpo (by omega)]; simp [ordBad]; omega
              refine awp_seq ?_
              refine awp_region 3 mixed (by kernel_rfl) ?_
              refine rg_q (q_move (x := .d (.v _)) rfl) ?_
              refine rg_q (q_assign (x := .d (.v _)) rfl) ?_
              refine rg_q (q_assign (x := .d (.v _)) rfl) ?_
              refine rg_nil ?_
              refine aops_nil ?_
              change Awp _ _ _ _ _
              refine awp_ret ?_
              refine ⟨_, (.cons (.tmp (by exact .d _)) (.cons (.tmp (by exact .d _)) .nil)), ?_⟩
              rw [hz, hf, hd, if_neg (by rw [hb]; simp), if_pos ho]; rfl
            ·
              (try simp only [decide_eq_true_eq, decide_eq_false_iff_not, Bool.and_eq_true, Bool.or_eq_true, Bool.and_eq_false_iff, Bool.or_eq_false_iff, Bool.not_eq_true', Bool.not_eq_false', Bool.not_true, Bool.not_false, bif_and, bif_or, Bool.not_not, ne_eq, Decidable.not_not, not_true_eq_false, not_false_eq_true, Int.not_le, Int.not_lt] at hc10)
              have ho : ¬ ordBad (prevOf l k) x.1 = true := by
                by_cases h0 : 0 < k
                · rw [hpo h0]; simp [ordBad]; omega
                · have : k = 0 := by omega
                  subst this; simp [prevOf, ordBad]
              refine awp_skip ?_
              change Awp _ _ _ _ _
              refine awp_region 3 mixed (by kernel_rfl) ?_
              refine rg_q (q_move (x := .d (.v _)) rfl) ?_
              refine rg_q (q_add rfl rfl (In64.mk (by omega) (by omega))) ?_
              refine rg_q (q_assign (x := .d (.v _)) rfl) ?_
              refine rg_nil ?_
              refine aops_nil ?_
              refine ⟨k + 1, ⟨by omega, by rw [hf, hd, if_neg (by rw [hb]; simp), if_neg ho]⟩, by omega, ?_⟩
              exact le_head (ms := []) (by repeat (first | exact Out.head rfl rfl | (refine Out.put ?_ rfl))) ⟨(by rfl), trivial⟩ trivial rfl rfl rfl rfl
        ·
          (try simp only [decide_eq_true_eq, decide_eq_false_iff_not, Bool.and_eq_true, Bool.or_eq_true, Bool.and_eq_false_iff, Bool.or_eq_false_iff, Bool.not_eq_true', Bool.not_eq_false', Bool.not_true, Bool.not_false, bif_and, bif_or, Bool.not_not, ne_eq, Decidable.not_not, not_true_eq_false, not_false_eq_true, Int.not_le, Int.not_lt] at hc6)
          refine awp_exit ?_
          change Awp _ _ _ _ _
          refine awp_seq ?_
          refine awp_region 2 mixed (by kernel_rfl) ?_
          refine rg_q (q_assign (x := .d (.v _)) rfl) ?_
          refine rg_q (q_assign (x := .d (.v _)) rfl) ?_
          refine rg_nil ?_
          refine aops_nil ?_
          change Awp _ _ _ _ _
          refine awp_ret ?_
          refine ⟨_, (.cons (.tmp (by exact .d _)) (.cons (.tmp (by exact .d _)) .nil)), ?_⟩
          rw [hz, hf, List.drop_of_length_le (by omega)]; rfl

def depE (l : List (Int × Int)) (d : Int) : Int :=
  if inR 0 d 100000 = false then 2 else if inR (l.getD 0 (0, 0)).1 d (l.getD (l.length - 1) (0, 0)).1 = false then 12 else 0
set_option maxRecDepth 100000 in
theorem DepthErr_p (l : List (Int × Int)) (d : Int) (hp : 0 < l.length) (hfew : l.length ≤ 1000) : PC Try.prog 37 [.sl 2 (l.map rowC), .v (.int .i64 (d))] (.v (.int .i64 (depE l d))) := by
  obtain ⟨x, hx⟩ : ∃ x, l[0]? = some x := ⟨_, List.getElem?_eq_getElem hp⟩
  obtain ⟨y, hy⟩ : ∃ y, l[l.length - 1]? = some y := ⟨_, List.getElem?_eq_getElem (by omega)⟩
  have hz : depE l d = if inR 0 d 100000 = false then 2 else if inR x.1 d y.1 = false then 12 else 0 := by unfold depE; rw [getD_at hx, getD_at hy]
  refine pc_of_awp Try.func37 rfl Try.ntmps37 (rs := [.tmp 4]) Try.results37 (by simp) fun w0 => ?_
  refine awp_seq ?_
  refine awp_region 1 mixed (by kernel_rfl) ?_
  refine rg_q (q_assign (x := .d (.v _)) rfl) ?_
  refine rg_nil ?_
  refine aops_nil ?_
  change Awp _ _ _ _ _
  refine awp_seq ?_
  refine awp_seq ?_
  refine awp_region 3 mixed (by kernel_rfl) ?_
  refine rg_q (q_move (x := .d (.v _)) rfl) ?_
  refine rg_q (q_call en21 (.cons rfl (.cons rfl (.cons rfl .nil))) rfl (Within_p _ _ _)) ?_
  refine rg_q (q_not rfl) ?_
  refine rg_nil ?_
  refine aops_nil ?_
  change Awp _ _ _ _ _
  refine awp_cond rfl (fun hc1 => ?_) (fun hc1 => ?_)
  ·
    (try simp only [decide_eq_true_eq, decide_eq_false_iff_not, Bool.and_eq_true, Bool.or_eq_true, Bool.and_eq_false_iff, Bool.or_eq_false_iff, Bool.not_eq_true', Bool.not_eq_false', Bool.not_true, Bool.not_false, bif_and, bif_or, Bool.not_not, ne_eq, Decidable.not_not, not_true_eq_false, not_false_eq_true, Int.not_le, Int.not_lt] at hc1)
    rw [if_pos hc1] at hz
    refine awp_seq ?_
    refine awp_region 1 mixed (by kernel_rfl) ?_
    refine rg_q (q_assign (x := .d (.v _)) rfl) ?_
    refine rg_nil ?_
    refine aops_nil ?_
    change Awp _ _ _ _ _
    refine awp_ret ?_
    refine ⟨_, (.cons (.tmp (by exact .d _)) .nil), ?_⟩
    rw [hz]; rfl
  ·
    (try simp only [decide_eq_true_eq, decide_eq_false_iff_not, Bool.and_eq_true, Bool.or_eq_true, Bool.and_eq_false_iff, Bool.or_eq_false_iff, Bool.not_eq_true', Bool.not_eq_false', Bool.not_true, Bool.not_false, bif_and, bif_or, Bool.not_not, ne_eq, Decidable.not_not, not_true_eq_false, not_false_eq_true, Int.not_le, Int.not_lt] at hc1)
    rw [if_neg (by simpa using hc1)] at hz
    refine awp_skip ?_
    change Awp _ _ _ _ _
    refine awp_seq ?_
    refine awp_seq ?_
    refine awp_region 14 mixed (by kernel_rfl) ?_
    refine rg_q (q_move (x := .d (.v _)) rfl) ?_
    refine rg_q (q_move (x := .d (.sl _ _)) rfl) ?_
    refine rg_q (q_indexAddr sl22 rfl rfl (by omega) (map_at (k := 0) (by rfl) hx)) ?_
    refine rg_q (q_fieldAddr fld59_0 rfl) ?_
    refine rg_q (q_load sz3 rfl rfl) ?_
    refine rg_q (q_move (x := .d (.sl _ _)) rfl) ?_
    refine rg_q (q_move (x := .d (.sl _ _)) rfl) ?_
    refine rg_q (q_len isl22 rfl (by exact len_map _ _)) ?_
    refine rg_q (q_sub rfl rfl (In64.mk (by omega) (by omega))) ?_
    refine rg_q (q_indexAddr sl22 rfl rfl (by omega) (map_at (k := l.length - 1) (by omega) hy)) ?_
    refine rg_q (q_fieldAddr fld59_0 rfl) ?_
    refine rg_q (q_load sz3 rfl rfl) ?_
    refine rg_q (q_call en21 (.cons rfl (.cons rfl (.cons rfl .nil))) rfl (Within_p _ _ _)) ?_
    refine rg_q (q_not rfl) ?_
    refine rg_nil ?_
    refine aops_nil ?_
    change Awp _ _ _ _ _
    refine awp_len (t := 14) rfl (fun hl14 => ?_)
    (try simp only [List.length_map] at hl14)
    refine awp_cond rfl (fun hc3 => ?_) (fun hc3 => ?_)
    ·
      (try simp only [decide_eq_true_eq, decide_eq_false_iff_not, Bool.and_eq_true, Bool.or_eq_true, Bool.and_eq_false_iff, Bool.or_eq_false_iff, Bool.not_eq_true', Bool.not_eq_false', Bool.not_true, Bool.not_false, bif_and, bif_or, Bool.not_not, ne_eq, Decidable.not_not, not_true_eq_false, not_false_eq_true, Int.not_le, Int.not_lt] at hc3)
      rw [if_pos hc3] at hz
      refine awp_seq ?_
      refine awp_region 1 mixed (by kernel_rfl) ?_
      refine rg_q (q_assign (x := .d (.v _)) rfl) ?_
      refine rg_nil ?_
      refine aops_nil ?_
      change Awp _ _ _ _ _
      refine awp_ret ?_
      refine ⟨_, (.cons (.tmp (by exact .d _)) .nil), ?_⟩
      rw [hz]; rfl
    ·
      (try simp only [decide_eq_true_eq, decide_eq_false_iff_not, Bool.and_eq_true, Bool.or_eq_true, Bool.and_eq_false_iff, Bool.or_eq_false_iff, Bool.not_eq_true', Bool.not_eq_false', Bool.not_true, Bool.not_false, bif_and, bif_or, Bool.not_not, ne_eq, Decidable.not_not, not_true_eq_false, not_false_eq_true, Int.not_le, Int.not_lt] at hc3)
      rw [if_neg (by simpa using hc3)] at hz
      refine awp_skip ?_
      change Awp _ _ _ _ _
      refine awp_seq ?_
      refine awp_region 1 mixed (by kernel_rfl) ?_
      refine rg_q (q_assign (x := .d (.v _)) rfl) ?_
      refine rg_nil ?_
      refine aops_nil ?_
      change Awp _ _ _ _ _
      refine awp_ret ?_
      refine ⟨_, (.cons (.tmp (by exact .d _)) .nil), ?_⟩
      rw [hz]; rfl
set_option maxRecDepth 100000 in
theorem Floor_p (n b : Int) (h : Sm n) (hb : 0 < b) : PC Try.prog 67 [.v (.int .i64 (n)), .v (.int .i64 (b))] (.v (.int .i64 (n / b))) := by
  have hq := tdiv_sm h hb
  obtain ⟨h1, h2⟩ := h
  obtain ⟨h3, h4⟩ := hq
  have hl := floor_law (n := n) hb
  refine pc_of_awp Try.func67 rfl Try.ntmps67 (rs := [.tmp 4]) Try.results67 (by simp) fun w0 => ?_
  refine awp_seq ?_
  refine awp_region 1 mixed (by kernel_rfl) ?_
  refine rg_q (q_assign (x := .d (.v _)) rfl) ?_
  refine rg_nil ?_
  refine aops_nil ?_
  change Awp _ _ _ _ _
  refine awp_seq ?_
  refine awp_region 4 mixed (by kernel_rfl) ?_
  refine rg_q (q_move (x := .d (.v _)) rfl) ?_
  refine rg_q (q_move (x := .d (.v _)) rfl) ?_
  refine rg_q (q_quo rfl rfl (by omega) (In64.mk (by omega) (by omega))) ?_
  refine rg_q (q_assign (x := .d (.v _)) rfl) ?_
  refine rg_nil ?_
  refine aops_nil ?_
  change Awp _ _ _ _ _
  refine awp_seq ?_
  refine awp_seq ?_
  refine awp_region 4 mixed (by kernel_rfl) ?_
  refine rg_q (q_move (x := .d (.v _)) rfl) ?_
  refine rg_q (q_move (x := .d (.v _)) rfl) ?_
  refine rg_q (q_rem rfl rfl (by omega)) ?_
  refine rg_q (q_lss rfl rfl) ?_
  refine rg_nil ?_
  refine aops_nil ?_
  change Awp _ _ _ _ _
  refine awp_cond rfl (fun hc2 => ?_) (fun hc2 => ?_)
  ·
    (try simp only [decide_eq_true_eq, decide_eq_false_iff_not, Bool.and_eq_true, Bool.or_eq_true, Bool.and_eq_false_iff, Bool.or_eq_false_iff, Bool.not_eq_true', Bool.not_eq_false', Bool.not_true, Bool.not_false, bif_and, bif_or, Bool.not_not, ne_eq, Decidable.not_not, not_true_eq_false, not_false_eq_true, Int.not_le, Int.not_lt] at hc2)
    rw [if_pos hc2] at hl
    refine awp_region 3 mixed (by kernel_rfl) ?_
    refine rg_q (q_move (x := .d (.v _)) rfl) ?_
    refine rg_q (q_sub rfl rfl (In64.mk (by omega) (by omega))) ?_
    refine rg_q (q_assign (x := .d (.v _)) rfl) ?_
    refine rg_nil ?_
    refine aops_nil ?_
    change Awp _ _ _ _ _
    refine awp_seq ?_
    refine awp_region 2 mixed (by kernel_rfl) ?_
    refine rg_q (q_move (x := .d (.v _)) rfl) ?_
    refine rg_q (q_assign (x := .d (.v _)) rfl) ?_
    refine rg_nil ?_
    refine aops_nil ?_
    change Awp _ _ _ _ _
    refine awp_ret ?_
    refine ⟨_, (.cons (.tmp (by exact .d _)) .nil), ?_⟩
    rw [← hl]; rfl
  ·
    (try simp only [decide_eq_true_eq, decide_eq_false_iff_not, Bool.and_eq_true, Bool.or_eq_true, Bool.and_eq_false_iff, Bool.or_eq_false_iff, Bool.not_eq_true', Bool.not_eq_false', Bool.not_true, Bool.not_false, bif_and, bif_or, Bool.not_not, ne_eq, Decidable.not_not, not_true_eq_false, not_false_eq_true, Int.not_le, Int.not_lt] at hc2)
    rw [if_neg (by omega)] at hl
    refine awp_skip ?_
    change Awp _ _ _ _ _
    refine awp_seq ?_
    refine awp_region 2 mixed (by kernel_rfl) ?_
    refine rg_q (q_move (x := .d (.v _)) rfl) ?_
    refine rg_q (q_assign (x := .d (.v _)) rfl) ?_
    refine rg_nil ?_
    refine aops_nil ?_
    change Awp _ _ _ _ _
    refine awp_ret ?_
    refine ⟨_, (.cons (.tmp (by exact .d _)) .nil), ?_⟩
    rw [← hl]; rfl
set_option maxRecDepth 100000 in
theorem Ceil_p (n b : Int) (h : Sm n) (hb : 0 < b) : PC Try.prog 68 [.v (.int .i64 (n)), .v (.int .i64 (b))] (.v (.int .i64 (ceilI n b))) := by
  obtain ⟨h1, h2⟩ := h
  have hq := ediv_sm (a := -n) ⟨by omega, by omega⟩ hb
  obtain ⟨h3, h4⟩ := hq
  refine pc_of_awp Try.func68 rfl Try.ntmps68 (rs := [.tmp 4]) Try.results68 (by simp) fun w0 => ?_
  refine awp_seq ?_
  refine awp_region 1 mixed (by kernel_rfl) ?_
  refine rg_q (q_assign (x := .d (.v _)) rfl) ?_
  refine rg_nil ?_
  refine aops_nil ?_
  change Awp _ _ _ _ _
  refine awp_seq ?_
  refine awp_region 6 mixed (by kernel_rfl) ?_
  refine rg_q (q_move (x := .d (.v _)) rfl) ?_
  refine rg_q (q_neg rfl (In64.mk (by omega) (by omega))) ?_
  refine rg_q (q_move (x := .d (.v _)) rfl) ?_
  refine rg_q (q_call en67 (.cons rfl (.cons rfl .nil)) rfl (Floor_p _ _ ⟨by omega, by omega⟩ (by omega))) ?_
  refine rg_q (q_neg rfl (In64.mk (by omega) (by omega))) ?_
  refine rg_q (q_assign (x := .d (.v _)) rfl) ?_
  refine rg_nil ?_
  refine aops_nil ?_
  change Awp _ _ _ _ _
  refine awp_ret ?_
  refine ⟨_, (.cons (.tmp (by exact .d _)) .nil), ?_⟩
  rfl
set_option maxRecDepth 100000 in
theorem Enclosed_p (x : Int × Int) (h : Sm x.1) (hb : 0 < x.2) : PC Try.prog 90 [.agg (shC x)] (.agg (shC (x.1 / x.2, ceilI x.1 x.2))) := by
  obtain ⟨h1, h2⟩ := h
  refine pc_of_awp Try.func90 rfl Try.ntmps90 (rs := [.cell 2 52]) Try.results90 (by simp) fun w0 => ?_
  refine awp_seq ?_
  refine awp_region 1 mixed (by kernel_rfl) ?_
  refine rg_q (q_box rfl (by exact .inr ⟨_, rfl⟩)) ?_
  refine rg_nil ?_
  refine aops_alloc zr52 rfl rfl rfl ?_
  refine aops_nil ?_
  change Awp _ _ _ _ _
  refine awp_seq ?_
  refine awp_region 11 mixed (by kernel_rfl) ?_
  refine rg_q (q_fieldAddr fld116_0 rfl) ?_
  refine rg_q (q_load sz3 rfl rfl) ?_
  refine rg_q (q_fieldAddr fld116_1 rfl) ?_
  refine rg_q (q_load sz3 rfl rfl) ?_
  refine rg_q (q_call en67 (.cons rfl (.cons rfl .nil)) rfl (Floor_p _ _ ⟨by omega, by omega⟩ (by omega))) ?_
  refine rg_q (q_fieldAddr fld116_0 rfl) ?_
  refine rg_q (q_load sz3 rfl rfl) ?_
  refine rg_q (q_fieldAddr fld116_1 rfl) ?_
  refine rg_q (q_load sz3 rfl rfl) ?_
  refine rg_q (q_call en68 (.cons rfl (.cons rfl .nil)) rfl (Ceil_p _ _ ⟨by omega, by omega⟩ (by omega))) ?_
  refine rg_q (q_build (cs := [_, _]) pl52 zr52 rfl (.cons rfl (by exact .inl rfl) (.cons rfl (by exact .inl rfl) .nil)) ⟨⟨rfl, by decide⟩, ⟨rfl, by decide⟩, trivial⟩ rfl) ?_
  refine rg_nil ?_
  refine aops_store sz52 rfl rfl (by exact .inr ⟨_, rfl⟩) rfl rfl (by decide) rfl ?_
  refine aops_nil ?_
  change Awp _ _ _ _ _
  refine awp_ret ?_
  refine ⟨_, (.cons (.cellA rfl rfl sz52 rfl) .nil), ?_⟩
  rfl

theorem idxOf_eq {α : Type} (f : α → Bool) : ∀ (l : List α) (i k : Nat) (x : α), l[k]? = some x → f x = true → (∀ j, j < k → ∀ y, l[j]? = some y → f y = false) → idxOf f i l = ((i + k : Nat) : Int)
  | [], _, _, _, h, _, _ => by simp at h
  | z :: zs, i, 0, x, h, hf, _ => by
    simp at h; subst h
    unfold idxOf; rw [if_pos hf]; simp
  | z :: zs, i, k + 1, x, h, hf, hn => by
    unfold idxOf
    rw [if_neg (by simp [hn 0 (by omega) z rfl]), idxOf_eq f zs (i + 1) k x (by simpa using h) hf fun j hj y hy => hn (j + 1) (by omega) y (by simpa using hy)]
    congr 1; omega
theorem asc_lt {l : List (Int × Int)} (h : l.Pairwise (fun a b => a.1 < b.1)) {i j : Nat} {x y : Int × Int} (hx : l[i]? = some x) (hy : l[j]? = some y) (hij : i < j) : x.1 < y.1 := by
  obtain ⟨hi, rfl⟩ := List.getElem?_eq_some_iff.1 hx
  obtain ⟨hj, rfl⟩ := List.getElem?_eq_some_iff.1 hy
  exact List.pairwise_iff_getElem.1 h i j hi hj hij
abbrev atD (d : Int) : Int × Int → Bool := fun x => decide (d ≤ x.1)
def refQ (l : List (Int × Int)) (d : Int) : Int × Int :=
  let k := (idxOf (atD d) 0 l).toNat
  if (l.getD k (0, 0)).1 = d then ((l.getD k (0, 0)).2, 1) else
  ((l.getD (k - 1) (0, 0)).2 * (((l.getD k (0, 0)).1 - (l.getD (k - 1) (0, 0)).1) - (d - (l.getD (k - 1) (0, 0)).1)) + (l.getD k (0, 0)).2 * (d - (l.getD (k - 1) (0, 0)).1), (l.getD k (0, 0)).1 - (l.getD (k - 1) (0, 0)).1)
theorem refQ_at {l : List (Int × Int)} {d : Int} {k : Nat} {x : Int × Int} (hT : Tab l) (hx : l[k]? = some x) (hd : x.1 = d) : refQ l d = (x.2, 1) := by
  have e : idxOf (atD d) 0 l = ((0 + k : Nat) : Int) := idxOf_eq _ l 0 k x hx (by simp [hd]) fun j hj y hy => by have := asc_lt hT.asc hy hx hj; simp; omega
  unfold refQ
  rw [e]
  simp only [Nat.zero_add, Int.toNat_natCast, getD_at hx, hd, if_true]
theorem refQ_mid {l : List (Int × Int)} {d : Int} {k : Nat} {x y : Int × Int} (hT : Tab l) (hx : l[k]? = some x) (hy : l[k + 1]? = some y) (h1 : x.1 < d) (h2 : d < y.1) : refQ l d = (x.2 * ((y.1 - x.1) - (d - x.1)) + y.2 * (d - x.1), y.1 - x.1) := by
  have e : idxOf (atD d) 0 l = ((0 + (k + 1) : Nat) : Int) := idxOf_eq _ l 0 (k + 1) y hy (by simp; omega) fun j hj z hz => by
    by_cases hjk : j = k
    · subst hjk; rw [hx] at hz; cases hz; simp; omega
    · have := asc_lt hT.asc hz hx (by omega); simp; omega
  unfold refQ
  rw [e]
  simp only [Nat.zero_add, Int.toNat_natCast, getD_at hy, Nat.add_sub_cancel, getD_at hx]
  rw [if_neg (by omega)]
theorem depE_in {l : List (Int × Int)} {d : Int} (h : depE l d = 0) : 0 ≤ d ∧ d ≤ 100000 ∧ (l.getD 0 (0, 0)).1 ≤ d ∧ d ≤ (l.getD (l.length - 1) (0, 0)).1 := by
  unfold depE at h
  split at h
  · simp at h
  · rename_i h1
    split at h
    · simp at h
    · rename_i h2
      simp [inR] at h1 h2
      exact ⟨h1.1, h1.2, h2.1, h2.2⟩
set_option maxRecDepth 100000 in
theorem echo_p (l : List (Int × Int)) (d : Int) (hT : Tab l) (hd : depE l d = 0) : PC Try.prog 75 [.sl 2 (l.map rowC), .v (.int .i64 (d))] (.agg (shC (refQ l d))) := by
  obtain ⟨d1, d2, d3, d4⟩ := depE_in hd
  have hpos := hT.pos
  have hfew := hT.few
  obtain ⟨x0, hx0⟩ : ∃ x, l[0]? = some x := ⟨_, List.getElem?_eq_getElem hpos⟩
  obtain ⟨z, hz⟩ : ∃ z, l[l.length - 1]? = some z := ⟨_, List.getElem?_eq_getElem (by omega)⟩
  rw [getD_at hx0] at d3
  rw [getD_at hz] at d4
  refine pc_of_awp Try.func75 rfl Try.ntmps75 (rs := [.cell 4 116]) Try.results75 (by simp) fun w0 => ?_
  refine awp_seq ?_
  refine awp_region 0 mixed (by kernel_rfl) ?_
  refine rg_nil ?_
  refine aops_alloc zr116 rfl rfl rfl ?_
  refine aops_nil ?_
  change Awp _ _ _ _ _
  refine awp_seq ?_
  refine awp_region 1 mixed (by kernel_rfl) ?_
  refine rg_q (q_assign (x := .d (.v _)) rfl) ?_
  refine rg_nil ?_
  refine aops_nil ?_
  change Awp _ _ _ _ _
  refine awp_seq ?_
  refine awp_block ?_
  refine awp_loopH [5, 8, 9, 10, 11, 12, 13, 14, 15, 16, 17, 18, 19, 20, 21, 22, 23, 24] [] (α := Nat) (fun k => [(5, T.i (k : Int))]) (fun k => []) (fun k => k < l.length ∧ ∀ x, l[k]? = some x → x.1 ≤ d) (fun k => l.length - k) 0 ⟨hpos, (fun x h => by rw [hx0] at h; cases h; exact d3)⟩ ?_ ?_
  · exact le_head (ms := []) (by repeat (exact Out.refl _)) ⟨(by rfl), trivial⟩ trivial rfl rfl rfl rfl
  ·
    intro k ⟨hk, hle⟩
    obtain ⟨x, hx⟩ : ∃ x, l[k]? = some x := ⟨_, List.getElem?_eq_getElem hk⟩
    have hxd := hle x hx
    obtain ⟨y, hy⟩ : ∃ y, k + 1 < l.length → l[k + 1]? = some y := by
      by_cases h0 : k + 1 < l.length
      · exact ⟨l[k + 1], fun _ => List.getElem?_eq_getElem h0⟩
      · exact ⟨(0, 0), fun h => absurd h h0⟩
    obtain ⟨a1, a2, a3, a4⟩ := hT.rows x (List.mem_of_getElem? hx)
    have hyr : k + 1 < l.length → RowIn y := fun h => hT.rows y (List.mem_of_getElem? (hy h))
    refine awp_seq ?_
    refine awp_seq ?_
    refine awp_region 15 mixed (by kernel_rfl) ?_
    refine rg_q (q_move (x := .d (.v _)) rfl) ?_
    refine rg_q (q_add rfl rfl (In64.mk (by omega) (by omega))) ?_
    refine rg_q (q_move (x := .d (.sl _ _)) rfl) ?_
    refine rg_q (q_len isl22 rfl (by exact len_map _ _)) ?_
    refine rg_q (q_lss rfl rfl) ?_
    refine rg_q (q_move (x := .d (.v _)) rfl) ?_
    refine rg_g rfl rfl (fun hG => (q_move (x := .d (.sl _ _)) rfl)) ?_
    refine rg_g rfl rfl (fun hG => (q_move (x := .d (.v _)) rfl)) ?_
    refine rg_g rfl rfl (fun hG => (q_add rfl rfl (In64.mk (by (have hg0 := T.bool_inj (a := _) hG.1; (try simp only [decide_eq_true_eq, decide_eq_false_iff_not, Bool.and_eq_true, Bool.or_eq_true, Bool.and_eq_false_iff, Bool.or_eq_false_iff, Bool.not_eq_true', Bool.not_eq_false', Bool.not_true, Bool.not_false, bif_and, bif_or, Bool.not_not, ne_eq, Decidable.not_not, not_true_eq_false, not_false_eq_true, Int.not_le, Int.not_lt] at hg0); omega)) (by (have hg0 := T.bool_inj (a := _) hG.1; (try simp only [decide_eq_true_eq, decide_eq_false_iff_not, Bool.and_eq_true, Bool.or_eq_true, Bool.and_eq_false_iff, Bool.or_eq_false_iff, Bool.not_eq_true', Bool.not_eq_false', Bool.not_true, Bool.not_false, bif_and, bif_or, Bool.not_not, ne_eq, Decidable.not_not, not_true_eq_false, not_false_eq_true, Int.not_le, Int.not_lt] at hg0); omega))))) ?_
    refine rg_g rfl rfl (fun hG => (q_indexAddr sl22 rfl rfl (by (have hg0 := T.bool_inj (a := _) hG.1; (try simp only [decide_eq_true_eq, decide_eq_false_iff_not, Bool.and_eq_true, Bool.or_eq_true, Bool.and_eq_false_iff, Bool.or_eq_false_iff, Bool.not_eq_true', Bool.not_eq_false', Bool.not_true, Bool.not_false, bif_and, bif_or, Bool.not_not, ne_eq, Decidable.not_not, not_true_eq_false, not_false_eq_true, Int.not_le, Int.not_lt] at hg0); omega)) (map_at (k := k + 1) (by (have hg0 := T.bool_inj (a := _) hG.1; (try simp only [decide_eq_true_eq, decide_eq_false_iff_not, Bool.and_eq_true, Bool.or_eq_true, Bool.and_eq_false_iff, Bool.or_eq_false_iff, Bool.not_eq_true', Bool.not_eq_false', Bool.not_true, Bool.not_false, bif_and, bif_or, Bool.not_not, ne_eq, Decidable.not_not, not_true_eq_false, not_false_eq_true, Int.not_le, Int.not_lt] at hg0); omega)) (hy (by (have hg0 := T.bool_inj (a := _) hG.1; (try simp only [decide_eq_true_eq, decide_eq_false_iff_not, Bool.and_eq_true, Bool.or_eq_true, Bool.and_eq_false_iff, Bool.or_eq_false_iff, Bool.not_eq_true', Bool.not_eq_false', Bool.not_true, Bool.not_false, bif_and, bif_or, Bool.not_not, ne_eq, Decidable.not_not, not_true_eq_false, not_false_eq_true, Int.not_le, Int.not_lt] at hg0); omega)))))) ?_
    refine rg_g rfl rfl (fun hG => (q_fieldAddr fld59_0 rfl)) ?_
    refine rg_g rfl rfl (fun hG => (q_load sz3 rfl rfl)) ?_
    refine rg_g rfl rfl (fun hG => (q_move (x := .d (.v _)) rfl)) ?_
    refine rg_g rfl rfl (fun hG => (q_leq rfl rfl)) ?_
    refine rg_pick rfl rfl rfl rfl rfl rfl ?_
    refine rg_nil ?_
    refine aops_nil ?_
    change Awp _ _ _ _ _
    refine awp_len (t := 10) rfl (fun hl10 => ?_)
    (try simp only [List.length_map] at hl10)
    refine awp_cond rfl (fun hc2 => ?_) (fun hc2 => ?_)
    ·
      (try simp only [decide_eq_true_eq, decide_eq_false_iff_not, Bool.and_eq_true, Bool.or_eq_true, Bool.and_eq_false_iff, Bool.or_eq_false_iff, Bool.not_eq_true', Bool.not_eq_false', Bool.not_true, Bool.not_false, bif_and, bif_or, Bool.not_not, ne_eq, Decidable.not_not, not_true_eq_false, not_false_eq_true, Int.not_le, Int.not_lt] at hc2)
      refine awp_skip ?_
      change Awp _ _ _ _ _
      refine awp_block ?_
      refine awp_region 3 mixed (by kernel_rfl) ?_
      refine rg_q (q_move (x := .d (.v _)) rfl) ?_
      refine rg_q (q_add rfl rfl (In64.mk (by omega) (by omega))) ?_
      refine rg_q (q_assign (x := .d (.v _)) rfl) ?_
      refine rg_nil ?_
      refine aops_nil ?_
      refine ⟨k + 1, ⟨by omega, (fun u hu => by rw [hy (by omega)] at hu; cases hu; exact hc2.2)⟩, by omega, ?_⟩
      exact le_head (ms := []) (by repeat (first | exact Out.head rfl rfl | (refine Out.put ?_ rfl))) ⟨(by rfl), trivial⟩ trivial rfl rfl rfl rfl
    ·
      (try simp only [decide_eq_true_eq, decide_eq_false_iff_not, Bool.and_eq_true, Bool.or_eq_true, Bool.and_eq_false_iff, Bool.or_eq_false_iff, Bool.not_eq_true', Bool.not_eq_false', Bool.not_true, Bool.not_false, bif_and, bif_or, Bool.not_not, ne_eq, Decidable.not_not, not_true_eq_false, not_false_eq_true, Int.not_le, Int.not_lt] at hc2)
      refine awp_exit ?_
      change Awp _ _ _ _ _
      refine awp_seq ?_
      refine awp_seq ?_
      refine awp_region 7 mixed (by kernel_rfl) ?_
      refine rg_q (q_move (x := .d (.sl _ _)) rfl) ?_
      refine rg_q (q_move (x := .d (.v _)) rfl) ?_
      refine rg_q (q_indexAddr sl22 rfl rfl (by omega) (map_at (by omega) hx)) ?_
      refine rg_q (q_fieldAddr fld59_0 rfl) ?_
      refine rg_q (q_load sz3 rfl rfl) ?_
      refine rg_q (q_move (x := .d (.v _)) rfl) ?_
      refine rg_q (q_eql rfl rfl) ?_
      refine rg_nil ?_
      refine aops_nil ?_
      change Awp _ _ _ _ _
      refine awp_cond rfl (fun hc4 => ?_) (fun hc4 => ?_)
      ·
        (try simp only [decide_eq_true_eq, decide_eq_false_iff_not, Bool.and_eq_true, Bool.or_eq_true, Bool.and_eq_false_iff, Bool.or_eq_false_iff, Bool.not_eq_true', Bool.not_eq_false', Bool.not_true, Bool.not_false, bif_and, bif_or, Bool.not_not, ne_eq, Decidable.not_not, not_true_eq_false, not_false_eq_true, Int.not_le, Int.not_lt] at hc4)
        have hq : refQ l d = (x.2, 1) := refQ_at hT hx hc4
        refine awp_seq ?_
        refine awp_region 6 mixed (by kernel_rfl) ?_
        refine rg_q (q_move (x := .d (.sl _ _)) rfl) ?_
        refine rg_q (q_move (x := .d (.v _)) rfl) ?_
        refine rg_q (q_indexAddr sl22 rfl rfl (by omega) (map_at (by omega) hx)) ?_
        refine rg_q (q_fieldAddr fld59_1 rfl) ?_
        refine rg_q (q_load sz3 rfl rfl) ?_
        refine rg_q (q_build (cs := [_, _]) pl116 zr116 rfl (.cons rfl (by exact .inl rfl) (.cons rfl (by exact .inl rfl) .nil)) ⟨⟨rfl, by decide⟩, ⟨rfl, by decide⟩, trivial⟩ rfl) ?_
        refine rg_nil ?_
        refine aops_store sz116 rfl rfl (by exact .inr ⟨_, rfl⟩) rfl rfl (by decide) rfl ?_
        refine aops_nil ?_
        change Awp _ _ _ _ _
        refine awp_ret ?_
        refine ⟨_, (.cons (.cellA rfl rfl sz116 rfl) .nil), ?_⟩
        rw [hq]; rfl
      ·
        (try simp only [decide_eq_true_eq, decide_eq_false_iff_not, Bool.and_eq_true, Bool.or_eq_true, Bool.and_eq_false_iff, Bool.or_eq_false_iff, Bool.not_eq_true', Bool.not_eq_false', Bool.not_true, Bool.not_false, bif_and, bif_or, Bool.not_not, ne_eq, Decidable.not_not, not_true_eq_false, not_false_eq_true, Int.not_le, Int.not_lt] at hc4)
        have hlast : k + 1 < l.length := by
          by_cases h : k + 1 < l.length
          · exact h
          · exfalso
            have : l.length - 1 = k := by omega
            rw [this, hx] at hz; cases hz; omega
        have hyd : d < y.1 := by omega
        obtain ⟨b1, b2, b3, b4⟩ := hyr hlast
        have hy := hy hlast
        have hq := refQ_mid hT hx hy (by omega) hyd
        have m1 := mulb (a := x.2) (b := (y.1 - x.1) - (d - x.1)) (A := 1000000) (B := 100000) (by omega) (by omega) (by omega) (by omega)
        have m2 := mulb (a := y.2) (b := d - x.1) (A := 1000000) (B := 100000) (by omega) (by omega) (by omega) (by omega)
        refine awp_skip ?_
        change Awp _ _ _ _ _
        refine awp_seq ?_
        refine awp_region 21 mixed (by kernel_rfl) ?_
        refine rg_q (q_move (x := .d (.sl _ _)) rfl) ?_
        refine rg_q (q_move (x := .d (.v _)) rfl) ?_
        refine rg_q (q_add rfl rfl (In64.mk (by omega) (by omega))) ?_
        refine rg_q (q_indexAddr sl22 rfl rfl (by omega) (map_at (k := k + 1) (by omega) hy)) ?_
        refine rg_q (q_fieldAddr fld59_0 rfl) ?_
        refine rg_q (q_load sz3 rfl rfl) ?_
        refine rg_q (q_move (x := .d (.sl _ _)) rfl) ?_
        refine rg_q (q_move (x := .d (.v _)) rfl) ?_
        refine rg_q (q_indexAddr sl22 rfl rfl (by omega) (map_at (by omega) hx)) ?_
        refine rg_q (q_fieldAddr fld59_0 rfl) ?_
        refine rg_q (q_load sz3 rfl rfl) ?_
        refine rg_q (q_sub rfl rfl (In64.mk (by omega) (by omega))) ?_
        refine rg_q (q_move (x := .d (.v _)) rfl) ?_
        refine rg_q (q_move (x := .d (.sl _ _)) rfl) ?_
        refine rg_q (q_move (x := .d (.v _)) rfl) ?_
        refine rg_q (q_indexAddr sl22 rfl rfl (by omega) (map_at (by omega) hx)) ?_
        refine rg_q (q_fieldAddr fld59_0 rfl) ?_
        refine rg_q (q_load sz3 rfl rfl) ?_
        refine rg_q (q_sub rfl rfl (In64.mk (by omega) (by omega))) ?_
        refine rg_q (q_assign (x := .d (.v _)) rfl) ?_
        refine rg_q (q_assign (x := .d (.v _)) rfl) ?_
        refine rg_nil ?_
        refine aops_nil ?_
        change Awp _ _ _ _ _
        refine awp_seq ?_
        refine awp_region 20 mixed (by kernel_rfl) ?_
        refine rg_q (q_move (x := .d (.sl _ _)) rfl) ?_
        refine rg_q (q_move (x := .d (.v _)) rfl) ?_
        refine rg_q (q_indexAddr sl22 rfl rfl (by omega) (map_at (by omega) hx)) ?_
        refine rg_q (q_fieldAddr fld59_1 rfl) ?_
        refine rg_q (q_load sz3 rfl rfl) ?_
        refine rg_q (q_move (x := .d (.v _)) rfl) ?_
        refine rg_q (q_move (x := .d (.v _)) rfl) ?_
        refine rg_q (q_sub rfl rfl (In64.mk (by omega) (by omega))) ?_
        refine rg_q (q_mul rfl rfl (In64.mk (by omega) (by omega))) ?_
        refine rg_q (q_move (x := .d (.sl _ _)) rfl) ?_
        refine rg_q (q_move (x := .d (.v _)) rfl) ?_
        refine rg_q (q_add rfl rfl (In64.mk (by omega) (by omega))) ?_
        refine rg_q (q_indexAddr sl22 rfl rfl (by omega) (map_at (k := k + 1) (by omega) hy)) ?_
        refine rg_q (q_fieldAddr fld59_1 rfl) ?_
        refine rg_q (q_load sz3 rfl rfl) ?_
        refine rg_q (q_move (x := .d (.v _)) rfl) ?_
        refine rg_q (q_mul rfl rfl (In64.mk (by omega) (by omega))) ?_
        refine rg_q (q_add rfl rfl (In64.mk (by omega) (by omega))) ?_
        refine rg_q (q_move (x := .d (.v _)) rfl) ?_
        refine rg_q (q_build (cs := [_, _]) pl116 zr116 rfl (.cons rfl (by exact .inl rfl) (.cons rfl (by exact .inl rfl) .nil)) ⟨⟨rfl, by decide⟩, ⟨rfl, by decide⟩, trivial⟩ rfl) ?_
        refine rg_nil ?_
        refine aops_store sz116 rfl rfl (by exact .inr ⟨_, rfl⟩) rfl rfl (by decide) rfl ?_
        refine aops_nil ?_
        change Awp _ _ _ _ _
        refine awp_ret ?_
        refine ⟨_, (.cons (.cellA rfl rfl sz116 rfl) .nil), ?_⟩
        rw [hq]; rfl
end Go.Proofs.Ytgdcidbpadhkpaa.Am.M
