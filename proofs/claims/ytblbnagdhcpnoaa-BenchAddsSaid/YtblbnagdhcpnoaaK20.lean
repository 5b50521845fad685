/- Contracts over the abstract machine: the reference of chapter 4: arrays, specimens, copies. Conditions: none. -/
import Derived.Test.YtblbnagdhcpnoaaK19
set_option linter.unusedVariables false
set_option linter.unusedSimpArgs false
-- mini
namespace Go.Proofs.Ytblbnagdhcpnoaa.Am.M
open Go
set_option maxRecDepth 100000 in
theorem rcheckSampling_p (s : Int × Int) : PC Try.prog 57 [.agg (shC s)] (.v (.int .i64 (sampE s))) := by
  refine pc_of_awp Try.func57 rfl Try.ntmps57 (rs := [.tmp 2]) Try.results57 (by simp) fun w0 => ?_
  refine awp_seq ?_
  refine awp_region 2 mixed (by kernel_rfl) ?_
  refine rg_q (q_box rfl (by exact .inr ⟨_, rfl⟩)) ?_
  refine rg_q (q_assign (x := .d (.v _)) rfl) ?_
  refine rg_nil ?_
  refine aops_nil ?_
  change Awp _ _ _ _ _
  refine awp_seq ?_
  refine awp_seq ?_
  refine awp_region 10 mixed (by kernel_rfl) ?_
  refine rg_q (q_fieldAddr fld26_0 rfl) ?_
  refine rg_q (q_load sz3 rfl rfl) ?_
  refine rg_q (q_call en33 (.cons rfl (.cons rfl (.cons rfl .nil))) rfl (within4_p _ _ _)) ?_
  refine rg_q (q_not rfl) ?_
  refine rg_q (q_move (x := .d (.v _)) rfl) ?_
  refine rg_g rfl rfl (fun hG => (q_fieldAddr fld26_1 rfl)) ?_
  refine rg_g rfl rfl (fun hG => (q_load sz3 rfl rfl)) ?_
  refine rg_g rfl rfl (fun hG => (q_call en33 (.cons rfl (.cons rfl (.cons rfl .nil))) rfl (within4_p _ _ _))) ?_
  refine rg_g rfl rfl (fun hG => (q_not rfl)) ?_
  refine rg_pick rfl rfl rfl rfl rfl rfl ?_
  refine rg_nil ?_
  refine aops_nil ?_
  change Awp _ _ _ _ _
  refine awp_cond rfl (fun hc1 => ?_) (fun hc1 => ?_)
  ·
    (try simp only [decide_eq_true_eq, decide_eq_false_iff_not, Bool.and_eq_true, Bool.or_eq_true, Bool.and_eq_false_iff, Bool.or_eq_false_iff, Bool.not_eq_true', Bool.not_eq_false', Bool.not_true, Bool.not_false, bif_and, bif_or, Bool.not_not, ne_eq, Decidable.not_not, not_true_eq_false, not_false_eq_true, Int.not_le, Int.not_lt] at hc1)
    have hz : sampE s = 2 := by unfold sampE; rw [if_neg (by intro h; simp_all)]
    refine awp_seq ?_
    refine awp_region 1 mixed (by kernel_rfl) ?_
    refine rg_q (q_assign (x := .d (.v _)) rfl) ?_
    refine rg_nil ?_
    refine aops_nil ?_
    change Awp _ _ _ _ _
    refine awp_ret ?_
    refine ⟨_, (.cons (.tmp (by exact .d _)) .nil), ?_⟩
    rw [hz]; rfl
  ·
    (try simp only [decide_eq_true_eq, decide_eq_false_iff_not, Bool.and_eq_true, Bool.or_eq_true, Bool.and_eq_false_iff, Bool.or_eq_false_iff, Bool.not_eq_true', Bool.not_eq_false', Bool.not_true, Bool.not_false, bif_and, bif_or, Bool.not_not, ne_eq, Decidable.not_not, not_true_eq_false, not_false_eq_true, Int.not_le, Int.not_lt] at hc1)
    have hz : sampE s = 0 := by unfold sampE; rw [if_pos (by simp_all)]
    refine awp_skip ?_
    change Awp _ _ _ _ _
    refine awp_seq ?_
    refine awp_region 1 mixed (by kernel_rfl) ?_
    refine rg_q (q_assign (x := .d (.v _)) rfl) ?_
    refine rg_nil ?_
    refine aops_nil ?_
    change Awp _ _ _ _ _
    refine awp_ret ?_
    refine ⟨_, (.cons (.tmp (by exact .d _)) .nil), ?_⟩
    rw [hz]; rfl
set_option maxRecDepth 100000 in
theorem inPlate_p (a : Arr) (z : Int) (h1 : 2 ≤ a.ou.t) (h2 : a.ou.t ≤ 20000) : PC Try.prog 67 [.agg (arrC a), .v (.int .i64 (z))] (.v (.bool (inR 1 z (a.ou.t - 1)))) := by
  refine pc_of_awp Try.func67 rfl Try.ntmps67 (rs := [.tmp 4]) Try.results67 (by simp) fun w0 => ?_
  refine awp_seq ?_
  refine awp_region 2 mixed (by kernel_rfl) ?_
  refine rg_q (q_box rfl (by exact .inr ⟨_, rfl⟩)) ?_
  refine rg_q (q_assign (x := .d (.v _)) rfl) ?_
  refine rg_nil ?_
  refine aops_nil ?_
  change Awp _ _ _ _ _
  refine awp_seq ?_
  refine awp_region 7 mixed (by kernel_rfl) ?_
  refine rg_q (q_move (x := .d (.v _)) rfl) ?_
  refine rg_q (q_fieldAddr fld28_1 rfl) ?_
  refine rg_q (q_fieldAddr fld24_3 rfl) ?_
  refine rg_q (q_load sz3 rfl rfl) ?_
  refine rg_q (q_sub rfl rfl (In64.mk (by omega) (by omega))) ?_
  refine rg_q (q_call en33 (.cons rfl (.cons rfl (.cons rfl .nil))) rfl (within4_p _ _ _)) ?_
  refine rg_q (q_assign (x := .d (.v _)) rfl) ?_
  refine rg_nil ?_
  refine aops_nil ?_
  change Awp _ _ _ _ _
  refine awp_ret ?_
  refine ⟨_, (.cons (.tmp (by exact .d _)) .nil), ?_⟩
  rfl

theorem elE_is (p : Int × Int) : elE p = if (inR (-100000) p.1 100000 && inR (-100000) p.2 100000) = true then (if 0 ≤ p.2 then 15 else 0) else 2 := by
  unfold elE
  rw [spotE_is p]
  by_cases h : (inR (-100000) p.1 100000 && inR (-100000) p.2 100000) = true
  · rw [if_pos h, if_pos h]
    unfold firstE; rw [if_pos rfl]
    unfold firstE whenI
    by_cases h2 : 0 ≤ p.2
    · simp [firstE, h2]
    · simp [firstE, h2]
  · rw [if_neg h, if_neg h]; rfl
theorem first4 (a b c d : Int) : firstE [a, b, c, d] = if a ≠ 0 then a else if b ≠ 0 then b else if c ≠ 0 then c else d := by
  unfold firstE
  by_cases h1 : a = 0
  · rw [if_pos h1, if_neg (fun q => q h1)]
    unfold firstE
    by_cases h2 : b = 0
    · rw [if_pos h2, if_neg (fun q => q h2)]
      unfold firstE
      by_cases h3 : c = 0
      · rw [if_pos h3, if_neg (fun q => q h3)]
        unfold firstE
        by_cases h4 : d = 0
        · rw [if_pos h4, h4]; rfl
        · rw [if_neg h4]
      · rw [if_neg h3, if_pos h3]
    · rw [if_neg h2, if_pos h2]
  · rw [if_neg h1, if_pos h1]
set_option maxRecDepth 100000 in
theorem rcheckArr_p (a : Arr) : PC Try.prog 16 [.agg (arrC a)] (.tup [.v (.int .i64 ((ckArr a).1)), .v (.int .i64 ((ckArr a).2))]) := by
  have hu : ckArr a = if a.el.length = 0 then (0, 10) else if 16 < a.el.length then (0, 8) else if (ckEls 0 a.el).2 ≠ 0 then ckEls 0 a.el else (0, arrE0 a) := rfl
  have h4 : arrE0 a = if modeE a.ou ≠ 0 then modeE a.ou else if modeE a.ba ≠ 0 then modeE a.ba else if whenI (decide (a.ou.t ≠ a.ba.t)) 23 ≠ 0 then whenI (decide (a.ou.t ≠ a.ba.t)) 23 else sampE a.ts := first4 _ _ _ _
  refine pc_of_awp Try.func16 rfl Try.ntmps16 (rs := [.tmp 2, .tmp 3]) Try.results16 (by simp) fun w0 => ?_
  refine awp_seq ?_
  refine awp_region 3 mixed (by kernel_rfl) ?_
  refine rg_q (q_box rfl (by exact .inr ⟨_, rfl⟩)) ?_
  refine rg_q (q_assign (x := .d (.v _)) rfl) ?_
  refine rg_q (q_assign (x := .d (.v _)) rfl) ?_
  refine rg_nil ?_
  refine aops_nil ?_
  change Awp _ _ _ _ _
  refine awp_seq ?_
  refine awp_seq ?_
  refine awp_region 4 mixed (by kernel_rfl) ?_
  refine rg_q (q_fieldAddr fld28_0 rfl) ?_
  refine rg_q (q_load sz22 rfl rfl) ?_
  refine rg_q (q_len isl22 rfl (by exact len_map _ _)) ?_
  refine rg_q (q_eql rfl rfl) ?_
  refine rg_nil ?_
  refine aops_nil ?_
  change Awp _ _ _ _ _
  refine awp_len (t := 8) rfl (fun hl8 => ?_)
  (try simp only [List.length_map] at hl8)
  refine awp_cond rfl (fun hc1 => ?_) (fun hc1 => ?_)
  ·
    (try simp only [decide_eq_true_eq, decide_eq_false_iff_not, Bool.and_eq_true, Bool.or_eq_true, Bool.and_eq_false_iff, Bool.or_eq_false_iff, Bool.not_eq_true', Bool.not_eq_false', Bool.not_true, Bool.not_false, bif_and, bif_or, Bool.not_not, ne_eq, Decidable.not_not, not_true_eq_false, not_false_eq_true, Int.not_le, Int.not_lt] at hc1)
    rw [if_pos (by omega)] at hu
    refine awp_seq ?_
    refine awp_region 2 mixed (by kernel_rfl) ?_
    refine rg_q (q_assign (x := .d (.v _)) rfl) ?_
    refine rg_q (q_assign (x := .d (.v _)) rfl) ?_
    refine rg_nil ?_
    refine aops_nil ?_
    change Awp _ _ _ _ _
    refine awp_ret ?_
    refine ⟨_, (.cons (.tmp (by exact .d _)) (.cons (.tmp (by exact .d _)) .nil)), ?_⟩
    rw [hu]; rfl
  ·
    (try simp only [decide_eq_true_eq, decide_eq_false_iff_not, Bool.and_eq_true, Bool.or_eq_true, Bool.and_eq_false_iff, Bool.or_eq_false_iff, Bool.not_eq_true', Bool.not_eq_false', Bool.not_true, Bool.not_false, bif_and, bif_or, Bool.not_not, ne_eq, Decidable.not_not, not_true_eq_false, not_false_eq_true, Int.not_le, Int.not_lt] at hc1)
    rw [if_neg (by omega)] at hu
    refine awp_skip ?_
    change Awp _ _ _ _ _
    refine awp_seq ?_
    refine awp_seq ?_
    refine awp_region 4 mixed (by kernel_rfl) ?_
    refine rg_q (q_fieldAddr fld28_0 rfl) ?_
    refine rg_q (q_load sz22 rfl rfl) ?_
    refine rg_q (q_len isl22 rfl (by exact len_map _ _)) ?_
    refine rg_q (q_gtr rfl rfl) ?_
    refine rg_nil ?_
    refine aops_nil ?_
    change Awp _ _ _ _ _
    refine awp_len (t := 12) rfl (fun hl12 => ?_)
    (try simp only [List.length_map] at hl12)
    refine awp_cond rfl (fun hc3 => ?_) (fun hc3 => ?_)
    ·
      (try simp only [decide_eq_true_eq, decide_eq_false_iff_not, Bool.and_eq_true, Bool.or_eq_true, Bool.and_eq_false_iff, Bool.or_eq_false_iff, Bool.not_eq_true', Bool.not_eq_false', Bool.not_true, Bool.not_false, bif_and, bif_or, Bool.not_not, ne_eq, Decidable.not_not, not_true_eq_false, not_false_eq_true, Int.not_le, Int.not_lt] at hc3)
      rw [if_pos (by omega)] at hu
      refine awp_seq ?_
      refine awp_region 2 mixed (by kernel_rfl) ?_
      refine rg_q (q_assign (x := .d (.v _)) rfl) ?_
      refine rg_q (q_assign (x := .d (.v _)) rfl) ?_
      refine rg_nil ?_
      refine aops_nil ?_
      change Awp _ _ _ _ _
      refine awp_ret ?_
      refine ⟨_, (.cons (.tmp (by exact .d _)) (.cons (.tmp (by exact .d _)) .nil)), ?_⟩
      rw [hu]; rfl
    ·
      (try simp only [decide_eq_true_eq, decide_eq_false_iff_not, Bool.and_eq_true, Bool.or_eq_true, Bool.and_eq_false_iff, Bool.or_eq_false_iff, Bool.not_eq_true', Bool.not_eq_false', Bool.not_true, Bool.not_false, bif_and, bif_or, Bool.not_not, ne_eq, Decidable.not_not, not_true_eq_false, not_false_eq_true, Int.not_le, Int.not_lt] at hc3)
      rw [if_neg (by omega)] at hu
      refine awp_skip ?_
      change Awp _ _ _ _ _
      refine awp_seq ?_
      refine awp_seq ?_
      refine awp_region 1 mixed (by kernel_rfl) ?_
      refine rg_q (q_assign (x := .d (.v _)) rfl) ?_
      refine rg_nil ?_
      refine aops_nil ?_
      change Awp _ _ _ _ _
      refine awp_block ?_
      refine awp_loopH [2, 3, 4, 15, 16, 17, 18, 19, 20, 21, 22, 23, 24, 25, 26, 27, 28, 29, 30, 31, 32, 33, 34, 35, 36, 37] [] (α := Nat) (fun k => [(4, T.i (k : Int))]) (fun k => []) (fun k => k ≤ a.el.length ∧ ckEls 0 a.el = ckEls k (a.el.drop k)) (fun k => a.el.length - k) 0 ⟨Nat.zero_le _, rfl⟩ ?_ ?_
      · exact le_head (ms := []) (by repeat (exact Out.refl _)) ⟨(by rfl), trivial⟩ trivial rfl rfl rfl rfl
      ·
        intro k ⟨hk, hf⟩
        refine awp_seq ?_
        refine awp_seq ?_
        refine awp_region 5 mixed (by kernel_rfl) ?_
        refine rg_q (q_move (x := .d (.v _)) rfl) ?_
        refine rg_q (q_fieldAddr fld28_0 rfl) ?_
        refine rg_q (q_load sz22 rfl rfl) ?_
        refine rg_q (q_len isl22 rfl (by exact len_map _ _)) ?_
        refine rg_q (q_lss rfl rfl) ?_
        refine rg_nil ?_
        refine aops_nil ?_
        change Awp _ _ _ _ _
        refine awp_len (t := 17) rfl (fun hl17 => ?_)
        (try simp only [List.length_map] at hl17)
        refine awp_cond rfl (fun hc6 => ?_) (fun hc6 => ?_)
        ·
          (try simp only [decide_eq_true_eq, decide_eq_false_iff_not, Bool.and_eq_true, Bool.or_eq_true, Bool.and_eq_false_iff, Bool.or_eq_false_iff, Bool.not_eq_true', Bool.not_eq_false', Bool.not_true, Bool.not_false, bif_and, bif_or, Bool.not_not, ne_eq, Decidable.not_not, not_true_eq_false, not_false_eq_true, Int.not_le, Int.not_lt] at hc6)
          have hlt : k < a.el.length := by omega
          obtain ⟨x, hx⟩ : ∃ x, a.el[k]? = some x := ⟨_, List.getElem?_eq_getElem hlt⟩
          have hd := ckEls_at hx
          have he := elE_is x
          refine awp_skip ?_
          change Awp _ _ _ _ _
          refine awp_seq ?_
          refine awp_block ?_
          refine awp_seq ?_
          refine awp_seq ?_
          refine awp_region 7 mixed (by kernel_rfl) ?_
          refine rg_q (q_fieldAddr fld28_0 rfl) ?_
          refine rg_q (q_load sz22 rfl rfl) ?_
          refine rg_q (q_move (x := .d (.v _)) rfl) ?_
          refine rg_q (q_indexAddr sl22 rfl rfl (by omega) (map_at (by omega) hx)) ?_
          refine rg_q (q_loadA (ds := [_, _]) sz38 rfl rfl rfl) ?_
          refine rg_q (q_call en55 (.cons rfl .nil) rfl (risSpot_p _)) ?_
          refine rg_q (q_not rfl) ?_
          refine rg_nil ?_
          refine aops_nil ?_
          change Awp _ _ _ _ _
          refine awp_cond rfl (fun hc8 => ?_) (fun hc8 => ?_)
          ·
            (try simp only [decide_eq_true_eq, decide_eq_false_iff_not, Bool.and_eq_true, Bool.or_eq_true, Bool.and_eq_false_iff, Bool.or_eq_false_iff, Bool.not_eq_true', Bool.not_eq_false', Bool.not_true, Bool.not_false, bif_and, bif_or, Bool.not_not, ne_eq, Decidable.not_not, not_true_eq_false, not_false_eq_true, Int.not_le, Int.not_lt] at hc8)
            rw [if_neg (by rcases hc8 with q | q <;> simp [q])] at he
            have hz : ckEls 0 a.el = ((k : Int), 2) := by rw [hf, hd, he]; rfl
            rw [hz] at hu
            refine awp_seq ?_
            refine awp_region 3 mixed (by kernel_rfl) ?_
            refine rg_q (q_move (x := .d (.v _)) rfl) ?_
            refine rg_q (q_assign (x := .d (.v _)) rfl) ?_
            refine rg_q (q_assign (x := .d (.v _)) rfl) ?_
            refine rg_nil ?_
            refine aops_nil ?_
            change Awp _ _ _ _ _
            refine awp_ret ?_
            refine ⟨_, (.cons (.tmp (by exact .d _)) (.cons (.tmp (by exact .d _)) .nil)), ?_⟩
            rw [hu]; rfl
          ·
            (try simp only [decide_eq_true_eq, decide_eq_false_iff_not, Bool.and_eq_true, Bool.or_eq_true, Bool.and_eq_false_iff, Bool.or_eq_false_iff, Bool.not_eq_true', Bool.not_eq_false', Bool.not_true, Bool.not_false, bif_and, bif_or, Bool.not_not, ne_eq, Decidable.not_not, not_true_eq_false, not_false_eq_true, Int.not_le, Int.not_lt] at hc8)
            rw [if_pos (by simp [hc8.1, hc8.2])] at he
            refine awp_skip ?_
            change Awp _ _ _ _ _
            refine awp_seq ?_
            refine awp_region 7 mixed (by kernel_rfl) ?_
            refine rg_q (q_fieldAddr fld28_0 rfl) ?_
            refine rg_q (q_load sz22 rfl rfl) ?_
            refine rg_q (q_move (x := .d (.v _)) rfl) ?_
            refine rg_q (q_indexAddr sl22 rfl rfl (by omega) (map_at (by omega) hx)) ?_
            refine rg_q (q_fieldAddr fld38_1 rfl) ?_
            refine rg_q (q_load sz3 rfl rfl) ?_
            refine rg_q (q_geq rfl rfl) ?_
            refine rg_nil ?_
            refine aops_nil ?_
            change Awp _ _ _ _ _
            refine awp_cond rfl (fun hc10 => ?_) (fun hc10 => ?_)
            ·
              (try simp only [decide_eq_true_eq, decide_eq_false_iff_not, Bool.and_eq_true, Bool.or_eq_true, Bool.and_eq_false_iff, Bool.or_eq_false_iff, Bool.not_eq_true', Bool.not_eq_false', Bool.not_true, Bool.not_false, bif_and, bif_or, Bool.not_not, ne_eq, Decidable.not_not, not_true_eq_false, not_false_eq_true, Int.not_le, Int.not_lt] at hc10)
              rw [if_pos hc10] at he
              have hz : ckEls 0 a.el = ((k : Int), 15) := by rw [hf, hd, he]; rfl
              rw [hz] at hu
              refine awp_seq ?_
              refine awp_region 3 mixed (by kernel_rfl) ?_
              refine rg_q (q_move (x := .d (.v _)) rfl) ?_
              refine rg_q (q_assign (x := .d (.v _)) rfl) ?_
              refine rg_q (q_assign (x := .d (.v _)) rfl) ?_
              refine rg_nil ?_
              refine aops_nil ?_
              change Awp _ _ _ _ _
              refine awp_ret ?_
              refine ⟨_, (.cons (.tmp (by exact .d _)) (.cons (.tmp (by exact .d _)) .nil)), ?_⟩
              rw [hu]; rfl
            ·
              (try simp only [decide_eq_true_eq, decide_eq_false_iff_not, Bool.and_eq_true, Bool.or_eq_true, Bool.and_eq_false_iff, Bool.or_eq_false_iff, Bool.not_eq_true', Bool.not_eq_false', Bool.not_true, Bool.not_false, bif_and, bif_or, Bool.not_not, ne_eq, Decidable.not_not, not_true_eq_false, not_false_eq_true, Int.not_le, Int.not_lt] at hc10)
              rw [if_neg (by omega)] at he
              refine awp_skip ?_
              change Awp _ _ _ _ _
              refine awp_region 3 mixed (by kernel_rfl) ?_
              refine rg_q (q_move (x := .d (.v _)) rfl) ?_
              refine rg_q (q_add rfl rfl (In64.mk (by omega) (by omega))) ?_
              refine rg_q (q_assign (x := .d (.v _)) rfl) ?_
              refine rg_nil ?_
              refine aops_nil ?_
              refine ⟨k + 1, ⟨by omega, by rw [hf, hd, if_neg (by rw [he]; simp)]⟩, by omega, ?_⟩
              exact le_head (ms := []) (by repeat (first | exact Out.head rfl rfl | (refine Out.put ?_ rfl))) ⟨(by rfl), trivial⟩ trivial rfl rfl rfl rfl
        ·
          (try simp only [decide_eq_true_eq, decide_eq_false_iff_not, Bool.and_eq_true, Bool.or_eq_true, Bool.and_eq_false_iff, Bool.or_eq_false_iff, Bool.not_eq_true', Bool.not_eq_false', Bool.not_true, Bool.not_false, bif_and, bif_or, Bool.not_not, ne_eq, Decidable.not_not, not_true_eq_false, not_false_eq_true, Int.not_le, Int.not_lt] at hc6)
          have hk0 : ckEls 0 a.el = (0, 0) := by rw [hf, List.drop_of_length_le (by omega)]; rfl
          rw [hk0, if_neg (by decide)] at hu
          refine awp_exit ?_
          change Awp _ _ _ _ _
          refine awp_seq ?_
          refine awp_seq ?_
          refine awp_region 4 mixed (by kernel_rfl) ?_
          refine rg_q (q_fieldAddr fld28_1 rfl) ?_
          refine rg_q (q_loadA (ds := [_, _, _, _]) sz24 rfl rfl rfl) ?_
          refine rg_q (q_call en56 (.cons rfl .nil) rfl (xcheckMode_p a.ou)) ?_
          refine rg_q (q_assign (x := .d (.v _)) rfl) ?_
          refine rg_nil ?_
          refine aops_nil ?_
          change Awp _ _ _ _ _
          refine awp_seq ?_
          refine awp_region 2 mixed (by kernel_rfl) ?_
          refine rg_q (q_move (x := .d (.v _)) rfl) ?_
          refine rg_q (q_neq rfl rfl) ?_
          refine rg_nil ?_
          refine aops_nil ?_
          change Awp _ _ _ _ _
          refine awp_cond rfl (fun hc13 => ?_) (fun hc13 => ?_)
          ·
            (try simp only [decide_eq_true_eq, decide_eq_false_iff_not, Bool.and_eq_true, Bool.or_eq_true, Bool.and_eq_false_iff, Bool.or_eq_false_iff, Bool.not_eq_true', Bool.not_eq_false', Bool.not_true, Bool.not_false, bif_and, bif_or, Bool.not_not, ne_eq, Decidable.not_not, not_true_eq_false, not_false_eq_true, Int.not_le, Int.not_lt] at hc13)
            rw [if_pos hc13] at h4
            refine awp_seq ?_
            refine awp_region 3 mixed (by kernel_rfl) ?_
            refine rg_q (q_move (x := .d (.v _)) rfl) ?_
            refine rg_q (q_assign (x := .d (.v _)) rfl) ?_
            refine rg_q (q_assign (x := .d (.v _)) rfl) ?_
            refine rg_nil ?_
            refine aops_nil ?_
            change Awp _ _ _ _ _
            refine awp_ret ?_
            refine ⟨_, (.cons (.tmp (by exact .d _)) (.cons (.tmp (by exact .d _)) .nil)), ?_⟩
            rw [hu, h4]; rfl
          ·
            (try simp only [decide_eq_true_eq, decide_eq_false_iff_not, Bool.and_eq_true, Bool.or_eq_true, Bool.and_eq_false_iff, Bool.or_eq_false_iff, Bool.not_eq_true', Bool.not_eq_false', Bool.not_true, Bool.not_false, bif_and, bif_or, Bool.not_not, ne_eq, Decidable.not_not, not_true_eq_false, not_false_eq_true, Int.not_le, Int.not_lt] at hc13)
            rw [if_neg (fun q => q hc13)] at h4
            refine awp_skip ?_
            change Awp _ _ _ _ _
            refine awp_seq ?_
            refine awp_seq ?_
            refine awp_region 4 mixed (by kernel_rfl) ?_
            refine rg_q (q_fieldAddr fld28_2 rfl) ?_
            refine rg_q (q_loadA (ds := [_, _, _, _]) sz24 rfl rfl rfl) ?_
            refine rg_q (q_call en56 (.cons rfl .nil) rfl (xcheckMode_p a.ba)) ?_
            refine rg_q (q_assign (x := .d (.v _)) rfl) ?_
            refine rg_nil ?_
            refine aops_nil ?_
            change Awp _ _ _ _ _
            refine awp_seq ?_
            refine awp_region 2 mixed (by kernel_rfl) ?_
            refine rg_q (q_move (x := .d (.v _)) rfl) ?_
            refine rg_q (q_neq rfl rfl) ?_
            refine rg_nil ?_
            refine aops_nil ?_
            change Awp _ _ _ _ _
            refine awp_cond rfl (fun hc16 => ?_) (fun hc16 => ?_)
            ·
              (try simp only [decide_eq_true_eq, decide_eq_false_iff_not, Bool.and_eq_true, Bool.or_eq_true, Bool.and_eq_false_iff, Bool.or_eq_false_iff, Bool.not_eq_true', Bool.not_eq_false', Bool.not_true, Bool.not_false, bif_and, bif_or, Bool.not_not, ne_eq, Decidable.not_not, not_true_eq_false, not_false_eq_true, Int.not_le, Int.not_lt] at hc16)
              rw [if_pos hc16] at h4
              refine awp_seq ?_
              refine awp_region 3 mixed (by kernel_rfl) ?_
              refine rg_q (q_move (x := .d (.v _)) rfl) ?_
              refine rg_q (q_assign (x := .d (.v _)) rfl) ?_
              refine rg_q (q_assign (x := .d (.v _)) rfl) ?_
              refine rg_nil ?_
              refine aops_nil ?_
              change Awp _ _ _ _ _
              refine awp_ret ?_
              refine ⟨_, (.cons (.tmp (by exact .d _)) (.cons (.tmp (by exact .d _)) .nil)), ?_⟩
              rw [hu, h4]; rfl
            ·
              (try simp only [decide_eq_true_eq, decide_eq_false_iff_not, Bool.and_eq_true, Bool.or_eq_true, Bool.and_eq_false_iff, Bool.or_eq_false_iff, Bool.not_eq_true', Bool.not_eq_false', Bool.not_true, Bool.not_false, bif_and, bif_or, Bool.not_not, ne_eq, Decidable.not_not, not_true_eq_false, not_false_eq_true, Int.not_le, Int.not_lt] at hc16)
              rw [if_neg (fun q => q hc16)] at h4
              refine awp_skip ?_
              change Awp _ _ _ _ _
              refine awp_seq ?_
              refine awp_seq ?_
              refine awp_region 7 mixed (by kernel_rfl) ?_
              refine rg_q (q_fieldAddr fld28_1 rfl) ?_
              refine rg_q (q_fieldAddr fld24_3 rfl) ?_
              refine rg_q (q_load sz3 rfl rfl) ?_
              refine rg_q (q_fieldAddr fld28_2 rfl) ?_
              refine rg_q (q_fieldAddr fld24_3 rfl) ?_
              refine rg_q (q_load sz3 rfl rfl) ?_
              refine rg_q (q_neq rfl rfl) ?_
              refine rg_nil ?_
              refine aops_nil ?_
              change Awp _ _ _ _ _
              refine awp_cond rfl (fun hc18 => ?_) (fun hc18 => ?_)
              ·
                (try simp only [decide_eq_true_eq, decide_eq_false_iff_not, Bool.and_eq_true, Bool.or_eq_true, Bool.and_eq_false_iff, Bool.or_eq_false_iff, Bool.not_eq_true', Bool.not_eq_false', Bool.not_true, Bool.not_false, bif_and, bif_or, Bool.not_not, ne_eq, Decidable.not_not, not_true_eq_false, not_false_eq_true, Int.not_le, Int.not_lt] at hc18)
                have hw : whenI (decide (a.ou.t ≠ a.ba.t)) 23 = 23 := by unfold whenI; rw [if_pos (decide_eq_true hc18)]
                rw [hw, if_pos (by decide)] at h4
                refine awp_seq ?_
                refine awp_region 2 mixed (by kernel_rfl) ?_
                refine rg_q (q_assign (x := .d (.v _)) rfl) ?_
                refine rg_q (q_assign (x := .d (.v _)) rfl) ?_
                refine rg_nil ?_
                refine aops_nil ?_
                change Awp _ _ _ _ _
                refine awp_ret ?_
                refine ⟨_, (.cons (.tmp (by exact .d _)) (.cons (.tmp (by exact .d _)) .nil)), ?_⟩
                rw [hu, h4]; rfl
              ·
                (try simp only [decide_eq_true_eq, decide_eq_false_iff_not, Bool.and_eq_true, Bool.or_eq_true, Bool.and_eq_false_iff, Bool.or_eq_false_iff, Bool.not_eq_true', Bool.not_eq_false', Bool.not_true, Bool.not_false, bif_and, bif_or, Bool.not_not, ne_eq, Decidable.not_not, not_true_eq_false, not_false_eq_true, Int.not_le, Int.not_lt] at hc18)
                have hw : whenI (decide (a.ou.t ≠ a.ba.t)) 23 = 0 := by unfold whenI; rw [if_neg (by simpa using hc18)]
                rw [hw, if_neg (by decide)] at h4
                refine awp_skip ?_
                change Awp _ _ _ _ _
                refine awp_seq ?_
                refine awp_region 5 mixed (by kernel_rfl) ?_
                refine rg_q (q_fieldAddr fld28_3 rfl) ?_
                refine rg_q (q_loadA (ds := [_, _]) sz26 rfl rfl rfl) ?_
                refine rg_q (q_call en57 (.cons rfl .nil) rfl (rcheckSampling_p _)) ?_
                refine rg_q (q_assign (x := .d (.v _)) rfl) ?_
                refine rg_q (q_assign (x := .d (.v _)) rfl) ?_
                refine rg_nil ?_
                refine aops_nil ?_
                change Awp _ _ _ _ _
                refine awp_ret ?_
                refine ⟨_, (.cons (.tmp (by exact .d _)) (.cons (.tmp (by exact .d _)) .nil)), ?_⟩
                rw [hu, h4]; rfl
set_option maxRecDepth 100000 in
theorem rpairErr_p (a : Arr) (p : Int × Int) (hl : a.el.length ≤ 1000) : PC Try.prog 35 [.agg (arrC a), .agg (shC p)] (.v (.int .i64 (pairE a.el.length p))) := by
  refine pc_of_awp Try.func35 rfl Try.ntmps35 (rs := [.tmp 4]) Try.results35 (by simp) fun w0 => ?_
  refine awp_seq ?_
  refine awp_region 3 mixed (by kernel_rfl) ?_
  refine rg_q (q_box rfl (by exact .inr ⟨_, rfl⟩)) ?_
  refine rg_q (q_box rfl (by exact .inr ⟨_, rfl⟩)) ?_
  refine rg_q (q_assign (x := .d (.v _)) rfl) ?_
  refine rg_nil ?_
  refine aops_nil ?_
  change Awp _ _ _ _ _
  refine awp_seq ?_
  refine awp_seq ?_
  refine awp_region 18 mixed (by kernel_rfl) ?_
  refine rg_q (q_indexAddr_ar ar75 rfl rfl (by omega) (by omega)) ?_
  refine rg_q (q_load sz3 rfl rfl) ?_
  refine rg_q (q_fieldAddr fld28_0 rfl) ?_
  refine rg_q (q_load sz22 rfl rfl) ?_
  refine rg_q (q_len isl22 rfl (by exact len_map _ _)) ?_
  refine rg_q (q_sub rfl rfl (In64.mk (by omega) (by omega))) ?_
  refine rg_q (q_call en33 (.cons rfl (.cons rfl (.cons rfl .nil))) rfl (within4_p _ _ _)) ?_
  refine rg_q (q_not rfl) ?_
  refine rg_q (q_move (x := .d (.v _)) rfl) ?_
  refine rg_g rfl rfl (fun hG => (q_indexAddr_ar ar75 rfl rfl (by (have hg0 := T.bool_inj (a := _) hG.1; (try simp only [decide_eq_true_eq, decide_eq_false_iff_not, Bool.and_eq_true, Bool.or_eq_true, Bool.and_eq_false_iff, Bool.or_eq_false_iff, Bool.not_eq_true', Bool.not_eq_false', Bool.not_true, Bool.not_false, bif_and, bif_or, Bool.not_not, ne_eq, Decidable.not_not, not_true_eq_false, not_false_eq_true, Int.not_le, Int.not_lt] at hg0); omega)) (by (have hg0 := T.bool_inj (a := _) hG.1; (try simp only [decide_eq_true_eq, decide_eq_false_iff_not, Bool.and_eq_true, Bool.or_eq_true, Bool.and_eq_false_iff, Bool.or_eq_false_iff, Bool.not_eq_true', Bool.not_eq_false', Bool.not_true, Bool.not_false, bif_and, bif_or, Bool.not_not, ne_eq, Decidable.not_not, not_true_eq_false, not_false_eq_true, Int.not_le, Int.not_lt] at hg0); omega)))) ?_
  refine rg_g rfl rfl (fun hG => (q_load sz3 rfl rfl)) ?_
  refine rg_g rfl rfl (fun hG => (q_fieldAddr fld28_0 rfl)) ?_
  refine rg_g rfl rfl (fun hG => (q_load sz22 rfl rfl)) ?_
  refine rg_g rfl rfl (fun hG => (q_len isl22 rfl (by exact len_map _ _))) ?_
  refine rg_g rfl rfl (fun hG => (q_sub rfl rfl (In64.mk (by (have hg0 := T.bool_inj (a := _) hG.1; (try simp only [decide_eq_true_eq, decide_eq_false_iff_not, Bool.and_eq_true, Bool.or_eq_true, Bool.and_eq_false_iff, Bool.or_eq_false_iff, Bool.not_eq_true', Bool.not_eq_false', Bool.not_true, Bool.not_false, bif_and, bif_or, Bool.not_not, ne_eq, Decidable.not_not, not_true_eq_false, not_false_eq_true, Int.not_le, Int.not_lt] at hg0); omega)) (by (have hg0 := T.bool_inj (a := _) hG.1; (try simp only [decide_eq_true_eq, decide_eq_false_iff_not, Bool.and_eq_true, Bool.or_eq_true, Bool.and_eq_false_iff, Bool.or_eq_false_iff, Bool.not_eq_true', Bool.not_eq_false', Bool.not_true, Bool.not_false, bif_and, bif_or, Bool.not_not, ne_eq, Decidable.not_not, not_true_eq_false, not_false_eq_true, Int.not_le, Int.not_lt] at hg0); omega))))) ?_
  refine rg_g rfl rfl (fun hG => (q_call en33 (.cons rfl (.cons rfl (.cons rfl .nil))) rfl (within4_p _ _ _))) ?_
  refine rg_g rfl rfl (fun hG => (q_not rfl)) ?_
  refine rg_pick rfl rfl rfl rfl rfl rfl ?_
  refine rg_nil ?_
  refine aops_nil ?_
  change Awp _ _ _ _ _
  refine awp_len (t := 8) rfl (fun hl8 => ?_)
  (try simp only [List.length_map] at hl8)
  refine awp_cond rfl (fun hc1 => ?_) (fun hc1 => ?_)
  ·
    (try simp only [decide_eq_true_eq, decide_eq_false_iff_not, Bool.and_eq_true, Bool.or_eq_true, Bool.and_eq_false_iff, Bool.or_eq_false_iff, Bool.not_eq_true', Bool.not_eq_false', Bool.not_true, Bool.not_false, bif_and, bif_or, Bool.not_not, ne_eq, Decidable.not_not, not_true_eq_false, not_false_eq_true, Int.not_le, Int.not_lt] at hc1)
    have hz : pairE a.el.length p = 6 := by unfold pairE whenI; rw [if_pos (by rcases hc1 with q | q <;> simp [q])]
    refine awp_seq ?_
    refine awp_region 1 mixed (by kernel_rfl) ?_
    refine rg_q (q_assign (x := .d (.v _)) rfl) ?_
    refine rg_nil ?_
    refine aops_nil ?_
    change Awp _ _ _ _ _
    refine awp_ret ?_
    refine ⟨_, (.cons (.tmp (by exact .d _)) .nil), ?_⟩
    rw [hz]; rfl
  ·
    (try simp only [decide_eq_true_eq, decide_eq_false_iff_not, Bool.and_eq_true, Bool.or_eq_true, Bool.and_eq_false_iff, Bool.or_eq_false_iff, Bool.not_eq_true', Bool.not_eq_false', Bool.not_true, Bool.not_false, bif_and, bif_or, Bool.not_not, ne_eq, Decidable.not_not, not_true_eq_false, not_false_eq_true, Int.not_le, Int.not_lt] at hc1)
    have hz : pairE a.el.length p = 0 := by unfold pairE whenI; rw [if_neg (by simp_all)]
    refine awp_skip ?_
    change Awp _ _ _ _ _
    refine awp_seq ?_
    refine awp_region 1 mixed (by kernel_rfl) ?_
    refine rg_q (q_assign (x := .d (.v _)) rfl) ?_
    refine rg_nil ?_
    refine aops_nil ?_
    change Awp _ _ _ _ _
    refine awp_ret ?_
    refine ⟨_, (.cons (.tmp (by exact .d _)) .nil), ?_⟩
    rw [hz]; rfl

theorem plateE_is (z t : Int) : plateE z t = if inR 1 z (t - 1) = true then 0 else 22 := rfl
theorem flE_is (t : Int) (x : Flw) : flE t x = if flwE x ≠ 0 then flwE x else if inR 1 x.at_.2 (t - 1) = false ∨ (x.kd = 1 ∧ inR 1 x.to_.2 (t - 1) = false) then 22 else 0 := by
  unfold flE
  by_cases h0 : flwE x = 0
  · have hr : ∀ a b : Int, (if flwE x ≠ 0 then a else b) = b := fun a b => if_neg (fun q => q h0)
    rw [hr]
    by_cases h1 : inR 1 x.at_.2 (t - 1) = true
    · have e : firstE [flwE x, plateE x.at_.2 t] = 0 := by
        unfold firstE; rw [if_pos h0]
        unfold firstE; rw [if_pos (by rw [plateE_is, if_pos h1])]; rfl
      by_cases hk : x.kd = 1
      · rw [if_pos ⟨e, hk⟩, plateE_is]
        by_cases h2 : inR 1 x.to_.2 (t - 1) = true
        · rw [if_pos h2, if_neg]
          rintro (q | ⟨_, q⟩)
          · rw [h1] at q; cases q
          · rw [h2] at q; cases q
        · rw [if_neg h2, if_pos (.inr ⟨hk, by simpa using h2⟩)]
      · rw [if_neg (fun q => hk q.2), e, if_neg]
        rintro (q | ⟨q, _⟩)
        · rw [h1] at q; cases q
        · exact hk q
    · have e : firstE [flwE x, plateE x.at_.2 t] = 22 := by
        unfold firstE; rw [if_pos h0]
        unfold firstE; rw [plateE_is, if_neg h1]; rfl
      rw [if_neg (fun q => by rw [e] at q; exact absurd q.1 (by decide)), e, if_pos (.inl (by simpa using h1))]
  · have e : firstE [flwE x, plateE x.at_.2 t] = flwE x := by unfold firstE; rw [if_neg h0]
    have hr : ∀ a b : Int, (if flwE x ≠ 0 then a else b) = a := fun a b => if_pos h0
    rw [hr, if_neg (fun q => h0 (e ▸ q.1)), e]
set_option maxRecDepth 100000 in
theorem rcheckSpc_p (s : Spc) : PC Try.prog 25 [.agg (spcC s)] (.tup [.v (.int .i64 ((ckSpc s).1)), .v (.int .i64 ((ckSpc s).2))]) := by
  have hu : ckSpc s = if (ckArr s.ar).2 ≠ 0 then ckArr s.ar else if spcE0 s ≠ 0 then (0, spcE0 s) else ckFls s.ar.ou.t 0 s.fl := rfl
  have h2 : spcE0 s = if plsE s.pl ≠ 0 then plsE s.pl else whenI (decide (10 < (s.fl.length : Int))) 8 := by
    unfold spcE0 firstE
    by_cases q : plsE s.pl = 0
    · rw [if_pos q, if_neg (fun h => h q)]
      unfold firstE
      split
      · rename_i q2; rw [q2]; rfl
      · rfl
    · rw [if_neg q, if_pos q]
  refine pc_of_awp Try.func25 rfl Try.ntmps25 (rs := [.tmp 2, .tmp 3]) Try.results25 (by simp) fun w0 => ?_
  refine awp_seq ?_
  refine awp_region 3 mixed (by kernel_rfl) ?_
  refine rg_q (q_box rfl (by exact .inr ⟨_, rfl⟩)) ?_
  refine rg_q (q_assign (x := .d (.v _)) rfl) ?_
  refine rg_q (q_assign (x := .d (.v _)) rfl) ?_
  refine rg_nil ?_
  refine aops_nil ?_
  change Awp _ _ _ _ _
  refine awp_seq ?_
  refine awp_seq ?_
  refine awp_region 8 mixed (by kernel_rfl) ?_
  refine rg_q (q_fieldAddr fld54_0 rfl) ?_
  refine rg_q (q_loadA (ds := [_, _, _, _, _, _, _, _, _, _, _]) sz28 rfl rfl rfl) ?_
  refine rg_q (q_call en16 (.cons rfl .nil) rfl (rcheckArr_p s.ar)) ?_
  refine rg_q (q_move (x := .d (.tup _)) rfl) ?_
  refine rg_q (q_extract rfl rfl) ?_
  refine rg_q (q_extract rfl rfl) ?_
  refine rg_q (q_assign (x := .d (.v _)) rfl) ?_
  refine rg_q (q_assign (x := .d (.v _)) rfl) ?_
  refine rg_nil ?_
  refine aops_nil ?_
  change Awp _ _ _ _ _
  refine awp_seq ?_
  refine awp_region 2 mixed (by kernel_rfl) ?_
  refine rg_q (q_move (x := .d (.v _)) rfl) ?_
  refine rg_q (q_neq rfl rfl) ?_
  refine rg_nil ?_
  refine aops_nil ?_
  change Awp _ _ _ _ _
  refine awp_cond rfl (fun hc2 => ?_) (fun hc2 => ?_)
  ·
    (try simp only [decide_eq_true_eq, decide_eq_false_iff_not, Bool.and_eq_true, Bool.or_eq_true, Bool.and_eq_false_iff, Bool.or_eq_false_iff, Bool.not_eq_true', Bool.not_eq_false', Bool.not_true, Bool.not_false, bif_and, bif_or, Bool.not_not, ne_eq, Decidable.not_not, not_true_eq_false, not_false_eq_true, Int.not_le, Int.not_lt] at hc2)
    rw [if_pos hc2] at hu
    refine awp_seq ?_
    refine awp_region 4 mixed (by kernel_rfl) ?_
    refine rg_q (q_move (x := .d (.v _)) rfl) ?_
    refine rg_q (q_move (x := .d (.v _)) rfl) ?_
    refine rg_q (q_assign (x := .d (.v _)) rfl) ?_
    refine rg_q (q_assign (x := .d (.v _)) rfl) ?_
    refine rg_nil ?_
    refine aops_nil ?_
    change Awp _ _ _ _ _
    refine awp_ret ?_
    refine ⟨_, (.cons (.tmp (by exact .d _)) (.cons (.tmp (by exact .d _)) .nil)), ?_⟩
    rw [hu]; rfl
  ·
    (try simp only [decide_eq_true_eq, decide_eq_false_iff_not, Bool.and_eq_true, Bool.or_eq_true, Bool.and_eq_false_iff, Bool.or_eq_false_iff, Bool.not_eq_true', Bool.not_eq_false', Bool.not_true, Bool.not_false, bif_and, bif_or, Bool.not_not, ne_eq, Decidable.not_not, not_true_eq_false, not_false_eq_true, Int.not_le, Int.not_lt] at hc2)
    have hck : (ckArr s.ar).2 = 0 := by simpa using hc2
    have hok := (ckArr_ok hck).1
    have ht1 := hok.ou.t1
    have ht2 := hok.ou.t2
    rw [if_neg (fun q => q hck)] at hu
    refine awp_skip ?_
    change Awp _ _ _ _ _
    refine awp_seq ?_
    refine awp_seq ?_
    refine awp_region 4 mixed (by kernel_rfl) ?_
    refine rg_q (q_fieldAddr fld54_1 rfl) ?_
    refine rg_q (q_load sz51 rfl rfl) ?_
    refine rg_q (q_call en66 (.cons rfl .nil) rfl (rpulseErr_p _)) ?_
    refine rg_q (q_assign (x := .d (.v _)) rfl) ?_
    refine rg_nil ?_
    refine aops_nil ?_
    change Awp _ _ _ _ _
    refine awp_seq ?_
    refine awp_region 2 mixed (by kernel_rfl) ?_
    refine rg_q (q_move (x := .d (.v _)) rfl) ?_
    refine rg_q (q_neq rfl rfl) ?_
    refine rg_nil ?_
    refine aops_nil ?_
    change Awp _ _ _ _ _
    refine awp_cond rfl (fun hc5 => ?_) (fun hc5 => ?_)
    ·
      (try simp only [decide_eq_true_eq, decide_eq_false_iff_not, Bool.and_eq_true, Bool.or_eq_true, Bool.and_eq_false_iff, Bool.or_eq_false_iff, Bool.not_eq_true', Bool.not_eq_false', Bool.not_true, Bool.not_false, bif_and, bif_or, Bool.not_not, ne_eq, Decidable.not_not, not_true_eq_false, not_false_eq_true, Int.not_le, Int.not_lt] at hc5)
      rw [if_pos hc5] at h2
      rw [h2, if_pos hc5] at hu
      refine awp_seq ?_
      refine awp_region 3 mixed (by kernel_rfl) ?_
      refine rg_q (q_move (x := .d (.v _)) rfl) ?_
      refine rg_q (q_assign (x := .d (.v _)) rfl) ?_
      refine rg_q (q_assign (x := .d (.v _)) rfl) ?_
      refine rg_nil ?_
      refine aops_nil ?_
      change Awp _ _ _ _ _
      refine awp_ret ?_
      refine ⟨_, (.cons (.tmp (by exact .d _)) (.cons (.tmp (by exact .d _)) .nil)), ?_⟩
      rw [hu]; rfl
    ·
      (try simp only [decide_eq_true_eq, decide_eq_false_iff_not, Bool.and_eq_true, Bool.or_eq_true, Bool.and_eq_false_iff, Bool.or_eq_false_iff, Bool.not_eq_true', Bool.not_eq_false', Bool.not_true, Bool.not_false, bif_and, bif_or, Bool.not_not, ne_eq, Decidable.not_not, not_true_eq_false, not_false_eq_true, Int.not_le, Int.not_lt] at hc5)
      rw [if_neg (fun q => q hc5)] at h2
      refine awp_skip ?_
      change Awp _ _ _ _ _
      refine awp_seq ?_
      refine awp_seq ?_
      refine awp_region 4 mixed (by kernel_rfl) ?_
      refine rg_q (q_fieldAddr fld54_2 rfl) ?_
      refine rg_q (q_load sz52 rfl rfl) ?_
      refine rg_q (q_len isl52 rfl (by exact len_map _ _)) ?_
      refine rg_q (q_gtr rfl rfl) ?_
      refine rg_nil ?_
      refine aops_nil ?_
      change Awp _ _ _ _ _
      refine awp_len (t := 27) rfl (fun hl27 => ?_)
      (try simp only [List.length_map] at hl27)
      refine awp_cond rfl (fun hc7 => ?_) (fun hc7 => ?_)
      ·
        (try simp only [decide_eq_true_eq, decide_eq_false_iff_not, Bool.and_eq_true, Bool.or_eq_true, Bool.and_eq_false_iff, Bool.or_eq_false_iff, Bool.not_eq_true', Bool.not_eq_false', Bool.not_true, Bool.not_false, bif_and, bif_or, Bool.not_not, ne_eq, Decidable.not_not, not_true_eq_false, not_false_eq_true, Int.not_le, Int.not_lt] at hc7)
        have hw : whenI (decide (10 < (s.fl.length : Int))) 8 = 8 := by unfold whenI; rw [if_pos (decide_eq_true hc7)]
        rw [h2, hw, if_pos (by decide)] at hu
        refine awp_seq ?_
        refine awp_region 2 mixed (by kernel_rfl) ?_
        refine rg_q (q_assign (x := .d (.v _)) rfl) ?_
        refine rg_q (q_assign (x := .d (.v _)) rfl) ?_
        refine rg_nil ?_
        refine aops_nil ?_
        change Awp _ _ _ _ _
        refine awp_ret ?_
        refine ⟨_, (.cons (.tmp (by exact .d _)) (.cons (.tmp (by exact .d _)) .nil)), ?_⟩
        rw [hu]; rfl
      ·
        (try simp only [decide_eq_true_eq, decide_eq_false_iff_not, Bool.and_eq_true, Bool.or_eq_true, Bool.and_eq_false_iff, Bool.or_eq_false_iff, Bool.not_eq_true', Bool.not_eq_false', Bool.not_true, Bool.not_false, bif_and, bif_or, Bool.not_not, ne_eq, Decidable.not_not, not_true_eq_false, not_false_eq_true, Int.not_le, Int.not_lt] at hc7)
        have hw : whenI (decide (10 < (s.fl.length : Int))) 8 = 0 := by unfold whenI; rw [if_neg (by simpa using hc7)]
        rw [h2, hw, if_neg (by decide)] at hu
        refine awp_skip ?_
        change Awp _ _ _ _ _
        refine awp_seq ?_
        refine awp_seq ?_
        refine awp_region 1 mixed (by kernel_rfl) ?_
        refine rg_q (q_assign (x := .d (.v _)) rfl) ?_
        refine rg_nil ?_
        refine aops_nil ?_
        change Awp _ _ _ _ _
        refine awp_block ?_
        refine awp_loopH [2, 3, 7, 8, 9, 30, 31, 32, 33, 34, 35, 36, 37, 38, 39, 40, 41, 42, 43, 44, 45, 46, 47, 48, 49, 50, 51, 52, 53, 54, 55, 56, 57, 58, 59, 60, 61, 62, 63, 64, 65, 66, 67, 68, 69] [] (α := Nat) (fun k => [(7, T.i (k : Int))]) (fun k => []) (fun k => k ≤ s.fl.length ∧ ckFls s.ar.ou.t 0 s.fl = ckFls s.ar.ou.t k (s.fl.drop k)) (fun k => s.fl.length - k) 0 ⟨Nat.zero_le _, rfl⟩ ?_ ?_
        · exact le_head (ms := []) (by repeat (exact Out.refl _)) ⟨(by rfl), trivial⟩ trivial rfl rfl rfl rfl
        ·
          intro k ⟨hk, hf⟩
          refine awp_seq ?_
          refine awp_seq ?_
          refine awp_region 5 mixed (by kernel_rfl) ?_
          refine rg_q (q_move (x := .d (.v _)) rfl) ?_
          refine rg_q (q_fieldAddr fld54_2 rfl) ?_
          refine rg_q (q_load sz52 rfl rfl) ?_
          refine rg_q (q_len isl52 rfl (by exact len_map _ _)) ?_
          refine rg_q (q_lss rfl rfl) ?_
          refine rg_nil ?_
          refine aops_nil ?_
          change Awp _ _ _ _ _
          refine awp_len (t := 32) rfl (fun hl32 => ?_)
          (try simp only [List.length_map] at hl32)
          refine awp_cond rfl (fun hc10 => ?_) (fun hc10 => ?_)
          ·
            (try simp only [decide_eq_true_eq, decide_eq_false_iff_not, Bool.and_eq_true, Bool.or_eq_true, Bool.and_eq_false_iff, Bool.or_eq_false_iff, Bool.not_eq_true', Bool.not_eq_false', Bool.not_true, Bool.not_false, bif_and, bif_or, Bool.not_not, ne_eq, Decidable.not_not, not_true_eq_false, not_false_eq_true, Int.not_le, Int.not_lt] at hc10)
            have hlt : k < s.fl.length := by omega
            obtain ⟨x, hx⟩ : ∃ x, s.fl[k]? = some x := ⟨_, List.getElem?_eq_getElem hlt⟩
            have hd := ckFls_at (t := s.ar.ou.t) hx
            have he := flE_is s.ar.ou.t x
            refine awp_skip ?_
            change Awp _ _ _ _ _
            refine awp_seq ?_
            refine awp_block ?_
            refine awp_seq ?_
            refine awp_region 5 mixed (by kernel_rfl) ?_
            refine rg_q (q_fieldAddr fld54_2 rfl) ?_
            refine rg_q (q_load sz52 rfl rfl) ?_
            refine rg_q (q_move (x := .d (.v _)) rfl) ?_
            refine rg_q (q_indexAddr sl52 rfl rfl (by omega) (map_at (by omega) hx)) ?_
            refine rg_q (q_loadA (ds := [_, _, _, _, _, _, _, _]) sz40 rfl rfl rfl) ?_
            refine rg_nil ?_
            refine aops_alloc zr40 rfl rfl rfl ?_
            refine aops_store sz40 rfl rfl (by exact .inr ⟨_, rfl⟩) rfl rfl (by decide) rfl ?_
            refine aops_nil ?_
            change Awp _ _ _ _ _
            refine awp_seq ?_
            refine awp_seq ?_
            refine awp_region 3 mixed (by kernel_rfl) ?_
            refine rg_q (q_load_refA (ds := [_, _, _, _, _, _, _, _]) sz40 rfl rfl rfl rfl) ?_
            refine rg_q (q_call en18 (.cons rfl .nil) rfl (rcheckFlaw_p x)) ?_
            refine rg_q (q_assign (x := .d (.v _)) rfl) ?_
            refine rg_nil ?_
            refine aops_nil ?_
            change Awp _ _ _ _ _
            refine awp_seq ?_
            refine awp_region 2 mixed (by kernel_rfl) ?_
            refine rg_q (q_move (x := .d (.v _)) rfl) ?_
            refine rg_q (q_neq rfl rfl) ?_
            refine rg_nil ?_
            refine aops_nil ?_
            change Awp _ _ _ _ _
            refine awp_cond rfl (fun hc14 => ?_) (fun hc14 => ?_)
            ·
              (try simp only [decide_eq_true_eq, decide_eq_false_iff_not, Bool.and_eq_true, Bool.or_eq_true, Bool.and_eq_false_iff, Bool.or_eq_false_iff, Bool.not_eq_true', Bool.not_eq_false', Bool.not_true, Bool.not_false, bif_and, bif_or, Bool.not_not, ne_eq, Decidable.not_not, not_true_eq_false, not_false_eq_true, Int.not_le, Int.not_lt] at hc14)
              rw [if_pos hc14] at he
              refine awp_seq ?_
              refine awp_region 4 mixed (by kernel_rfl) ?_
              refine rg_q (q_move (x := .d (.v _)) rfl) ?_
              refine rg_q (q_move (x := .d (.v _)) rfl) ?_
              refine rg_q (q_assign (x := .d (.v _)) rfl) ?_
              refine rg_q (q_assign (x := .d (.v _)) rfl) ?_
              refine rg_nil ?_
              refine aops_nil ?_
              change Awp _ _ _ _ _
              refine awp_ret ?_
              refine ⟨_, (.cons (.tmp (by exact .d _)) (.cons (.tmp (by exact .d _)) .nil)), ?_⟩
              rw [hu, hf, hd, he, if_pos hc14]; rfl
            ·
              (try simp only [decide_eq_true_eq, decide_eq_false_iff_not, Bool.and_eq_true, Bool.or_eq_true, Bool.and_eq_false_iff, Bool.or_eq_false_iff, Bool.not_eq_true', Bool.not_eq_false', Bool.not_true, Bool.not_false, bif_and, bif_or, Bool.not_not, ne_eq, Decidable.not_not, not_true_eq_false, not_false_eq_true, Int.not_le, Int.not_lt] at hc14)
              rw [if_neg (fun q => q hc14)] at he
              refine awp_skip ?_
              change Awp _ _ _ _ _
              refine awp_seq ?_
              refine awp_region 21 mixed (by kernel_rfl) ?_
              refine rg_q (q_fieldAddr fld54_0 rfl) ?_
              refine rg_q (q_loadA (ds := [_, _, _, _, _, _, _, _, _, _, _]) sz28 rfl rfl rfl) ?_
              refine rg_q (q_fieldAddr_ref fld40_1 rfl) ?_
              refine rg_q (q_fieldAddr_ref fld38_1 rfl) ?_
              refine rg_q (q_load_ref sz3 rfl rfl rfl) ?_
              refine rg_q (q_call en67 (.cons rfl (.cons rfl .nil)) rfl (inPlate_p _ _ ht1 ht2)) ?_
              refine rg_q (q_not rfl) ?_
              refine rg_q (q_move (x := .d (.v _)) rfl) ?_
              refine rg_g rfl rfl (fun hG => (q_fieldAddr_ref fld40_0 rfl)) ?_
              refine rg_g rfl rfl (fun hG => (q_load_ref sz3 rfl rfl rfl)) ?_
              refine rg_g rfl rfl (fun hG => (q_eql rfl rfl)) ?_
              refine rg_g rfl rfl (fun hG => (q_move (x := .d (.v _)) rfl)) ?_
              refine rg_g rfl rfl (fun hG => (q_fieldAddr fld54_0 rfl)) ?_
              refine rg_g rfl rfl (fun hG => (q_loadA (ds := [_, _, _, _, _, _, _, _, _, _, _]) sz28 rfl rfl rfl)) ?_
              refine rg_g rfl rfl (fun hG => (q_fieldAddr_ref fld40_2 rfl)) ?_
              refine rg_g rfl rfl (fun hG => (q_fieldAddr_ref fld38_1 rfl)) ?_
              refine rg_g rfl rfl (fun hG => (q_load_ref sz3 rfl rfl rfl)) ?_
              refine rg_g rfl rfl (fun hG => (q_call en67 (.cons rfl (.cons rfl .nil)) rfl (inPlate_p _ _ ht1 ht2))) ?_
              refine rg_g rfl rfl (fun hG => (q_not rfl)) ?_
              refine rg_pickg rfl rfl rfl rfl rfl rfl rfl rfl ?_
              refine rg_pick rfl rfl rfl rfl rfl rfl ?_
              refine rg_nil ?_
              refine aops_nil ?_
              change Awp _ _ _ _ _
              refine awp_cond rfl (fun hc16 => ?_) (fun hc16 => ?_)
              ·
                (try simp only [decide_eq_true_eq, decide_eq_false_iff_not, Bool.and_eq_true, Bool.or_eq_true, Bool.and_eq_false_iff, Bool.or_eq_false_iff, Bool.not_eq_true', Bool.not_eq_false', Bool.not_true, Bool.not_false, bif_and, bif_or, Bool.not_not, ne_eq, Decidable.not_not, not_true_eq_false, not_false_eq_true, Int.not_le, Int.not_lt] at hc16)
                rw [if_pos hc16] at he
                refine awp_seq ?_
                refine awp_region 3 mixed (by kernel_rfl) ?_
                refine rg_q (q_move (x := .d (.v _)) rfl) ?_
                refine rg_q (q_assign (x := .d (.v _)) rfl) ?_
                refine rg_q (q_assign (x := .d (.v _)) rfl) ?_
                refine rg_nil ?_
                refine aops_nil ?_
                change Awp _ _ _ _ _
                refine awp_ret ?_
                refine ⟨_, (.cons (.tmp (by exact .d _)) (.cons (.tmp (by exact .d _)) .nil)), ?_⟩
                rw [hu, hf, hd, he]; rfl
              ·
                (try simp only [decide_eq_true_eq, decide_eq_false_iff_not, Bool.and_eq_true, Bool.or_eq_true, Bool.and_eq_false_iff, Bool.or_eq_false_iff, Bool.not_eq_true', Bool.not_eq_false', Bool.not_true, Bool.not_false, bif_and, bif_or, Bool.not_not, ne_eq, Decidable.not_not, not_true_eq_false, not_false_eq_true, Int.not_le, Int.not_lt] at hc16)
                rw [if_neg (fun q => q.elim (fun q => by rw [hc16.1] at q; cases q) (fun q => hc16.2.elim (fun z => z q.1) (fun z => by rw [z] at q; cases q.2)))] at he
                refine awp_skip ?_
                change Awp _ _ _ _ _
                refine awp_region 3 mixed (by kernel_rfl) ?_
                refine rg_q (q_move (x := .d (.v _)) rfl) ?_
                refine rg_q (q_add rfl rfl (In64.mk (by omega) (by omega))) ?_
                refine rg_q (q_assign (x := .d (.v _)) rfl) ?_
                refine rg_nil ?_
                refine aops_nil ?_
                refine ⟨k + 1, ⟨by omega, by rw [hf, hd, if_neg (by rw [he]; simp)]⟩, by omega, ?_⟩
                exact le_head (ms := []) (by repeat (first | exact Out.head rfl rfl | (refine Out.put ?_ rfl) | (refine Out.site ?_ rfl))) ⟨(by rfl), trivial⟩ trivial rfl rfl rfl rfl
          ·
            (try simp only [decide_eq_true_eq, decide_eq_false_iff_not, Bool.and_eq_true, Bool.or_eq_true, Bool.and_eq_false_iff, Bool.or_eq_false_iff, Bool.not_eq_true', Bool.not_eq_false', Bool.not_true, Bool.not_false, bif_and, bif_or, Bool.not_not, ne_eq, Decidable.not_not, not_true_eq_false, not_false_eq_true, Int.not_le, Int.not_lt] at hc10)
            have hk0 : ckFls s.ar.ou.t 0 s.fl = (0, 0) := by rw [hf, List.drop_of_length_le (by omega)]; rfl
            rw [hk0] at hu
            refine awp_exit ?_
            change Awp _ _ _ _ _
            refine awp_seq ?_
            refine awp_region 2 mixed (by kernel_rfl) ?_
            refine rg_q (q_assign (x := .d (.v _)) rfl) ?_
            refine rg_q (q_assign (x := .d (.v _)) rfl) ?_
            refine rg_nil ?_
            refine aops_nil ?_
            change Awp _ _ _ _ _
            refine awp_ret ?_
            refine ⟨_, (.cons (.tmp (by exact .d _)) (.cons (.tmp (by exact .d _)) .nil)), ?_⟩
            rw [hu]; rfl
set_option maxRecDepth 100000 in
theorem specimenErr_p (s : Spc) : PC Try.prog 34 [.agg (spcC s)] (.v (.int .i64 ((ckSpc s).2))) := by
  refine pc_of_awp Try.func34 rfl Try.ntmps34 (rs := [.tmp 2]) Try.results34 (by simp) fun w0 => ?_
  refine awp_seq ?_
  refine awp_region 2 mixed (by kernel_rfl) ?_
  refine rg_q (q_box rfl (by exact .inr ⟨_, rfl⟩)) ?_
  refine rg_q (q_assign (x := .d (.v _)) rfl) ?_
  refine rg_nil ?_
  refine aops_nil ?_
  change Awp _ _ _ _ _
  refine awp_seq ?_
  refine awp_region 7 mixed (by kernel_rfl) ?_
  refine rg_q (q_loadA sz54 rfl rfl rfl) ?_
  refine rg_q (q_call en25 (.cons rfl .nil) rfl (rcheckSpc_p _)) ?_
  refine rg_q (q_move (x := .d (.tup _)) rfl) ?_
  refine rg_q (q_extract rfl rfl) ?_
  refine rg_q (q_extract rfl rfl) ?_
  refine rg_q (q_assign (x := .d (.v _)) rfl) ?_
  refine rg_q (q_assign (x := .d (.v _)) rfl) ?_
  refine rg_nil ?_
  refine aops_nil ?_
  change Awp _ _ _ _ _
  refine awp_seq ?_
  refine awp_region 2 mixed (by kernel_rfl) ?_
  refine rg_q (q_move (x := .d (.v _)) rfl) ?_
  refine rg_q (q_assign (x := .d (.v _)) rfl) ?_
  refine rg_nil ?_
  refine aops_nil ?_
  change Awp _ _ _ _ _
  refine awp_ret ?_
  refine ⟨_, (.cons (.tmp (by exact .d _)) .nil), ?_⟩
  rfl
set_option maxRecDepth 100000 in
theorem copySpots_p (l : List (Int × Int)) (hl : l.length ≤ 1000) : PC Try.prog 54 [.sl 2 (l.map shC)] (.sl 2 (l.map shC)) := by
  refine pc_of_awp Try.func54 rfl Try.ntmps54 (rs := [.tmp 2]) Try.results54 (by simp) fun w0 => ?_
  refine awp_seq ?_
  refine awp_region 1 mixed (by kernel_rfl) ?_
  refine rg_q (q_assign (x := .d (.sl _ _)) rfl) ?_
  refine rg_nil ?_
  refine aops_nil ?_
  change Awp _ _ _ _ _
  refine awp_seq ?_
  refine awp_region 4 mixed (by kernel_rfl) ?_
  refine rg_q (q_empty0 sl22 zr38) ?_
  refine rg_q (q_move (x := .d (.sl _ _)) rfl) ?_
  refine rg_q (q_append0 sl22 zr38 by38 rfl (by decide) rfl rfl rfl (by (try simp only [List.length_map]); omega) (by (try simp only [List.length_map]); omega)) ?_
  refine rg_q (q_assign (x := .d (.sl _ _)) rfl) ?_
  refine rg_nil ?_
  refine aops_nil ?_
  change Awp _ _ _ _ _
  refine awp_ret ?_
  refine ⟨_, (.cons (.tmp (by exact .d _)) .nil), ?_⟩
  rfl
set_option maxRecDepth 100000 in
theorem copyArr_p (a : Arr) (hl : a.el.length ≤ 1000) : PC Try.prog 15 [.agg (arrC a)] (.agg (arrC a)) := by
  refine pc_of_awp Try.func15 rfl Try.ntmps15 (rs := [.cell 2 28]) Try.results15 (by simp) fun w0 => ?_
  refine awp_seq ?_
  refine awp_region 0 mixed (by kernel_rfl) ?_
  refine rg_nil ?_
  refine aops_box (X := .agg (arrC a)) rfl (by exact .inr ⟨_, rfl⟩) rfl rfl rfl ?_
  refine aops_alloc zr28 rfl rfl rfl ?_
  refine aops_nil ?_
  change Awp _ _ _ _ _
  refine awp_seq ?_
  refine awp_region 4 mixed (by kernel_rfl) ?_
  refine rg_q (q_fieldAddr_ref fld28_0 rfl) ?_
  refine rg_q (q_load_ref sz22 rfl rfl rfl) ?_
  refine rg_q (q_call en54 (.cons rfl .nil) rfl (copySpots_p _ (by omega))) ?_
  refine rg_q (q_fieldAddr_ref fld28_0 rfl) ?_
  refine rg_nil ?_
  refine aops_store sz22 rfl rfl (by exact .inl rfl) rfl rfl (by exact Nat.le_of_ble_eq_true rfl) rfl ?_
  refine aops_nil ?_
  change Awp _ _ _ _ _
  refine awp_seq ?_
  refine awp_region 1 mixed (by kernel_rfl) ?_
  refine rg_q (q_load_refA (ds := [_, _, _, _, _, _, _, _, _, _, _]) sz28 rfl rfl rfl rfl) ?_
  refine rg_nil ?_
  refine aops_store sz28 rfl rfl (by exact .inr ⟨_, rfl⟩) rfl rfl (by decide) rfl ?_
  refine aops_nil ?_
  change Awp _ _ _ _ _
  refine awp_ret ?_
  refine ⟨_, (.cons (.cellA rfl rfl sz28 rfl) .nil), ?_⟩
  rfl
set_option maxRecDepth 100000 in
theorem copySpc_p (s : Spc) (hl : s.ar.el.length ≤ 1000) (h2 : s.pl.length ≤ 1000) (h3 : s.fl.length ≤ 1000) : PC Try.prog 24 [.agg (spcC s)] (.agg (spcC s)) := by
  refine pc_of_awp Try.func24 rfl Try.ntmps24 (rs := [.cell 2 54]) Try.results24 (by simp) fun w0 => ?_
  refine awp_seq ?_
  refine awp_region 1 mixed (by kernel_rfl) ?_
  refine rg_q (q_box rfl (by exact .inr ⟨_, rfl⟩)) ?_
  refine rg_nil ?_
  refine aops_alloc zr54 rfl rfl rfl ?_
  refine aops_nil ?_
  change Awp _ _ _ _ _
  refine awp_seq ?_
  refine awp_region 11 mixed (by kernel_rfl) ?_
  refine rg_q (q_fieldAddr fld54_0 rfl) ?_
  refine rg_q (q_loadA (ds := [_, _, _, _, _, _, _, _, _, _, _]) sz28 rfl rfl rfl) ?_
  refine rg_q (q_call en15 (.cons rfl .nil) rfl (copyArr_p s.ar (by omega))) ?_
  refine rg_q (q_fieldAddr fld54_1 rfl) ?_
  refine rg_q (q_load sz51 rfl rfl) ?_
  refine rg_q (q_call en27 (.cons rfl .nil) rfl (copyInts4_p _ (by omega))) ?_
  refine rg_q (q_empty0 sl52 zr40) ?_
  refine rg_q (q_fieldAddr fld54_2 rfl) ?_
  refine rg_q (q_load sz52 rfl rfl) ?_
  refine rg_q (q_append0 sl52 zr40 by40 rfl (by decide) rfl rfl rfl (by (try simp only [List.length_map]); omega) (by (try simp only [List.length_map]); omega)) ?_
  refine rg_q (q_build pl54 zr54 rfl (.cons rfl (by exact .inr ⟨_, rfl⟩) (.cons rfl (by exact .inl rfl) (.cons rfl (by exact .inl rfl) .nil))) ⟨⟨rfl, by decide⟩, ⟨rfl, by decide⟩, ⟨rfl, by decide⟩, trivial⟩ rfl) ?_
  refine rg_nil ?_
  refine aops_store sz54 rfl rfl (by exact .inr ⟨_, rfl⟩) rfl rfl (by decide) rfl ?_
  refine aops_nil ?_
  change Awp _ _ _ _ _
  refine awp_ret ?_
  refine ⟨_, (.cons (.cellA rfl rfl sz54 rfl) .nil), ?_⟩
  rfl

def fewB (n : Nat) : Bool := decide (n ≤ 3) || (decide (16 < n) && decide (n ≤ 18))
def pcsB (x : Flw) : Bool := decide (4 < x.pc) && decide (x.pc ≤ 20)
def sliB (s : Spc) : Bool := !(!fewB s.ar.el.length || decide (18 < s.pl.length) || (decide (2 < s.fl.length) && decide (s.fl.length ≤ 10)) || decide (12 < s.fl.length)) && s.fl.all fun x => !pcsB x
theorem few_le {n : Nat} (h : fewB n = true) : n ≤ 18 := by simp [fewB] at h; omega
theorem sli_le {s : Spc} (h : sliB s = true) : s.ar.el.length ≤ 18 ∧ s.pl.length ≤ 18 ∧ s.fl.length ≤ 12 := by
  simp [sliB] at h
  obtain ⟨⟨⟨⟨h1, h2⟩, h3⟩, h4⟩, _⟩ := h
  exact ⟨few_le h1, h2, h4⟩
theorem all_at {l : List Flw} {k : Nat} {x : Flw} (hx : l[k]? = some x) : ((l.drop k).all fun x => !pcsB x) = (!pcsB x && (l.drop (k + 1)).all fun x => !pcsB x) := by
  obtain ⟨hlt, rfl⟩ := List.getElem?_eq_some_iff.1 hx
  rw [List.drop_eq_getElem_cons hlt]; rfl
set_option maxRecDepth 100000 in
theorem few_p (a : Arr) : PC Try.prog 13 [.agg (arrC a)] (.v (.bool (fewB a.el.length))) := by
  refine pc_of_awp Try.func13 rfl Try.ntmps13 (rs := [.tmp 2]) Try.results13 (by simp) fun w0 => ?_
  refine awp_seq ?_
  refine awp_region 2 mixed (by kernel_rfl) ?_
  refine rg_q (q_box rfl (by exact .inr ⟨_, rfl⟩)) ?_
  refine rg_q (q_assign (x := .d (.v _)) rfl) ?_
  refine rg_nil ?_
  refine aops_nil ?_
  change Awp _ _ _ _ _
  refine awp_seq ?_
  refine awp_region 17 mixed (by kernel_rfl) ?_
  refine rg_q (q_fieldAddr fld28_0 rfl) ?_
  refine rg_q (q_load sz22 rfl rfl) ?_
  refine rg_q (q_len isl22 rfl (by exact len_map _ _)) ?_
  refine rg_q (q_leq rfl rfl) ?_
  refine rg_q (q_move (x := .d (.v _)) rfl) ?_
  refine rg_g rfl rfl (fun hG => (q_fieldAddr fld28_0 rfl)) ?_
  refine rg_g rfl rfl (fun hG => (q_load sz22 rfl rfl)) ?_
  refine rg_g rfl rfl (fun hG => (q_len isl22 rfl (by exact len_map _ _))) ?_
  refine rg_g rfl rfl (fun hG => (q_gtr rfl rfl)) ?_
  refine rg_g rfl rfl (fun hG => (q_move (x := .d (.v _)) rfl)) ?_
  refine rg_g rfl rfl (fun hG => (q_fieldAddr fld28_0 rfl)) ?_
  refine rg_g rfl rfl (fun hG => (q_load sz22 rfl rfl)) ?_
  refine rg_g rfl rfl (fun hG => (q_len isl22 rfl (by exact len_map _ _))) ?_
  refine rg_g rfl rfl (fun hG => (q_leq rfl rfl)) ?_
  refine rg_pickg rfl rfl rfl rfl rfl rfl rfl rfl ?_
  refine rg_pick rfl rfl rfl rfl rfl rfl ?_
  refine rg_q (q_assign (x := .d (.v _)) rfl) ?_
  refine rg_nil ?_
  refine aops_nil ?_
  change Awp _ _ _ _ _
  refine awp_len (t := 4) rfl (fun hl4 => ?_)
  (try simp only [List.length_map] at hl4)
  refine awp_ret ?_
  refine ⟨_, (.cons (.tmp (by exact .d _)) .nil), ?_⟩
  have e1 : decide (a.el.length ≤ 3) = decide ((a.el.length : Int) ≤ 3) := decide_eq_decide.2 (by omega)
  have e2 : decide (16 < a.el.length) = decide (16 < (a.el.length : Int)) := decide_eq_decide.2 (by omega)
  have e3 : decide (a.el.length ≤ 18) = decide ((a.el.length : Int) ≤ 18) := decide_eq_decide.2 (by omega)
  unfold fewB; rw [e1, e2, e3]; simp only [bif_and, bif_or]; rfl
set_option maxRecDepth 100000 in
theorem slight_p (s : Spc) : PC Try.prog 22 [.agg (spcC s)] (.v (.bool (sliB s))) := by
  have hu : sliB s = (!(!fewB s.ar.el.length || decide (18 < s.pl.length) || (decide (2 < s.fl.length) && decide (s.fl.length ≤ 10)) || decide (12 < s.fl.length)) && s.fl.all fun x => !pcsB x) := rfl
  refine pc_of_awp Try.func22 rfl Try.ntmps22 (rs := [.tmp 2]) Try.results22 (by simp) fun w0 => ?_
  refine awp_seq ?_
  refine awp_region 2 mixed (by kernel_rfl) ?_
  refine rg_q (q_box rfl (by exact .inr ⟨_, rfl⟩)) ?_
  refine rg_q (q_assign (x := .d (.v _)) rfl) ?_
  refine rg_nil ?_
  refine aops_nil ?_
  change Awp _ _ _ _ _
  refine awp_seq ?_
  refine awp_seq ?_
  refine awp_region 28 mixed (by kernel_rfl) ?_
  refine rg_q (q_fieldAddr fld54_0 rfl) ?_
  refine rg_q (q_loadA (ds := [_, _, _, _, _, _, _, _, _, _, _]) sz28 rfl rfl rfl) ?_
  refine rg_q (q_call en13 (.cons rfl .nil) rfl (few_p s.ar)) ?_
  refine rg_q (q_not rfl) ?_
  refine rg_q (q_move (x := .d (.v _)) rfl) ?_
  refine rg_g rfl rfl (fun hG => (q_fieldAddr fld54_1 rfl)) ?_
  refine rg_g rfl rfl (fun hG => (q_load sz51 rfl rfl)) ?_
  refine rg_g rfl rfl (fun hG => (q_len isl51 rfl (by exact len_map _ _))) ?_
  refine rg_g rfl rfl (fun hG => (q_gtr rfl rfl)) ?_
  refine rg_pick rfl rfl rfl rfl rfl rfl ?_
  refine rg_q (q_move (x := .d (.v _)) rfl) ?_
  refine rg_g rfl rfl (fun hG => (q_fieldAddr fld54_2 rfl)) ?_
  refine rg_g rfl rfl (fun hG => (q_load sz52 rfl rfl)) ?_
  refine rg_g rfl rfl (fun hG => (q_len isl52 rfl (by exact len_map _ _))) ?_
  refine rg_g rfl rfl (fun hG => (q_gtr rfl rfl)) ?_
  refine rg_g rfl rfl (fun hG => (q_move (x := .d (.v _)) rfl)) ?_
  refine rg_g rfl rfl (fun hG => (q_fieldAddr fld54_2 rfl)) ?_
  refine rg_g rfl rfl (fun hG => (q_load sz52 rfl rfl)) ?_
  refine rg_g rfl rfl (fun hG => (q_len isl52 rfl (by exact len_map _ _))) ?_
  refine rg_g rfl rfl (fun hG => (q_leq rfl rfl)) ?_
  refine rg_pickg rfl rfl rfl rfl rfl rfl rfl rfl ?_
  refine rg_pick rfl rfl rfl rfl rfl rfl ?_
  refine rg_q (q_move (x := .d (.v _)) rfl) ?_
  refine rg_g rfl rfl (fun hG => (q_fieldAddr fld54_2 rfl)) ?_
  refine rg_g rfl rfl (fun hG => (q_load sz52 rfl rfl)) ?_
  refine rg_g rfl rfl (fun hG => (q_len isl52 rfl (by exact len_map _ _))) ?_
  refine rg_g rfl rfl (fun hG => (q_gtr rfl rfl)) ?_
  refine rg_pick rfl rfl rfl rfl rfl rfl ?_
  refine rg_nil ?_
  refine aops_nil ?_
  change Awp _ _ _ _ _
  refine awp_cond rfl (fun hc1 => ?_) (fun hc1 => ?_)
  ·
    (try simp only [decide_eq_true_eq, decide_eq_false_iff_not, Bool.and_eq_true, Bool.or_eq_true, Bool.and_eq_false_iff, Bool.or_eq_false_iff, Bool.not_eq_true', Bool.not_eq_false', Bool.not_true, Bool.not_false, bif_and, bif_or, Bool.not_not, ne_eq, Decidable.not_not, not_true_eq_false, not_false_eq_true, Int.not_le, Int.not_lt] at hc1)
    have hq : (!fewB s.ar.el.length || decide (18 < s.pl.length) || (decide (2 < s.fl.length) && decide (s.fl.length ≤ 10)) || decide (12 < s.fl.length)) = true := by
      rcases hc1 with ((q | q) | ⟨q, q2⟩) | q
      · simp [q]
      · simp; omega
      · simp; omega
      · simp; omega
    rw [hq] at hu
    refine awp_seq ?_
    refine awp_region 1 mixed (by kernel_rfl) ?_
    refine rg_q (q_assign (x := .d (.v _)) rfl) ?_
    refine rg_nil ?_
    refine aops_nil ?_
    change Awp _ _ _ _ _
    refine awp_ret ?_
    refine ⟨_, (.cons (.tmp (by exact .d _)) .nil), ?_⟩
    rw [hu]; rfl
  ·
    (try simp only [decide_eq_true_eq, decide_eq_false_iff_not, Bool.and_eq_true, Bool.or_eq_true, Bool.and_eq_false_iff, Bool.or_eq_false_iff, Bool.not_eq_true', Bool.not_eq_false', Bool.not_true, Bool.not_false, bif_and, bif_or, Bool.not_not, ne_eq, Decidable.not_not, not_true_eq_false, not_false_eq_true, Int.not_le, Int.not_lt] at hc1)
    have hq : (!fewB s.ar.el.length || decide (18 < s.pl.length) || (decide (2 < s.fl.length) && decide (s.fl.length ≤ 10)) || decide (12 < s.fl.length)) = false := by
      obtain ⟨⟨⟨q1, q2⟩, q3⟩, q4⟩ := hc1
      simp [q1]; omega
    rw [hq] at hu
    refine awp_skip ?_
    change Awp _ _ _ _ _
    refine awp_seq ?_
    refine awp_seq ?_
    refine awp_region 1 mixed (by kernel_rfl) ?_
    refine rg_q (q_assign (x := .d (.v _)) rfl) ?_
    refine rg_nil ?_
    refine aops_nil ?_
    change Awp _ _ _ _ _
    refine awp_block ?_
    refine awp_loopH [2, 3, 32, 33, 34, 35, 36, 37, 38, 39, 40, 41, 42, 43, 44, 45, 46, 47, 48, 49, 50, 51, 52, 53, 54] [] (α := Nat) (fun k => [(3, T.i (k : Int))]) (fun k => []) (fun k => k ≤ s.fl.length ∧ (s.fl.all fun x => !pcsB x) = ((s.fl.drop k).all fun x => !pcsB x)) (fun k => s.fl.length - k) 0 ⟨Nat.zero_le _, rfl⟩ ?_ ?_
    · exact le_head (ms := []) (by repeat (exact Out.refl _)) ⟨(by rfl), trivial⟩ trivial rfl rfl rfl rfl
    ·
      intro k ⟨hk, hf⟩
      refine awp_seq ?_
      refine awp_seq ?_
      refine awp_region 5 mixed (by kernel_rfl) ?_
      refine rg_q (q_move (x := .d (.v _)) rfl) ?_
      refine rg_q (q_fieldAddr fld54_2 rfl) ?_
      refine rg_q (q_load sz52 rfl rfl) ?_
      refine rg_q (q_len isl52 rfl (by exact len_map _ _)) ?_
      refine rg_q (q_lss rfl rfl) ?_
      refine rg_nil ?_
      refine aops_nil ?_
      change Awp _ _ _ _ _
      refine awp_len (t := 34) rfl (fun hl34 => ?_)
      (try simp only [List.length_map] at hl34)
      refine awp_cond rfl (fun hc4 => ?_) (fun hc4 => ?_)
      ·
        (try simp only [decide_eq_true_eq, decide_eq_false_iff_not, Bool.and_eq_true, Bool.or_eq_true, Bool.and_eq_false_iff, Bool.or_eq_false_iff, Bool.not_eq_true', Bool.not_eq_false', Bool.not_true, Bool.not_false, bif_and, bif_or, Bool.not_not, ne_eq, Decidable.not_not, not_true_eq_false, not_false_eq_true, Int.not_le, Int.not_lt] at hc4)
        have hlt : k < s.fl.length := by omega
        obtain ⟨x, hx⟩ : ∃ x, s.fl[k]? = some x := ⟨_, List.getElem?_eq_getElem hlt⟩
        have hd := all_at hx
        refine awp_skip ?_
        change Awp _ _ _ _ _
        refine awp_seq ?_
        refine awp_block ?_
        refine awp_seq ?_
        refine awp_region 16 mixed (by kernel_rfl) ?_
        refine rg_q (q_fieldAddr fld54_2 rfl) ?_
        refine rg_q (q_load sz52 rfl rfl) ?_
        refine rg_q (q_move (x := .d (.v _)) rfl) ?_
        refine rg_q (q_indexAddr sl52 rfl rfl (by omega) (map_at (by omega) hx)) ?_
        refine rg_q (q_fieldAddr fld40_3 rfl) ?_
        refine rg_q (q_load sz3 rfl rfl) ?_
        refine rg_q (q_gtr rfl rfl) ?_
        refine rg_q (q_move (x := .d (.v _)) rfl) ?_
        refine rg_g rfl rfl (fun hG => (q_fieldAddr fld54_2 rfl)) ?_
        refine rg_g rfl rfl (fun hG => (q_load sz52 rfl rfl)) ?_
        refine rg_g rfl rfl (fun hG => (q_move (x := .d (.v _)) rfl)) ?_
        refine rg_g rfl rfl (fun hG => (q_indexAddr sl52 rfl rfl (by (have hg0 := T.bool_inj (a := _) hG.1; (try simp only [decide_eq_true_eq, decide_eq_false_iff_not, Bool.and_eq_true, Bool.or_eq_true, Bool.and_eq_false_iff, Bool.or_eq_false_iff, Bool.not_eq_true', Bool.not_eq_false', Bool.not_true, Bool.not_false, bif_and, bif_or, Bool.not_not, ne_eq, Decidable.not_not, not_true_eq_false, not_false_eq_true, Int.not_le, Int.not_lt] at hg0); omega)) (map_at (by (have hg0 := T.bool_inj (a := _) hG.1; (try simp only [decide_eq_true_eq, decide_eq_false_iff_not, Bool.and_eq_true, Bool.or_eq_true, Bool.and_eq_false_iff, Bool.or_eq_false_iff, Bool.not_eq_true', Bool.not_eq_false', Bool.not_true, Bool.not_false, bif_and, bif_or, Bool.not_not, ne_eq, Decidable.not_not, not_true_eq_false, not_false_eq_true, Int.not_le, Int.not_lt] at hg0); omega)) hx))) ?_
        refine rg_g rfl rfl (fun hG => (q_fieldAddr fld40_3 rfl)) ?_
        refine rg_g rfl rfl (fun hG => (q_load sz3 rfl rfl)) ?_
        refine rg_g rfl rfl (fun hG => (q_leq rfl rfl)) ?_
        refine rg_pick rfl rfl rfl rfl rfl rfl ?_
        refine rg_nil ?_
        refine aops_nil ?_
        change Awp _ _ _ _ _
        refine awp_cond rfl (fun hc6 => ?_) (fun hc6 => ?_)
        ·
          (try simp only [decide_eq_true_eq, decide_eq_false_iff_not, Bool.and_eq_true, Bool.or_eq_true, Bool.and_eq_false_iff, Bool.or_eq_false_iff, Bool.not_eq_true', Bool.not_eq_false', Bool.not_true, Bool.not_false, bif_and, bif_or, Bool.not_not, ne_eq, Decidable.not_not, not_true_eq_false, not_false_eq_true, Int.not_le, Int.not_lt] at hc6)
          have hp : pcsB x = true := by unfold pcsB; simp; omega
          refine awp_seq ?_
          refine awp_region 1 mixed (by kernel_rfl) ?_
          refine rg_q (q_assign (x := .d (.v _)) rfl) ?_
          refine rg_nil ?_
          refine aops_nil ?_
          change Awp _ _ _ _ _
          refine awp_ret ?_
          refine ⟨_, (.cons (.tmp (by exact .d _)) .nil), ?_⟩
          rw [hu, hf, hd, hp]; rfl
        ·
          (try simp only [decide_eq_true_eq, decide_eq_false_iff_not, Bool.and_eq_true, Bool.or_eq_true, Bool.and_eq_false_iff, Bool.or_eq_false_iff, Bool.not_eq_true', Bool.not_eq_false', Bool.not_true, Bool.not_false, bif_and, bif_or, Bool.not_not, ne_eq, Decidable.not_not, not_true_eq_false, not_false_eq_true, Int.not_le, Int.not_lt] at hc6)
          have hp : pcsB x = false := by unfold pcsB; simp; omega
          refine awp_skip ?_
          change Awp _ _ _ _ _
          refine awp_region 3 mixed (by kernel_rfl) ?_
          refine rg_q (q_move (x := .d (.v _)) rfl) ?_
          refine rg_q (q_add rfl rfl (In64.mk (by omega) (by omega))) ?_
          refine rg_q (q_assign (x := .d (.v _)) rfl) ?_
          refine rg_nil ?_
          refine aops_nil ?_
          refine ⟨k + 1, ⟨by omega, by rw [hf, hd, hp]; rfl⟩, by omega, ?_⟩
          exact le_head (ms := []) (by repeat (first | exact Out.head rfl rfl | (refine Out.put ?_ rfl))) ⟨(by rfl), trivial⟩ trivial rfl rfl rfl rfl
      ·
        (try simp only [decide_eq_true_eq, decide_eq_false_iff_not, Bool.and_eq_true, Bool.or_eq_true, Bool.and_eq_false_iff, Bool.or_eq_false_iff, Bool.not_eq_true', Bool.not_eq_false', Bool.not_true, Bool.not_false, bif_and, bif_or, Bool.not_not, ne_eq, Decidable.not_not, not_true_eq_false, not_false_eq_true, Int.not_le, Int.not_lt] at hc4)
        have hk0 : (s.fl.all fun x => !pcsB x) = true := by rw [hf, List.drop_of_length_le (by omega)]; rfl
        rw [hk0] at hu
        refine awp_exit ?_
        change Awp _ _ _ _ _
        refine awp_seq ?_
        refine awp_region 1 mixed (by kernel_rfl) ?_
        refine rg_q (q_assign (x := .d (.v _)) rfl) ?_
        refine rg_nil ?_
        refine aops_nil ?_
        change Awp _ _ _ _ _
        refine awp_ret ?_
        refine ⟨_, (.cons (.tmp (by exact .d _)) .nil), ?_⟩
        rw [hu]; rfl
end Go.Proofs.Ytblbnagdhcpnoaa.Am.M
