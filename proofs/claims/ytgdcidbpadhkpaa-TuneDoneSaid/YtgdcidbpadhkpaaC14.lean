/- Contracts over the abstract machine: the errors of events. Conditions: none. -/
import Derived.Test.YtgdcidbpadhkpaaC13
set_option linter.unusedVariables false
set_option linter.unusedSimpArgs false
-- mini
namespace Go.Proofs.Ytgdcidbpadhkpaa.Am.M
open Go

theorem prevE_take {ev : List Evt} {k : Nat} (hk : k ≤ ev.length) : prevE (ev.take k) (ev.take k).length = prevE ev k := by
  rw [List.length_take, Nat.min_eq_left hk]
  cases k with
  | zero => rfl
  | succ k => simp only [prevE]; rw [List.getElem?_take, if_pos (by omega)]
theorem validL_at {l : List Stp} {L : List Lst} {m : Int} {i : Nat} (hi : i < l.length) : (validL l L m)[i]? = some (validS l L i m) := by simp [validL, hi]
set_option maxRecDepth 100000 in
theorem eventErr_p (l : List Stp) (bf : List Evt) (x : Evt) (hr : RightS l) (hl : bf.length ≤ 100) (hev : ∀ e ∈ bf, EvOk e) : PC Try.prog 83 [.sl 4 (l.map stepC), .sl 3 (bf.map evC), .agg (evC x)] (.v (.int .i64 (evBad l (bookOf l bf) (prevE bf bf.length) x))) := by
  have hfew := hr.few
  have hpos := hr.pos
  obtain ⟨z, hz⟩ : ∃ z, evBad l (bookOf l bf) (prevE bf bf.length) x = z := ⟨_, rfl⟩
  rw [hz]
  unfold evBad at hz
  obtain ⟨y, hy⟩ : ∃ y, 0 < bf.length → bf[bf.length - 1]? = some y := by
    by_cases h0 : 0 < bf.length
    · exact ⟨bf[bf.length - 1], fun _ => List.getElem?_eq_getElem (by omega)⟩
    · exact ⟨⟨0, 0, 0⟩, fun h => absurd h h0⟩
  have hpr : 0 < bf.length → prevE bf bf.length = some y.minute := fun h => by
    obtain ⟨m, hm⟩ : ∃ m, bf.length = m + 1 := ⟨bf.length - 1, by omega⟩
    have h1 := hy h
    rw [hm] at h1 ⊢
    simp only [Nat.add_sub_cancel] at h1
    simp [prevE, h1]
  rw [← bookOf_snoc l bf ⟨x.minute, -1, x.warmth⟩] at hz
  refine pc_of_awpN Try.func83 rfl Try.ntmps83 (rs := [.tmp 6]) Try.results83 (by simp) fun w0 hmine => ?_
  refine awp_seq ?_
  refine awp_region 2 mixed (by kernel_rfl) ?_
  refine rg_q (q_box rfl (by exact .inr ⟨_, rfl⟩)) ?_
  refine rg_q (q_assign (x := .d (.v _)) rfl) ?_
  refine rg_nil ?_
  refine aops_nil ?_
  change Awp _ _ _ _ _
  refine awp_seq ?_
  refine awp_seq ?_
  refine awp_region 4 mixed (by kernel_rfl) ?_
  refine rg_q (q_fieldAddr fld90_0 rfl) ?_
  refine rg_q (q_load sz3 rfl rfl) ?_
  refine rg_q (q_call en21 (.cons rfl (.cons rfl (.cons rfl .nil))) rfl (Within_p _ _ _)) ?_
  refine rg_q (q_not rfl) ?_
  refine rg_nil ?_
  refine aops_nil ?_
  change Awp _ _ _ _ _
  refine awp_cond rfl (fun hc1 => ?_) (fun hc1 => ?_)
  ·
    (try simp only [decide_eq_true_eq, decide_eq_false_iff_not, Bool.and_eq_true, Bool.or_eq_true, Bool.and_eq_false_iff, Bool.or_eq_false_iff, Bool.not_eq_true', Bool.not_eq_false', Bool.not_true, Bool.not_false, bif_and, bif_or, Bool.not_not, ne_eq, Decidable.not_not, not_true_eq_false, not_false_eq_true, Int.not_le, Int.not_lt] at hc1)
    rw [if_pos hc1] at hz
    refine awp_seq ?_
    refine awp_region 1 mixed (by kernel_rfl) ?_
    refine rg_q (q_assign (x := .d (.v _)) rfl) ?_
    refine rg_nil ?_
    refine aops_nil ?_
    change Awp _ _ _ _ _
    refine awp_ret ?_
    refine ⟨_, (.cons (.tmp (by exact .d _)) .nil), ?_⟩
    rw [← hz]; rfl
  ·
    (try simp only [decide_eq_true_eq, decide_eq_false_iff_not, Bool.and_eq_true, Bool.or_eq_true, Bool.and_eq_false_iff, Bool.or_eq_false_iff, Bool.not_eq_true', Bool.not_eq_false', Bool.not_true, Bool.not_false, bif_and, bif_or, Bool.not_not, ne_eq, Decidable.not_not, not_true_eq_false, not_false_eq_true, Int.not_le, Int.not_lt] at hc1)
    rw [if_neg (by simpa using hc1)] at hz
    refine awp_skip ?_
    change Awp _ _ _ _ _
    refine awp_seq ?_
    refine awp_seq ?_
    refine awp_region 7 mixed (by kernel_rfl) ?_
    refine rg_q (q_fieldAddr fld90_1 rfl) ?_
    refine rg_q (q_load sz3 rfl rfl) ?_
    refine rg_q (q_move (x := .d (.sl _ _)) rfl) ?_
    refine rg_q (q_len isl40 rfl (by exact len_map _ _)) ?_
    refine rg_q (q_sub rfl rfl (In64.mk (by (omega)) (by (omega)))) ?_
    refine rg_q (q_call en21 (.cons rfl (.cons rfl (.cons rfl .nil))) rfl (Within_p _ _ _)) ?_
    refine rg_q (q_not rfl) ?_
    refine rg_nil ?_
    refine aops_nil ?_
    change Awp _ _ _ _ _
    refine awp_len (t := 16) rfl (fun hl16 => ?_)
    (try simp only [List.length_map] at hl16)
    refine awp_cond rfl (fun hc3 => ?_) (fun hc3 => ?_)
    ·
      (try simp only [decide_eq_true_eq, decide_eq_false_iff_not, Bool.and_eq_true, Bool.or_eq_true, Bool.and_eq_false_iff, Bool.or_eq_false_iff, Bool.not_eq_true', Bool.not_eq_false', Bool.not_true, Bool.not_false, bif_and, bif_or, Bool.not_not, ne_eq, Decidable.not_not, not_true_eq_false, not_false_eq_true, Int.not_le, Int.not_lt] at hc3)
      rw [if_pos hc3] at hz
      refine awp_seq ?_
      refine awp_region 1 mixed (by kernel_rfl) ?_
      refine rg_q (q_assign (x := .d (.v _)) rfl) ?_
      refine rg_nil ?_
      refine aops_nil ?_
      change Awp _ _ _ _ _
      refine awp_ret ?_
      refine ⟨_, (.cons (.tmp (by exact .d _)) .nil), ?_⟩
      rw [← hz]; rfl
    ·
      (try simp only [decide_eq_true_eq, decide_eq_false_iff_not, Bool.and_eq_true, Bool.or_eq_true, Bool.and_eq_false_iff, Bool.or_eq_false_iff, Bool.not_eq_true', Bool.not_eq_false', Bool.not_true, Bool.not_false, bif_and, bif_or, Bool.not_not, ne_eq, Decidable.not_not, not_true_eq_false, not_false_eq_true, Int.not_le, Int.not_lt] at hc3)
      rw [if_neg (by simpa using hc3)] at hz
      refine awp_skip ?_
      change Awp _ _ _ _ _
      refine awp_seq ?_
      refine awp_seq ?_
      refine awp_region 4 mixed (by kernel_rfl) ?_
      refine rg_q (q_fieldAddr fld90_2 rfl) ?_
      refine rg_q (q_load sz3 rfl rfl) ?_
      refine rg_q (q_call en21 (.cons rfl (.cons rfl (.cons rfl .nil))) rfl (Within_p _ _ _)) ?_
      refine rg_q (q_not rfl) ?_
      refine rg_nil ?_
      refine aops_nil ?_
      change Awp _ _ _ _ _
      refine awp_cond rfl (fun hc5 => ?_) (fun hc5 => ?_)
      ·
        (try simp only [decide_eq_true_eq, decide_eq_false_iff_not, Bool.and_eq_true, Bool.or_eq_true, Bool.and_eq_false_iff, Bool.or_eq_false_iff, Bool.not_eq_true', Bool.not_eq_false', Bool.not_true, Bool.not_false, bif_and, bif_or, Bool.not_not, ne_eq, Decidable.not_not, not_true_eq_false, not_false_eq_true, Int.not_le, Int.not_lt] at hc5)
        rw [if_pos hc5] at hz
        refine awp_seq ?_
        refine awp_region 1 mixed (by kernel_rfl) ?_
        refine rg_q (q_assign (x := .d (.v _)) rfl) ?_
        refine rg_nil ?_
        refine aops_nil ?_
        change Awp _ _ _ _ _
        refine awp_ret ?_
        refine ⟨_, (.cons (.tmp (by exact .d _)) .nil), ?_⟩
        rw [← hz]; rfl
      ·
        (try simp only [decide_eq_true_eq, decide_eq_false_iff_not, Bool.and_eq_true, Bool.or_eq_true, Bool.and_eq_false_iff, Bool.or_eq_false_iff, Bool.not_eq_true', Bool.not_eq_false', Bool.not_true, Bool.not_false, bif_and, bif_or, Bool.not_not, ne_eq, Decidable.not_not, not_true_eq_false, not_false_eq_true, Int.not_le, Int.not_lt] at hc5)
        rw [if_neg (by simpa using hc5)] at hz
        have hxo : EvOk x := by
          simp [inR] at hc1 hc5
          exact ⟨by omega, by omega, by omega, by omega⟩
        obtain ⟨x1, x2, x3, x4⟩ := hxo
        simp [inR] at hc3
        refine awp_skip ?_
        change Awp _ _ _ _ _
        refine awp_seq ?_
        refine awp_seq ?_
        refine awp_region 3 mixed (by kernel_rfl) ?_
        refine rg_q (q_move (x := .d (.sl _ _)) rfl) ?_
        refine rg_q (q_len isl41 rfl (by exact len_map _ _)) ?_
        refine rg_q (q_assign (x := .d (.v _)) rfl) ?_
        refine rg_nil ?_
        refine aops_nil ?_
        change Awp _ _ _ _ _
        refine awp_len (t := 25) rfl (fun hl25 => ?_)
        (try simp only [List.length_map] at hl25)
        refine awp_seq ?_
        refine awp_region 13 mixed (by kernel_rfl) ?_
        refine rg_q (q_move (x := .d (.v _)) rfl) ?_
        refine rg_q (q_gtr rfl rfl) ?_
        refine rg_q (q_move (x := .d (.v _)) rfl) ?_
        refine rg_g rfl rfl (fun hG => (q_fieldAddr fld90_0 rfl)) ?_
        refine rg_g rfl rfl (fun hG => (q_load sz3 rfl rfl)) ?_
        refine rg_g rfl rfl (fun hG => (q_move (x := .d (.sl _ _)) rfl)) ?_
        refine rg_g rfl rfl (fun hG => (q_move (x := .d (.v _)) rfl)) ?_
        refine rg_g rfl rfl (fun hG => (q_sub rfl rfl (In64.mk (by (have hg0 := T.bool_inj (a := _) hG.1; (try simp only [decide_eq_true_eq, decide_eq_false_iff_not, Bool.and_eq_true, Bool.or_eq_true, Bool.and_eq_false_iff, Bool.or_eq_false_iff, Bool.not_eq_true', Bool.not_eq_false', Bool.not_true, Bool.not_false, bif_and, bif_or, Bool.not_not, ne_eq, Decidable.not_not, not_true_eq_false, not_false_eq_true, Int.not_le, Int.not_lt] at hg0); (omega))) (by (have hg0 := T.bool_inj (a := _) hG.1; (try simp only [decide_eq_true_eq, decide_eq_false_iff_not, Bool.and_eq_true, Bool.or_eq_true, Bool.and_eq_false_iff, Bool.or_eq_false_iff, Bool.not_eq_true', Bool.not_eq_false', Bool.not_true, Bool.not_false, bif_and, bif_or, Bool.not_not, ne_eq, Decidable.not_not, not_true_eq_false, not_false_eq_true, Int.not_le, Int.not_lt] at hg0); (omega)))))) ?_
        refine rg_g rfl rfl (fun hG => (q_indexAddr sl41 rfl rfl (by (have hg0 := T.bool_inj (a := _) hG.1; (try simp only [decide_eq_true_eq, decide_eq_false_iff_not, Bool.and_eq_true, Bool.or_eq_true, Bool.and_eq_false_iff, Bool.or_eq_false_iff, Bool.not_eq_true', Bool.not_eq_false', Bool.not_true, Bool.not_false, bif_and, bif_or, Bool.not_not, ne_eq, Decidable.not_not, not_true_eq_false, not_false_eq_true, Int.not_le, Int.not_lt] at hg0); (omega))) (map_at (k := bf.length - 1) (by (have hg0 := T.bool_inj (a := _) hG.1; (try simp only [decide_eq_true_eq, decide_eq_false_iff_not, Bool.and_eq_true, Bool.or_eq_true, Bool.and_eq_false_iff, Bool.or_eq_false_iff, Bool.not_eq_true', Bool.not_eq_false', Bool.not_true, Bool.not_false, bif_and, bif_or, Bool.not_not, ne_eq, Decidable.not_not, not_true_eq_false, not_false_eq_true, Int.not_le, Int.not_lt] at hg0); (omega))) (hy (by (have hg0 := T.bool_inj (a := _) hG.1; (try simp only [decide_eq_true_eq, decide_eq_false_iff_not, Bool.and_eq_true, Bool.or_eq_true, Bool.and_eq_false_iff, Bool.or_eq_false_iff, Bool.not_eq_true', Bool.not_eq_false', Bool.not_true, Bool.not_false, bif_and, bif_or, Bool.not_not, ne_eq, Decidable.not_not, not_true_eq_false, not_false_eq_true, Int.not_le, Int.not_lt] at hg0); (omega))))))) ?_
        refine rg_g rfl rfl (fun hG => (q_fieldAddr fld90_0 rfl)) ?_
        refine rg_g rfl rfl (fun hG => (q_load sz3 rfl rfl)) ?_
        refine rg_g rfl rfl (fun hG => (q_lss rfl rfl)) ?_
        refine rg_pick rfl rfl rfl rfl rfl rfl ?_
        refine rg_nil ?_
        refine aops_nil ?_
        change Awp _ _ _ _ _
        refine awp_cond rfl (fun hc8 => ?_) (fun hc8 => ?_)
        ·
          (try simp only [decide_eq_true_eq, decide_eq_false_iff_not, Bool.and_eq_true, Bool.or_eq_true, Bool.and_eq_false_iff, Bool.or_eq_false_iff, Bool.not_eq_true', Bool.not_eq_false', Bool.not_true, Bool.not_false, bif_and, bif_or, Bool.not_not, ne_eq, Decidable.not_not, not_true_eq_false, not_false_eq_true, Int.not_le, Int.not_lt] at hc8)
          rw [if_pos (by rw [hpr (by omega)]; simp [lessP]; omega)] at hz
          refine awp_seq ?_
          refine awp_region 1 mixed (by kernel_rfl) ?_
          refine rg_q (q_assign (x := .d (.v _)) rfl) ?_
          refine rg_nil ?_
          refine aops_nil ?_
          change Awp _ _ _ _ _
          refine awp_ret ?_
          refine ⟨_, (.cons (.tmp (by exact .d _)) .nil), ?_⟩
          rw [← hz]; rfl
        ·
          (try simp only [decide_eq_true_eq, decide_eq_false_iff_not, Bool.and_eq_true, Bool.or_eq_true, Bool.and_eq_false_iff, Bool.or_eq_false_iff, Bool.not_eq_true', Bool.not_eq_false', Bool.not_true, Bool.not_false, bif_and, bif_or, Bool.not_not, ne_eq, Decidable.not_not, not_true_eq_false, not_false_eq_true, Int.not_le, Int.not_lt] at hc8)
          rw [if_neg (by
            by_cases h0 : 0 < bf.length
            · rw [hpr h0]; simp [lessP]; omega
            · have : bf.length = 0 := by omega
              rw [this]; simp [prevE, lessP])] at hz
          refine awp_skip ?_
          change Awp _ _ _ _ _
          refine awp_seq ?_
          refine awp_seq ?_
          refine awp_region 3 mixed (by kernel_rfl) ?_
          refine rg_q (q_fieldAddr fld90_1 rfl) ?_
          refine rg_q (q_load sz3 rfl rfl) ?_
          refine rg_q (q_lss rfl rfl) ?_
          refine rg_nil ?_
          refine aops_nil ?_
          change Awp _ _ _ _ _
          refine awp_cond rfl (fun hc10 => ?_) (fun hc10 => ?_)
          ·
            (try simp only [decide_eq_true_eq, decide_eq_false_iff_not, Bool.and_eq_true, Bool.or_eq_true, Bool.and_eq_false_iff, Bool.or_eq_false_iff, Bool.not_eq_true', Bool.not_eq_false', Bool.not_true, Bool.not_false, bif_and, bif_or, Bool.not_not, ne_eq, Decidable.not_not, not_true_eq_false, not_false_eq_true, Int.not_le, Int.not_lt] at hc10)
            rw [if_neg (fun h => h.1 (by omega))] at hz
            refine awp_seq ?_
            refine awp_region 1 mixed (by kernel_rfl) ?_
            refine rg_q (q_assign (x := .d (.v _)) rfl) ?_
            refine rg_nil ?_
            refine aops_nil ?_
            change Awp _ _ _ _ _
            refine awp_ret ?_
            refine ⟨_, (.cons (.tmp (by exact .d _)) .nil), ?_⟩
            rw [← hz]; rfl
          ·
            (try simp only [decide_eq_true_eq, decide_eq_false_iff_not, Bool.and_eq_true, Bool.or_eq_true, Bool.and_eq_false_iff, Bool.or_eq_false_iff, Bool.not_eq_true', Bool.not_eq_false', Bool.not_true, Bool.not_false, bif_and, bif_or, Bool.not_not, ne_eq, Decidable.not_not, not_true_eq_false, not_false_eq_true, Int.not_le, Int.not_lt] at hc10)
            obtain ⟨m, hst⟩ : ∃ m : Nat, x.step = (m : Int) := ⟨x.step.toNat, by omega⟩
            obtain ⟨s, hs0⟩ : ∃ s, l[m]? = some s := ⟨_, List.getElem?_eq_getElem (by omega)⟩
            have hse := (hr.each m s hs0).2.2.2.2
            rw [hst, show ((m : Int)).toNat = m from rfl, getD_at hs0] at hz
            have hne : (m : Int) ≠ -1 := by omega
            have hva := rValidAt_p l (bf ++ [⟨x.minute, -1, x.warmth⟩]) x.minute hr (by simp; omega) (fun e he => by
              rcases List.mem_append.1 he with he | he
              · exact hev e he
              · simp at he; subst he; exact ⟨x1, x2, x3, x4⟩)
            generalize bookOf l (bf ++ [⟨x.minute, -1, x.warmth⟩]) = B at *
            refine awp_skip ?_
            change Awp _ _ _ _ _
            refine awp_seq ?_
            refine awp_regionC 13 [1, 3, 10] [44] mixed (by kernel_rfl) ?_
            refine rgc_q rfl (q_move (x := .d (.sl _ _)) rfl) rfl ?_
            refine rgc_c rfl rfl (c_empty sl41 zr90 rfl) ?_
            refine rgc_q rfl (q_move (x := .d (.sl _ _)) rfl) rfl ?_
            refine rgc_c rfl rfl (c_append (es' := bf.map evC) sl41 zr90 by90 rfl (by decide) rfl rfl rfl rfl (by (try simp only [List.length_map, List.length_append, List.length_cons, List.length_nil]); omega) (by (try simp only [List.length_map, List.length_append, List.length_cons, List.length_nil]); omega) rfl) ?_
            refine rgc_q rfl (q_fieldAddr fld90_0 rfl) rfl ?_
            refine rgc_q rfl (q_load sz3 rfl rfl) rfl ?_
            refine rgc_q rfl (q_fieldAddr fld90_2 rfl) rfl ?_
            refine rgc_q rfl (q_load sz3 rfl rfl) rfl ?_
            refine rgc_q rfl (q_build (cs := [_, _, _]) pl90 zr90 rfl (.cons rfl (by exact .inl rfl) (.cons rfl (by exact .inl rfl) (.cons rfl (by exact .inl rfl) .nil))) ⟨⟨rfl, by decide⟩, ⟨rfl, by decide⟩, ⟨rfl, by decide⟩, trivial⟩ rfl) rfl ?_
            refine rgc_q rfl (q_buildSlice sl41 zr90 rfl rfl (by decide) (.cons rfl (by exact .inr ⟨_, rfl⟩) .nil) ⟨rfl, rfl, trivial⟩ rfl (by decide) rfl) rfl ?_
            refine rgc_c rfl rfl (c_append (es' := (bf ++ [(⟨x.minute, -1, x.warmth⟩ : Evt)]).map evC) sl41 zr90 by90 rfl (by decide) rfl rfl rfl rfl (by (try simp only [List.length_map, List.length_append, List.length_cons, List.length_nil]); omega) (by (try simp only [List.length_map, List.length_append, List.length_cons, List.length_nil]); omega) (by rw [List.map_append]; rfl)) ?_
            refine rgc_q rfl (q_fieldAddr fld90_0 rfl) rfl ?_
            refine rgc_q rfl (q_load sz3 rfl rfl) rfl ?_
            refine rgc_nil ?_
            refine aops_le (le_freezeR 44 53 rfl rfl rfl rfl hmine) ?_
            refine aops_q rfl (q_call en54 (.cons rfl (.cons rfl (.cons rfl .nil))) rfl (hva)) ?_
            refine aops_q rfl (q_assign (x := .d (.sl _ _)) rfl) ?_
            refine aops_nil ?_
            change Awp _ _ _ _ _
            refine awp_seq ?_
            refine awp_seq ?_
            refine awp_region 1 mixed (by kernel_rfl) ?_
            refine rg_q (q_assign (x := .d (.v _)) rfl) ?_
            refine rg_nil ?_
            refine aops_nil ?_
            change Awp _ _ _ _ _
            refine awp_block ?_
            refine awp_loopH [6, 9, 57, 58, 59, 60, 61, 62, 63, 64, 65, 66, 67, 68, 69, 70, 71, 72, 73, 74, 75, 76, 77, 78, 79, 80] [] (α := Nat) (fun j => [(9, T.i (j : Int))]) (fun j => []) (fun j => j ≤ s.needs.length ∧ ∀ n ∈ s.needs.take j, validS l B n.toNat x.minute = true) (fun j => s.needs.length - j) 0 ⟨Nat.zero_le _, (fun n hn => by simp at hn)⟩ ?_ ?_
            · exact le_head (ms := []) (by repeat (exact Out.refl _)) ⟨(by rfl), trivial⟩ trivial rfl rfl rfl rfl
            ·
              intro j ⟨hj, hg⟩
              refine awp_seq ?_
              refine awp_seq ?_
              refine awp_region 9 mixed (by kernel_rfl) ?_
              refine rg_q (q_move (x := .d (.v _)) rfl) ?_
              refine rg_q (q_move (x := .d (.sl _ _)) rfl) ?_
              refine rg_q (q_fieldAddr fld90_1 rfl) ?_
              refine rg_q (q_load sz3 rfl rfl) ?_
              refine rg_q (q_indexAddr sl40 rfl rfl (by (omega)) (map_at (k := m) hst hs0)) ?_
              refine rg_q (q_fieldAddr fld87_3 rfl) ?_
              refine rg_q (q_load sz25 rfl rfl) ?_
              refine rg_q (q_len isl25 rfl (by exact len_map _ _)) ?_
              refine rg_q (q_lss rfl rfl) ?_
              refine rg_nil ?_
              refine aops_nil ?_
              change Awp _ _ _ _ _
              refine awp_len (t := 63) rfl (fun hl63 => ?_)
              (try simp only [List.length_map] at hl63)
              refine awp_cond rfl (fun hc14 => ?_) (fun hc14 => ?_)
              ·
                (try simp only [decide_eq_true_eq, decide_eq_false_iff_not, Bool.and_eq_true, Bool.or_eq_true, Bool.and_eq_false_iff, Bool.or_eq_false_iff, Bool.not_eq_true', Bool.not_eq_false', Bool.not_true, Bool.not_false, bif_and, bif_or, Bool.not_not, ne_eq, Decidable.not_not, not_true_eq_false, not_false_eq_true, Int.not_le, Int.not_lt] at hc14)
                have hjlt : j < s.needs.length := by omega
                obtain ⟨z2, hn⟩ : ∃ z, s.needs[j]? = some z := ⟨_, List.getElem?_eq_getElem hjlt⟩
                obtain ⟨hz1, hz2⟩ := hse z2 (List.mem_of_getElem? hn)
                obtain ⟨q, rfl⟩ : ∃ q : Nat, z2 = (q : Int) := ⟨z2.toNat, by omega⟩
                have hml := (List.getElem?_eq_some_iff.1 hs0).1
                have hvq := validL_at (l := l) (L := B) (m := x.minute) (i := q) (by omega)
                have hvl : (validL l B x.minute).length = l.length := by simp [validL]
                refine awp_skip ?_
                change Awp _ _ _ _ _
                refine awp_seq ?_
                refine awp_block ?_
                refine awp_seq ?_
                refine awp_region 13 mixed (by kernel_rfl) ?_
                refine rg_q (q_move (x := .d (.sl _ _)) rfl) ?_
                refine rg_q (q_move (x := .d (.sl _ _)) rfl) ?_
                refine rg_q (q_fieldAddr fld90_1 rfl) ?_
                refine rg_q (q_load sz3 rfl rfl) ?_
                refine rg_q (q_indexAddr sl40 rfl rfl (by (omega)) (map_at (k := m) hst hs0)) ?_
                refine rg_q (q_fieldAddr fld87_3 rfl) ?_
                refine rg_q (q_load sz25 rfl rfl) ?_
                refine rg_q (q_move (x := .d (.v _)) rfl) ?_
                refine rg_q (q_indexAddr sl25 rfl rfl (by (omega)) (map_at (by (omega)) hn)) ?_
                refine rg_q (q_load sz3 rfl rfl) ?_
                refine rg_q (q_indexAddr sl77 rfl rfl (by (omega)) (map_at (by (omega)) hvq)) ?_
                refine rg_q (q_load sz4 rfl rfl) ?_
                refine rg_q (q_not rfl) ?_
                refine rg_nil ?_
                refine aops_nil ?_
                change Awp _ _ _ _ _
                refine awp_cond rfl (fun hc16 => ?_) (fun hc16 => ?_)
                ·
                  (try simp only [decide_eq_true_eq, decide_eq_false_iff_not, Bool.and_eq_true, Bool.or_eq_true, Bool.and_eq_false_iff, Bool.or_eq_false_iff, Bool.not_eq_true', Bool.not_eq_false', Bool.not_true, Bool.not_false, bif_and, bif_or, Bool.not_not, ne_eq, Decidable.not_not, not_true_eq_false, not_false_eq_true, Int.not_le, Int.not_lt] at hc16)
                  rw [if_pos ⟨hne, by rw [List.all_eq_false]; exact ⟨_, List.mem_of_getElem? hn, by simpa using hc16⟩⟩] at hz
                  refine awp_seq ?_
                  refine awp_region 1 mixed (by kernel_rfl) ?_
                  refine rg_q (q_assign (x := .d (.v _)) rfl) ?_
                  refine rg_nil ?_
                  refine aops_nil ?_
                  change Awp _ _ _ _ _
                  refine awp_ret ?_
                  refine ⟨_, (.cons (.tmp (by exact .d _)) .nil), ?_⟩
                  rw [← hz]; rfl
                ·
                  (try simp only [decide_eq_true_eq, decide_eq_false_iff_not, Bool.and_eq_true, Bool.or_eq_true, Bool.and_eq_false_iff, Bool.or_eq_false_iff, Bool.not_eq_true', Bool.not_eq_false', Bool.not_true, Bool.not_false, bif_and, bif_or, Bool.not_not, ne_eq, Decidable.not_not, not_true_eq_false, not_false_eq_true, Int.not_le, Int.not_lt] at hc16)
                  refine awp_skip ?_
                  change Awp _ _ _ _ _
                  refine awp_region 3 mixed (by kernel_rfl) ?_
                  refine rg_q (q_move (x := .d (.v _)) rfl) ?_
                  refine rg_q (q_add rfl rfl (In64.mk (by (omega)) (by (omega)))) ?_
                  refine rg_q (q_assign (x := .d (.v _)) rfl) ?_
                  refine rg_nil ?_
                  refine aops_nil ?_
                  refine ⟨j + 1, ⟨by omega, (fun n hnm => by rw [List.take_add_one, hn, Option.toList_some, List.mem_append] at hnm; rcases hnm with h | h; exact hg n h; simp at h; subst h; simpa using hc16)⟩, by omega, ?_⟩
                  exact le_head (ms := []) (by repeat (first | exact Out.head rfl rfl | (refine Out.put ?_ rfl))) ⟨(by rfl), trivial⟩ trivial rfl rfl rfl rfl
              ·
                (try simp only [decide_eq_true_eq, decide_eq_false_iff_not, Bool.and_eq_true, Bool.or_eq_true, Bool.and_eq_false_iff, Bool.or_eq_false_iff, Bool.not_eq_true', Bool.not_eq_false', Bool.not_true, Bool.not_false, bif_and, bif_or, Bool.not_not, ne_eq, Decidable.not_not, not_true_eq_false, not_false_eq_true, Int.not_le, Int.not_lt] at hc14)
                have hjn : s.needs.length ≤ j := by omega
                rw [List.take_of_length_le hjn] at hg
                rw [if_neg (fun h => by
                  have h2 := h.2
                  rw [List.all_eq_false] at h2
                  obtain ⟨n, h3, h4⟩ := h2
                  exact h4 (hg n h3))] at hz
                refine awp_exit ?_
                change Awp _ _ _ _ _
                refine awp_seq ?_
                refine awp_region 1 mixed (by kernel_rfl) ?_
                refine rg_q (q_assign (x := .d (.v _)) rfl) ?_
                refine rg_nil ?_
                refine aops_nil ?_
                change Awp _ _ _ _ _
                refine awp_ret ?_
                refine ⟨_, (.cons (.tmp (by exact .d _)) .nil), ?_⟩
                rw [← hz]; rfl
set_option maxRecDepth 100000 in
theorem rCheckEvents_p (l : List Stp) (ev : List Evt) (hl : ev.length ≤ 100) : PC Try.prog 33 [.sl 4 (l.map stepC), .sl 3 (ev.map evC)] (.tup [.v (.int .i64 ((followS l ev).2.1)), .v (.int .i64 ((followS l ev).2.2))]) := by
  refine pc_of_awp Try.func33 rfl Try.ntmps33 (rs := [.tmp 4, .tmp 5]) Try.results33 (by simp) fun w0 => ?_
  refine awp_seq ?_
  refine awp_region 2 mixed (by kernel_rfl) ?_
  refine rg_q (q_assign (x := .d (.v _)) rfl) ?_
  refine rg_q (q_assign (x := .d (.v _)) rfl) ?_
  refine rg_nil ?_
  refine aops_nil ?_
  change Awp _ _ _ _ _
  refine awp_seq ?_
  refine awp_seq ?_
  refine awp_region 7 mixed (by kernel_rfl) ?_
  refine rg_q (q_move (x := .d (.sl _ _)) rfl) ?_
  refine rg_q (q_call en32 (.cons rfl .nil) rfl (rCheckSteps_p _)) ?_
  refine rg_q (q_move (x := .d (.tup _)) rfl) ?_
  refine rg_q (q_extract rfl rfl) ?_
  refine rg_q (q_extract rfl rfl) ?_
  refine rg_q (q_assign (x := .d (.v _)) rfl) ?_
  refine rg_q (q_assign (x := .d (.v _)) rfl) ?_
  refine rg_nil ?_
  refine aops_nil ?_
  change Awp _ _ _ _ _
  refine awp_seq ?_
  refine awp_region 2 mixed (by kernel_rfl) ?_
  refine rg_q (q_move (x := .d (.v _)) rfl) ?_
  refine rg_q (q_neq rfl rfl) ?_
  refine rg_nil ?_
  refine aops_nil ?_
  change Awp _ _ _ _ _
  refine awp_cond rfl (fun hc2 => ?_) (fun hc2 => ?_)
  ·
    (try simp only [decide_eq_true_eq, decide_eq_false_iff_not, Bool.and_eq_true, Bool.or_eq_true, Bool.and_eq_false_iff, Bool.or_eq_false_iff, Bool.not_eq_true', Bool.not_eq_false', Bool.not_true, Bool.not_false, bif_and, bif_or, Bool.not_not, ne_eq, Decidable.not_not, not_true_eq_false, not_false_eq_true, Int.not_le, Int.not_lt] at hc2)
    have hz : followS l ev = (none, 0, (ckS l).2) := by unfold followS; rw [if_pos hc2]
    refine awp_seq ?_
    refine awp_region 3 mixed (by kernel_rfl) ?_
    refine rg_q (q_move (x := .d (.v _)) rfl) ?_
    refine rg_q (q_assign (x := .d (.v _)) rfl) ?_
    refine rg_q (q_assign (x := .d (.v _)) rfl) ?_
    refine rg_nil ?_
    refine aops_nil ?_
    change Awp _ _ _ _ _
    refine awp_ret ?_
    refine ⟨_, (.cons (.tmp (by exact .d _)) (.cons (.tmp (by exact .d _)) .nil)), ?_⟩
    rw [hz]; rfl
  ·
    (try simp only [decide_eq_true_eq, decide_eq_false_iff_not, Bool.and_eq_true, Bool.or_eq_true, Bool.and_eq_false_iff, Bool.or_eq_false_iff, Bool.not_eq_true', Bool.not_eq_false', Bool.not_true, Bool.not_false, bif_and, bif_or, Bool.not_not, ne_eq, Decidable.not_not, not_true_eq_false, not_false_eq_true, Int.not_le, Int.not_lt] at hc2)
    refine awp_skip ?_
    change Awp _ _ _ _ _
    refine awp_seq ?_
    refine awp_seq ?_
    refine awp_region 3 mixed (by kernel_rfl) ?_
    refine rg_q (q_move (x := .d (.sl _ _)) rfl) ?_
    refine rg_q (q_len isl41 rfl (by exact len_map _ _)) ?_
    refine rg_q (q_gtr rfl rfl) ?_
    refine rg_nil ?_
    refine aops_nil ?_
    change Awp _ _ _ _ _
    refine awp_len (t := 18) rfl (fun hl18 => ?_)
    (try simp only [List.length_map] at hl18)
    refine awp_cond rfl (fun hc4 => ?_) (fun hc4 => ?_)
    ·
      (try simp only [decide_eq_true_eq, decide_eq_false_iff_not, Bool.and_eq_true, Bool.or_eq_true, Bool.and_eq_false_iff, Bool.or_eq_false_iff, Bool.not_eq_true', Bool.not_eq_false', Bool.not_true, Bool.not_false, bif_and, bif_or, Bool.not_not, ne_eq, Decidable.not_not, not_true_eq_false, not_false_eq_true, Int.not_le, Int.not_lt] at hc4)
      have hz : followS l ev = (none, 0, 8) := by unfold followS; rw [if_neg (by simpa using hc2), if_pos (by omega)]
      refine awp_seq ?_
      refine awp_region 2 mixed (by kernel_rfl) ?_
      refine rg_q (q_assign (x := .d (.v _)) rfl) ?_
      refine rg_q (q_assign (x := .d (.v _)) rfl) ?_
      refine rg_nil ?_
      refine aops_nil ?_
      change Awp _ _ _ _ _
      refine awp_ret ?_
      refine ⟨_, (.cons (.tmp (by exact .d _)) (.cons (.tmp (by exact .d _)) .nil)), ?_⟩
      rw [hz]; rfl
    ·
      (try simp only [decide_eq_true_eq, decide_eq_false_iff_not, Bool.and_eq_true, Bool.or_eq_true, Bool.and_eq_false_iff, Bool.or_eq_false_iff, Bool.not_eq_true', Bool.not_eq_false', Bool.not_true, Bool.not_false, bif_and, bif_or, Bool.not_not, ne_eq, Decidable.not_not, not_true_eq_false, not_false_eq_true, Int.not_le, Int.not_lt] at hc4)
      have hz : followS l ev = followFrom l none (List.replicate l.length zeroL) 0 ev := by unfold followS; rw [if_neg (by simpa using hc2), if_neg (by omega)]
      have hr := ckS_right (l := l) hc2
      have hfew := hr.few
      refine awp_skip ?_
      change Awp _ _ _ _ _
      refine awp_seq ?_
      refine awp_seq ?_
      refine awp_region 1 mixed (by kernel_rfl) ?_
      refine rg_q (q_assign (x := .d (.v _)) rfl) ?_
      refine rg_nil ?_
      refine aops_nil ?_
      change Awp _ _ _ _ _
      refine awp_block ?_
      refine awp_loopH [4, 5, 8, 9, 21, 22, 23, 24, 25, 26, 27, 28, 29, 30, 31, 32, 33, 34, 35, 36, 37, 38, 39] [] (α := Nat) (fun k => [(8, T.i (k : Int))]) (fun k => []) (fun k => k ≤ ev.length ∧ followFrom l none (List.replicate l.length zeroL) 0 ev = followFrom l (prevE ev k) (bookOf l (ev.take k)) k (ev.drop k) ∧ ∀ e ∈ ev.take k, EvOk e) (fun k => ev.length - k) 0 ⟨Nat.zero_le _, rfl, fun e he => by simp at he⟩ ?_ ?_
      · exact le_head (ms := []) (by repeat (exact Out.refl _)) ⟨(by rfl), trivial⟩ trivial rfl rfl rfl rfl
      ·
        intro k ⟨hk, hf, hev⟩
        refine awp_seq ?_
        refine awp_seq ?_
        refine awp_region 4 mixed (by kernel_rfl) ?_
        refine rg_q (q_move (x := .d (.v _)) rfl) ?_
        refine rg_q (q_move (x := .d (.sl _ _)) rfl) ?_
        refine rg_q (q_len isl41 rfl (by exact len_map _ _)) ?_
        refine rg_q (q_lss rfl rfl) ?_
        refine rg_nil ?_
        refine aops_nil ?_
        change Awp _ _ _ _ _
        refine awp_len (t := 22) rfl (fun hl22 => ?_)
        (try simp only [List.length_map] at hl22)
        refine awp_cond rfl (fun hc7 => ?_) (fun hc7 => ?_)
        ·
          (try simp only [decide_eq_true_eq, decide_eq_false_iff_not, Bool.and_eq_true, Bool.or_eq_true, Bool.and_eq_false_iff, Bool.or_eq_false_iff, Bool.not_eq_true', Bool.not_eq_false', Bool.not_true, Bool.not_false, bif_and, bif_or, Bool.not_not, ne_eq, Decidable.not_not, not_true_eq_false, not_false_eq_true, Int.not_le, Int.not_lt] at hc7)
          have hlt : k < ev.length := by omega
          obtain ⟨x, hx⟩ : ∃ x, ev[k]? = some x := ⟨_, List.getElem?_eq_getElem hlt⟩
          have hd : followFrom l (prevE ev k) (bookOf l (ev.take k)) k (ev.drop k) = if evBad l (bookOf l (ev.take k)) (prevE ev k) x ≠ 0 then (none, (k : Int), evBad l (bookOf l (ev.take k)) (prevE ev k) x) else followFrom l (prevE ev (k + 1)) (addS l (bookOf l (ev.take k)) x) (k + 1) (ev.drop (k + 1)) := by
            have e : ev[k] = x := by rw [List.getElem?_eq_getElem hlt] at hx; exact Option.some.inj hx
            rw [List.drop_eq_getElem_cons hlt, show prevE ev (k + 1) = some x.minute from by simp [prevE, hx], e]; rfl
          have hE := eventErr_p l (ev.take k) x hr (by simp; omega) hev
          rw [prevE_take (by omega)] at hE
          have hsn : addS l (bookOf l (ev.take k)) x = bookOf l (ev.take (k + 1)) := by rw [List.take_add_one, hx, Option.toList_some, bookOf_snoc]
          rw [hsn] at hd
          generalize hb : evBad l (bookOf l (ev.take k)) (prevE ev k) x = b at *
          refine awp_skip ?_
          change Awp _ _ _ _ _
          refine awp_seq ?_
          refine awp_block ?_
          refine awp_seq ?_
          refine awp_region 10 mixed (by kernel_rfl) ?_
          refine rg_q (q_move (x := .d (.sl _ _)) rfl) ?_
          refine rg_q (q_move (x := .d (.sl _ _)) rfl) ?_
          refine rg_q (q_move (x := .d (.v _)) rfl) ?_
          refine rg_q (q_slice (lo := 0) (hi := k) sl41 rfl rfl rfl (by omega) (by simp only [List.length_map]; omega) (by exact map_slice _ _ _ _)) ?_
          refine rg_q (q_move (x := .d (.sl _ _)) rfl) ?_
          refine rg_q (q_move (x := .d (.v _)) rfl) ?_
          refine rg_q (q_indexAddr sl41 rfl rfl (by (omega)) (map_at (by (omega)) hx)) ?_
          refine rg_q (q_loadA (ds := [_, _, _]) sz90 rfl rfl rfl) ?_
          refine rg_q (q_call en83 (.cons rfl (.cons rfl (.cons rfl .nil))) rfl (hE)) ?_
          refine rg_q (q_assign (x := .d (.v _)) rfl) ?_
          refine rg_nil ?_
          refine aops_nil ?_
          change Awp _ _ _ _ _
          refine awp_seq ?_
          refine awp_region 2 mixed (by kernel_rfl) ?_
          refine rg_q (q_move (x := .d (.v _)) rfl) ?_
          refine rg_q (q_neq rfl rfl) ?_
          refine rg_nil ?_
          refine aops_nil ?_
          change Awp _ _ _ _ _
          refine awp_cond rfl (fun hc10 => ?_) (fun hc10 => ?_)
          ·
            (try simp only [decide_eq_true_eq, decide_eq_false_iff_not, Bool.and_eq_true, Bool.or_eq_true, Bool.and_eq_false_iff, Bool.or_eq_false_iff, Bool.not_eq_true', Bool.not_eq_false', Bool.not_true, Bool.not_false, bif_and, bif_or, Bool.not_not, ne_eq, Decidable.not_not, not_true_eq_false, not_false_eq_true, Int.not_le, Int.not_lt] at hc10)
            rw [if_pos hc10] at hd
            refine awp_seq ?_
            refine awp_region 4 mixed (by kernel_rfl) ?_
            refine rg_q (q_move (x := .d (.v _)) rfl) ?_
            refine rg_q (q_move (x := .d (.v _)) rfl) ?_
            refine rg_q (q_assign (x := .d (.v _)) rfl) ?_
            refine rg_q (q_assign (x := .d (.v _)) rfl) ?_
            refine rg_nil ?_
            refine aops_nil ?_
            change Awp _ _ _ _ _
            refine awp_ret ?_
            refine ⟨_, (.cons (.tmp (by exact .d _)) (.cons (.tmp (by exact .d _)) .nil)), ?_⟩
            rw [hz, hf, hd]; rfl
          ·
            (try simp only [decide_eq_true_eq, decide_eq_false_iff_not, Bool.and_eq_true, Bool.or_eq_true, Bool.and_eq_false_iff, Bool.or_eq_false_iff, Bool.not_eq_true', Bool.not_eq_false', Bool.not_true, Bool.not_false, bif_and, bif_or, Bool.not_not, ne_eq, Decidable.not_not, not_true_eq_false, not_false_eq_true, Int.not_le, Int.not_lt] at hc10)
            rw [if_neg (by simpa using hc10)] at hd
            have hxo : EvOk x := by
              have hb0 : evBad l (bookOf l (ev.take k)) (prevE ev k) x = 0 := by rw [hb]; exact hc10
              unfold evBad at hb0
              split at hb0
              · simp at hb0
              · split at hb0
                · simp at hb0
                · split at hb0
                  · simp at hb0
                  · rename_i h1 h2 h3
                    simp [inR] at h1 h3
                    exact ⟨by omega, by omega, by omega, by omega⟩
            refine awp_skip ?_
            change Awp _ _ _ _ _
            refine awp_region 3 mixed (by kernel_rfl) ?_
            refine rg_q (q_move (x := .d (.v _)) rfl) ?_
            refine rg_q (q_add rfl rfl (In64.mk (by (omega)) (by (omega)))) ?_
            refine rg_q (q_assign (x := .d (.v _)) rfl) ?_
            refine rg_nil ?_
            refine aops_nil ?_
            refine ⟨k + 1, ⟨by omega, by rw [hf, hd], (fun e he => by rw [List.take_add_one, hx, Option.toList_some, List.mem_append] at he; rcases he with h | h; exact hev e h; simp at h; subst h; exact hxo)⟩, by omega, ?_⟩
            exact le_head (ms := []) (by repeat (first | exact Out.head rfl rfl | (refine Out.put ?_ rfl))) ⟨(by rfl), trivial⟩ trivial rfl rfl rfl rfl
        ·
          (try simp only [decide_eq_true_eq, decide_eq_false_iff_not, Bool.and_eq_true, Bool.or_eq_true, Bool.and_eq_false_iff, Bool.or_eq_false_iff, Bool.not_eq_true', Bool.not_eq_false', Bool.not_true, Bool.not_false, bif_and, bif_or, Bool.not_not, ne_eq, Decidable.not_not, not_true_eq_false, not_false_eq_true, Int.not_le, Int.not_lt] at hc7)
          refine awp_exit ?_
          change Awp _ _ _ _ _
          refine awp_seq ?_
          refine awp_region 2 mixed (by kernel_rfl) ?_
          refine rg_q (q_assign (x := .d (.v _)) rfl) ?_
          refine rg_q (q_assign (x := .d (.v _)) rfl) ?_
          refine rg_nil ?_
          refine aops_nil ?_
          change Awp _ _ _ _ _
          refine awp_ret ?_
          refine ⟨_, (.cons (.tmp (by exact .d _)) (.cons (.tmp (by exact .d _)) .nil)), ?_⟩
          rw [hz, hf, List.drop_of_length_le (by omega)]; rfl
set_option maxRecDepth 100000 in
theorem checkEvents_p (l : List Stp) (hs : ∀ s ∈ l, SzOk s.nm) (ev : List Evt) : PC Try.prog 30 [.sl 4 (l.map stepC), .sl 3 (ev.map evC)] (.tup [.v (.int .i64 ((followS l ev).2.1)), .v (.int .i64 ((followS l ev).2.2))]) := by
  refine pc_of_awp Try.func30 rfl Try.ntmps30 (rs := [.tmp 4, .tmp 5]) Try.results30 (by simp) fun w0 => ?_
  refine awp_seq ?_
  refine awp_region 2 mixed (by kernel_rfl) ?_
  refine rg_q (q_assign (x := .d (.v _)) rfl) ?_
  refine rg_q (q_assign (x := .d (.v _)) rfl) ?_
  refine rg_nil ?_
  refine aops_nil ?_
  change Awp _ _ _ _ _
  refine awp_seq ?_
  refine awp_region 10 mixed (by kernel_rfl) ?_
  refine rg_q (q_move (x := .d (.sl _ _)) rfl) ?_
  refine rg_q (q_move (x := .d (.sl _ _)) rfl) ?_
  refine rg_q (q_call en81 (.cons rfl (.cons rfl .nil)) rfl (follow_p _ hs _)) ?_
  refine rg_q (q_move (x := .d (.tup _)) rfl) ?_
  refine rg_q (q_extract rfl rfl) ?_
  refine rg_q (q_extract rfl rfl) ?_
  refine rg_q (q_extract rfl rfl) ?_
  refine rg_q (q_assign (x := .d _) rfl) ?_
  refine rg_q (q_assign (x := .d (.v _)) rfl) ?_
  refine rg_q (q_assign (x := .d (.v _)) rfl) ?_
  refine rg_nil ?_
  refine aops_nil ?_
  change Awp _ _ _ _ _
  refine awp_seq ?_
  refine awp_region 4 mixed (by kernel_rfl) ?_
  refine rg_q (q_move (x := .d (.v _)) rfl) ?_
  refine rg_q (q_move (x := .d (.v _)) rfl) ?_
  refine rg_q (q_assign (x := .d (.v _)) rfl) ?_
  refine rg_q (q_assign (x := .d (.v _)) rfl) ?_
  refine rg_nil ?_
  refine aops_nil ?_
  change Awp _ _ _ _ _
  refine awp_ret ?_
  refine ⟨_, (.cons (.tmp (by exact .d _)) (.cons (.tmp (by exact .d _)) .nil)), ?_⟩
  rfl
end Go.Proofs.Ytgdcidbpadhkpaa.Am.M
