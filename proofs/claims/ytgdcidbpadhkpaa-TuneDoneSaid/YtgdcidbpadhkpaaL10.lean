/- Contracts over the abstract machine: TuneDone. Conditions: none. -/
import Derived.Test.YtgdcidbpadhkpaaC17
set_option linter.unusedVariables false
set_option linter.unusedSimpArgs false
-- mini
namespace Go.Proofs.Ytgdcidbpadhkpaa.Am.M
open Go
set_option maxHeartbeats 8000000 in
set_option maxRecDepth 100000 in
theorem tuneDone_p (l : List Stp) (ev : List Evt) (m b : Int) : PC Try.prog 12 [.sl 4 (l.map stepC), .sl 3 (ev.map evC), .agg [.v (.int .i64 (m)), .v (.int .i64 (b))]] (.v (.bool true)) := by
  refine pc_of_awpN Try.func12 rfl Try.ntmps12 (rs := [.tmp 6]) Try.results12 (by simp) fun w0 hmine => ?_
  refine awp_seq ?_
  refine awp_region 2 mixed (by kernel_rfl) ?_
  refine rg_q (q_box rfl (by exact .inr ⟨_, rfl⟩)) ?_
  refine rg_q (q_assign (x := .d (.v _)) rfl) ?_
  refine rg_nil ?_
  refine aops_nil ?_
  change Awp _ _ _ _ _
  refine awp_seq ?_
  refine awp_seq ?_
  refine awp_region 2 mixed (by kernel_rfl) ?_
  refine rg_q (q_call en16 .nil rfl (awake_p)) ?_
  refine rg_q (q_not rfl) ?_
  refine rg_nil ?_
  refine aops_nil ?_
  change Awp _ _ _ _ _
  refine awp_cond rfl (fun hc1 => ?_) (fun hc1 => ?_)
  ·
    exfalso; (try simp only [decide_eq_true_eq, decide_eq_false_iff_not, Bool.and_eq_true, Bool.or_eq_true, Bool.and_eq_false_iff, Bool.or_eq_false_iff, Bool.not_eq_true', Bool.not_eq_false', Bool.not_true, Bool.not_false, bif_and, bif_or, Bool.not_not, ne_eq, Decidable.not_not, not_true_eq_false, not_false_eq_true, Int.not_le, Int.not_lt] at hc1); simp_all
  ·
    (try simp only [decide_eq_true_eq, decide_eq_false_iff_not, Bool.and_eq_true, Bool.or_eq_true, Bool.and_eq_false_iff, Bool.or_eq_false_iff, Bool.not_eq_true', Bool.not_eq_false', Bool.not_true, Bool.not_false, bif_and, bif_or, Bool.not_not, ne_eq, Decidable.not_not, not_true_eq_false, not_false_eq_true, Int.not_le, Int.not_lt] at hc1)
    refine awp_skip ?_
    change Awp _ _ _ _ _
    refine awp_seq ?_
    refine awp_seq ?_
    refine awp_region 9 mixed (by kernel_rfl) ?_
    refine rg_q (q_move (x := .d (.sl _ _)) rfl) ?_
    refine rg_q (q_move (x := .d (.sl _ _)) rfl) ?_
    refine rg_q (q_call en27 (.cons rfl (.cons rfl .nil)) rfl (play_p _ _)) ?_
    refine rg_q (q_not rfl) ?_
    refine rg_q (q_move (x := .d (.v _)) rfl) ?_
    refine rg_g rfl rfl (fun hG => (q_move (x := .d (.sl _ _)) rfl)) ?_
    refine rg_g rfl rfl (fun hG => (q_len isl41 rfl (by exact len_map _ _))) ?_
    refine rg_g rfl rfl (fun hG => (q_gtr rfl rfl)) ?_
    refine rg_pick rfl rfl rfl rfl rfl rfl ?_
    refine rg_nil ?_
    refine aops_nil ?_
    change Awp _ _ _ _ _
    refine awp_cond rfl (fun hc3 => ?_) (fun hc3 => ?_)
    ·
      (try simp only [decide_eq_true_eq, decide_eq_false_iff_not, Bool.and_eq_true, Bool.or_eq_true, Bool.and_eq_false_iff, Bool.or_eq_false_iff, Bool.not_eq_true', Bool.not_eq_false', Bool.not_true, Bool.not_false, bif_and, bif_or, Bool.not_not, ne_eq, Decidable.not_not, not_true_eq_false, not_false_eq_true, Int.not_le, Int.not_lt] at hc3)
      refine awp_seq ?_
      refine awp_region 1 mixed (by kernel_rfl) ?_
      refine rg_q (q_assign (x := .d (.v _)) rfl) ?_
      refine rg_nil ?_
      refine aops_nil ?_
      change Awp _ _ _ _ _
      refine awp_ret ?_
      refine ⟨_, (.cons (.tmp (by exact .d _)) .nil), ?_⟩
      rfl
    ·
      (try simp only [decide_eq_true_eq, decide_eq_false_iff_not, Bool.and_eq_true, Bool.or_eq_true, Bool.and_eq_false_iff, Bool.or_eq_false_iff, Bool.not_eq_true', Bool.not_eq_false', Bool.not_true, Bool.not_false, bif_and, bif_or, Bool.not_not, ne_eq, Decidable.not_not, not_true_eq_false, not_false_eq_true, Int.not_le, Int.not_lt] at hc3)
      obtain ⟨hpl, hl14⟩ := hc3
      obtain ⟨n1, n2, n3⟩ := play_few hpl
      have hs : ∀ s ∈ l, SzOk s.nm := fun s h => by have := (n3 s h).1; show s.nm.size ≤ _; omega
      have hn : ∀ s ∈ l, s.needs.length ≤ 1000 := fun s h => by have := (n3 s h).2; omega
      have hT := ToDo_p l hs ev m
      obtain ⟨a, ha⟩ : ∃ a, atE l ev m = a := ⟨_, rfl⟩
      rw [ha] at hT
      obtain ⟨X, hX⟩ : ∃ X, (if a = 0 then todoTo l (bookOf l ev) m l.length else []) = X := ⟨_, rfl⟩
      rw [hX] at hT
      have hXl : X.length ≤ l.length := by
        rw [← hX]
        split
        · exact todo_len
        · exact Nat.zero_le _
      refine awp_skip ?_
      change Awp _ _ _ _ _
      refine awp_seq ?_
      refine awp_region 12 mixed (by kernel_rfl) ?_
      refine rg_q (q_move (x := .d (.sl _ _)) rfl) ?_
      refine rg_q (q_call en29 (.cons rfl .nil) rfl (copySteps_p l (by omega) hn)) ?_
      refine rg_q (q_move (x := .d (.sl _ _)) rfl) ?_
      refine rg_q (q_call en31 (.cons rfl .nil) rfl (copyEvents_p ev (by omega))) ?_
      refine rg_q (q_indexAddr_ar ar88 rfl rfl (by (omega)) (by (omega))) ?_
      refine rg_q (q_load sz3 rfl rfl) ?_
      refine rg_q (q_call en51 (.cons rfl (.cons rfl (.cons rfl .nil))) rfl (hT)) ?_
      refine rg_q (q_move (x := .d (.tup _)) rfl) ?_
      refine rg_q (q_extract rfl rfl) ?_
      refine rg_q (q_extract rfl rfl) ?_
      refine rg_q (q_assign (x := .d (.sl _ _)) rfl) ?_
      refine rg_q (q_assign (x := .d (.v _)) rfl) ?_
      refine rg_nil ?_
      refine aops_nil ?_
      change Awp _ _ _ _ _
      refine awp_seq ?_
      refine awp_seq ?_
      refine awp_region 2 mixed (by kernel_rfl) ?_
      refine rg_q (q_move (x := .d (.v _)) rfl) ?_
      refine rg_q (q_neq rfl rfl) ?_
      refine rg_nil ?_
      refine aops_nil ?_
      change Awp _ _ _ _ _
      refine awp_cond rfl (fun hc6 => ?_) (fun hc6 => ?_)
      ·
        (try simp only [decide_eq_true_eq, decide_eq_false_iff_not, Bool.and_eq_true, Bool.or_eq_true, Bool.and_eq_false_iff, Bool.or_eq_false_iff, Bool.not_eq_true', Bool.not_eq_false', Bool.not_true, Bool.not_false, bif_and, bif_or, Bool.not_not, ne_eq, Decidable.not_not, not_true_eq_false, not_false_eq_true, Int.not_le, Int.not_lt] at hc6)
        have hz : a ≠ 0 := hc6
        rw [if_neg hz] at hX
        subst hX
        refine awp_seq ?_
        refine awp_region 4 mixed (by kernel_rfl) ?_
        refine rg_q (q_move (x := .d (.sl _ _)) rfl) ?_
        refine rg_q (q_len isl25 rfl (by exact len_map _ _)) ?_
        refine rg_q (q_eql rfl rfl) ?_
        refine rg_q (q_assign (x := .d (.v _)) rfl) ?_
        refine rg_nil ?_
        refine aops_nil ?_
        change Awp _ _ _ _ _
        refine awp_len (t := 49) rfl (fun hl49 => ?_)
        (try simp only [List.length_map] at hl49)
        refine awp_ret ?_
        refine ⟨_, (.cons (.tmp (by exact .d _)) .nil), ?_⟩
        rfl
      ·
        (try simp only [decide_eq_true_eq, decide_eq_false_iff_not, Bool.and_eq_true, Bool.or_eq_true, Bool.and_eq_false_iff, Bool.or_eq_false_iff, Bool.not_eq_true', Bool.not_eq_false', Bool.not_true, Bool.not_false, bif_and, bif_or, Bool.not_not, ne_eq, Decidable.not_not, not_true_eq_false, not_false_eq_true, Int.not_le, Int.not_lt] at hc6)
        have hz : a = 0 := hc6
        subst hz
        rw [if_pos rfl] at hX
        obtain ⟨hF, hM⟩ := atE_ok ha
        obtain ⟨-, hr, hev, -⟩ := follow_book hF
        have hfew := hr.few
        have hXa := todo_asc l (bookOf l ev) m l.length
        have hXm : ∀ x ∈ X, ∃ n : Nat, x = (n : Int) ∧ n < l.length ∧ validS l (bookOf l ev) n m = false := fun x h => todo_mem (by rw [hX]; exact h)
        obtain ⟨hA1, hA2⟩ := all_right hF hM (by omega) l.length (Nat.le_refl _)
        rw [hX] at hXa hA1 hA2
        obtain ⟨q, hq⟩ : ∃ q : Int, X.getD (b % (X.length : Int)).toNat 0 = q := ⟨_, rfl⟩
        refine awp_skip ?_
        change Awp _ _ _ _ _
        refine awp_seq ?_
        refine awp_seq ?_
        refine awp_region 5 mixed (by kernel_rfl) ?_
        refine rg_q (q_move (x := .d (.sl _ _)) rfl) ?_
        refine rg_q (q_len isl25 rfl (by exact len_map _ _)) ?_
        refine rg_q (q_move (x := .d (.sl _ _)) rfl) ?_
        refine rg_q (q_len isl40 rfl (by exact len_map _ _)) ?_
        refine rg_q (q_gtr rfl rfl) ?_
        refine rg_nil ?_
        refine aops_nil ?_
        change Awp _ _ _ _ _
        refine awp_len (t := 52) rfl (fun hl52 => ?_)
        (try simp only [List.length_map] at hl52)
        refine awp_len (t := 54) rfl (fun hl54 => ?_)
        (try simp only [List.length_map] at hl54)
        refine awp_cond rfl (fun hc8 => ?_) (fun hc8 => ?_)
        ·
          exfalso; (try simp only [decide_eq_true_eq, decide_eq_false_iff_not, Bool.and_eq_true, Bool.or_eq_true, Bool.and_eq_false_iff, Bool.or_eq_false_iff, Bool.not_eq_true', Bool.not_eq_false', Bool.not_true, Bool.not_false, bif_and, bif_or, Bool.not_not, ne_eq, Decidable.not_not, not_true_eq_false, not_false_eq_true, Int.not_le, Int.not_lt] at hc8); omega
        ·
          (try simp only [decide_eq_true_eq, decide_eq_false_iff_not, Bool.and_eq_true, Bool.or_eq_true, Bool.and_eq_false_iff, Bool.or_eq_false_iff, Bool.not_eq_true', Bool.not_eq_false', Bool.not_true, Bool.not_false, bif_and, bif_or, Bool.not_not, ne_eq, Decidable.not_not, not_true_eq_false, not_false_eq_true, Int.not_le, Int.not_lt] at hc8)
          refine awp_skip ?_
          change Awp _ _ _ _ _
          refine awp_seq ?_
          refine awp_region 1 mixed (by kernel_rfl) ?_
          refine rg_q (q_assign (x := .d (.v _)) rfl) ?_
          refine rg_nil ?_
          refine aops_nil ?_
          change Awp _ _ _ _ _
          refine awp_seq ?_
          refine awp_seq ?_
          refine awp_region 3 mixed (by kernel_rfl) ?_
          refine rg_q (q_move (x := .d (.sl _ _)) rfl) ?_
          refine rg_q (q_len isl41 rfl (by exact len_map _ _)) ?_
          refine rg_q (q_assign (x := .d (.v _)) rfl) ?_
          refine rg_nil ?_
          refine aops_nil ?_
          change Awp _ _ _ _ _
          refine awp_len (t := 57) rfl (fun hl57 => ?_)
          (try simp only [List.length_map] at hl57)
          refine awp_seq ?_
          refine awp_region 2 mixed (by kernel_rfl) ?_
          refine rg_q (q_move (x := .d (.v _)) rfl) ?_
          refine rg_q (q_gtr rfl rfl) ?_
          refine rg_nil ?_
          refine aops_nil ?_
          change Awp _ _ _ _ _
          refine awp_cond rfl (fun hc12 => ?_) (fun hc12 => ?_)
          ·
            (try simp only [decide_eq_true_eq, decide_eq_false_iff_not, Bool.and_eq_true, Bool.or_eq_true, Bool.and_eq_false_iff, Bool.or_eq_false_iff, Bool.not_eq_true', Bool.not_eq_false', Bool.not_true, Bool.not_false, bif_and, bif_or, Bool.not_not, ne_eq, Decidable.not_not, not_true_eq_false, not_false_eq_true, Int.not_le, Int.not_lt] at hc12)
            obtain ⟨y, hy⟩ : ∃ y, ev[ev.length - 1]? = some y := ⟨_, List.getElem?_eq_getElem (by omega)⟩
            have hwv : y.warmth = warmE ev := by unfold warmE; rw [if_pos (by omega), getD_at hy]
            refine awp_region 7 mixed (by kernel_rfl) ?_
            refine rg_q (q_move (x := .d (.sl _ _)) rfl) ?_
            refine rg_q (q_move (x := .d (.v _)) rfl) ?_
            refine rg_q (q_sub rfl rfl (In64.mk (by (omega)) (by (omega)))) ?_
            refine rg_q (q_indexAddr sl41 rfl rfl (by (omega)) (map_at (k := ev.length - 1) (by (omega)) hy)) ?_
            refine rg_q (q_fieldAddr fld90_2 rfl) ?_
            refine rg_q (q_load sz3 rfl rfl) ?_
            refine rg_q (q_assign (x := .d (.v _)) rfl) ?_
            refine rg_nil ?_
            refine aops_nil ?_
            change Awp _ _ _ _ _
            refine awp_seq ?_
            refine awp_region 1 mixed (by kernel_rfl) ?_
            refine rg_q (q_move (x := .d (.sl _ _)) rfl) ?_
            refine rg_nil ?_
            refine aops_callN [68] en31 (copyEventsN_p ev (by omega)) rfl (.cons (by exact .d _) .nil) rfl (newS.none rfl rfl) rfl (fun x hx => by rcases List.mem_singleton.1 hx with rfl; exact evC_flat ev) trivial ?_
            refine aops_q rfl (q_move (x := .d (.sl _ _)) rfl) ?_
            refine aops_callN [70] en31 (copyEventsN_p ev (by omega)) rfl (.cons (by exact .d _) .nil) rfl (newS.none rfl rfl) rfl (fun x hx => by rcases List.mem_singleton.1 hx with rfl; exact evC_flat ev) trivial ?_
            refine aops_q rfl (q_assign (x := .rs _) rfl) ?_
            refine aops_q rfl (q_assign (x := .rs _) rfl) ?_
            refine aops_nil ?_
            change Awp _ _ _ _ _
            refine awp_seq ?_
            refine awp_region 1 mixed (by kernel_rfl) ?_
            refine rg_q (q_assign (x := .d (.v _)) rfl) ?_
            refine rg_nil ?_
            refine aops_nil ?_
            change Awp _ _ _ _ _
            refine awp_seq ?_
            refine awp_seq ?_
            refine awp_region 1 mixed (by kernel_rfl) ?_
            refine rg_q (q_assign (x := .d (.v _)) rfl) ?_
            refine rg_nil ?_
            refine aops_nil ?_
            change Awp _ _ _ _ _
            refine awp_block ?_
            refine awp_loopH [11, 12, 14, 15, 16, 17, 71, 72, 73, 74, 75, 76, 77, 78, 79, 80, 81, 82, 83, 84, 85, 86, 87, 88, 89, 90, 91, 92, 93, 94, 95, 96, 97, 98, 99, 100, 101, 102, 103, 104, 105, 106, 107, 108, 109, 110, 111, 112, 68, 70] [68, 70] (α := Nat × List Evt) (fun p => [(14, T.i (p.1 : Int)), (11, .rs 68), (12, .rs 70)]) (fun p => [(68, .row 90 3 ((ev ++ (X.take p.1).map (mkE m (warmE ev))).map evC)), (70, .row 90 3 ((ev ++ p.2).map evC))]) (fun p => p.1 ≤ X.length ∧ p.2.length ≤ p.1 ∧ (followS l (ev ++ p.2)).2.2 = 0 ∧ ∀ e ∈ p.2, e.minute = m ∧ e.step ≠ q) (fun p => X.length - p.1) (0, []) ⟨Nat.zero_le _, Nat.le_refl _, by simp only [List.append_nil]; exact hF, fun e he => by cases he⟩ ?_ ?_
            · exact le_head (ms := [68, 70]) (by repeat (exact Out.refl _)) ⟨(by rfl), (by rfl), (by rfl), trivial⟩ ⟨(by ((show Site.row 90 3 (List.map evC ev) = _; simp; done))), (by ((show Site.row 90 3 (List.map evC ev) = _; simp; done))), trivial⟩ rfl rfl rfl rfl
            ·
              intro ⟨i, G⟩ ⟨hi, hgl0, hg1, hg2⟩
              simp only at hi hgl0 hg1 hg2
              refine awp_seq ?_
              refine awp_seq ?_
              refine awp_region 4 mixed (by kernel_rfl) ?_
              refine rg_q (q_move (x := .d (.v _)) rfl) ?_
              refine rg_q (q_move (x := .d (.sl _ _)) rfl) ?_
              refine rg_q (q_len isl25 rfl (by exact len_map _ _)) ?_
              refine rg_q (q_lss rfl rfl) ?_
              refine rg_nil ?_
              refine aops_nil ?_
              change Awp _ _ _ _ _
              refine awp_len (t := 72) rfl (fun hl72 => ?_)
              (try simp only [List.length_map] at hl72)
              refine awp_cond rfl (fun hc17 => ?_) (fun hc17 => ?_)
              ·
                (try simp only [decide_eq_true_eq, decide_eq_false_iff_not, Bool.and_eq_true, Bool.or_eq_true, Bool.and_eq_false_iff, Bool.or_eq_false_iff, Bool.not_eq_true', Bool.not_eq_false', Bool.not_true, Bool.not_false, bif_and, bif_or, Bool.not_not, ne_eq, Decidable.not_not, not_true_eq_false, not_false_eq_true, Int.not_le, Int.not_lt] at hc17)
                have hlt : i < X.length := by omega
                obtain ⟨x, hx⟩ : ∃ x, X[i]? = some x := ⟨_, List.getElem?_eq_getElem hlt⟩
                have hall : List.map evC (ev ++ (X.take (i + 1)).map (mkE m (warmE ev))) = List.map evC (ev ++ (X.take i).map (mkE m (warmE ev))) ++ [evC (mkE m (warmE ev) x)] := by
                  rw [List.take_add_one, hx, Option.toList_some]; simp
                have hal : (ev ++ (X.take i).map (mkE m (warmE ev))).length ≤ 40 := by simp; omega
                have hgl : (ev ++ G).length ≤ 40 := by simp; omega
                have hmod1 := Int.emod_nonneg b (by omega : (X.length : Int) ≠ 0)
                have hmod2 := Int.emod_lt_of_pos b (by omega : (0 : Int) < (X.length : Int))
                have hqx : X[(b % (X.length : Int)).toNat]? = some q := by rw [← hq, List.getD_eq_getElem?_getD, List.getElem?_eq_getElem (by omega)]; rfl
                have hCe := checkEvents_p l hs ((ev ++ G) ++ [mkE m (warmE ev) x])
                obtain ⟨F, hFe⟩ : ∃ F, followS l ((ev ++ G) ++ [mkE m (warmE ev) x]) = F := ⟨_, rfl⟩
                rw [hFe] at hCe
                refine awp_skip ?_
                change Awp _ _ _ _ _
                refine awp_seq ?_
                refine awp_block ?_
                refine awp_seq ?_
                refine awp_regionM 10 [none, none, none, none, none, none, none, none, some 15, some 15] mixed (by kernel_rfl) ?_
                refine rgm_q rfl (q_indexAddr_ar ar88 rfl rfl (by (omega)) (by (omega))) ?_
                refine rgm_q rfl (q_load sz3 rfl rfl) ?_
                refine rgm_q rfl (q_move (x := .d (.sl _ _)) rfl) ?_
                refine rgm_q rfl (q_move (x := .d (.v _)) rfl) ?_
                refine rgm_q rfl (q_indexAddr sl25 rfl rfl (by (omega)) (map_at (by (omega)) hx)) ?_
                refine rgm_q rfl (q_load sz3 rfl rfl) ?_
                refine rgm_q rfl (q_move (x := .d (.v _)) rfl) ?_
                refine rgm_q rfl (q_build (cs := [_, _, _]) pl90 zr90 rfl (.cons rfl (by exact .inl rfl) (.cons rfl (by exact .inl rfl) (.cons rfl (by exact .inl rfl) .nil))) ⟨⟨rfl, by decide⟩, ⟨rfl, by decide⟩, ⟨rfl, by decide⟩, trivial⟩ rfl) ?_
                refine rgm_m (k := 15) rfl rfl (by rfl) (m_alloc zr90 rfl rfl) ?_
                refine rgm_m (k := 15) rfl rfl (by rfl) (m_store sz90 rfl rfl (by exact .inr ⟨_, rfl⟩) rfl rfl (by decide) rfl) ?_
                refine rgm_nil ?_
                refine aops_nil ?_
                change Awp _ _ _ _ _
                refine awp_seq ?_
                refine awp_region 3 mixed (by kernel_rfl) ?_
                refine rg_q (q_move (x := .rs _) rfl) ?_
                refine rg_q (q_load_refA (ds := [_, _, _]) sz90 rfl rfl rfl rfl) ?_
                refine rg_q (q_buildSlice sl41 zr90 rfl rfl (by decide) (.cons rfl (by exact .inr ⟨_, rfl⟩) .nil) ⟨rfl, rfl, trivial⟩ rfl (by decide) rfl) ?_
                refine rg_nil ?_
                refine aops_append sl41 zr90 by90 rfl (by decide) rfl rfl rfl rfl (by simp only [List.length_map, List.length_cons, List.length_nil]; omega) (by simp only [List.length_map, List.length_cons, List.length_nil]; omega) rfl rfl ?_
                refine aops_q rfl (q_assign (x := .rs _) rfl) ?_
                refine aops_nil ?_
                change Awp _ _ _ _ _
                refine awp_seq ?_
                refine awp_region 7 mixed (by kernel_rfl) ?_
                refine rg_q (q_move (x := .d (.v _)) rfl) ?_
                refine rg_q (q_indexAddr_ar ar88 rfl rfl (by (omega)) (by (omega))) ?_
                refine rg_q (q_load sz3 rfl rfl) ?_
                refine rg_q (q_move (x := .d (.sl _ _)) rfl) ?_
                refine rg_q (q_len isl25 rfl (by exact len_map _ _)) ?_
                refine rg_q (q_call en56 (.cons rfl (.cons rfl .nil)) rfl (Mod_p _ _ (by omega) (by omega))) ?_
                refine rg_q (q_neq rfl rfl) ?_
                refine rg_nil ?_
                refine aops_nil ?_
                change Awp _ _ _ _ _
                refine awp_len (t := 92) rfl (fun hl92 => ?_)
                (try simp only [List.length_map] at hl92)
                refine awp_cond rfl (fun hc21 => ?_) (fun hc21 => ?_)
                ·
                  (try simp only [decide_eq_true_eq, decide_eq_false_iff_not, Bool.and_eq_true, Bool.or_eq_true, Bool.and_eq_false_iff, Bool.or_eq_false_iff, Bool.not_eq_true', Bool.not_eq_false', Bool.not_true, Bool.not_false, bif_and, bif_or, Bool.not_not, ne_eq, Decidable.not_not, not_true_eq_false, not_false_eq_true, Int.not_le, Int.not_lt] at hc21)
                  have hne : x ≠ q := todo_ne hXa hx hqx (fun e => hc21 (by rw [e]; exact (Int.toNat_of_nonneg hmod1)))
                  refine awp_seq ?_
                  refine awp_regionC 13 [3, 6, 7] [100] mixed (by kernel_rfl) ?_
                  refine rgc_q rfl (q_move (x := .d (.sl _ _)) rfl) rfl ?_
                  refine rgc_q rfl (q_call en29 (.cons rfl .nil) rfl (copySteps_p l (by omega) hn)) rfl ?_
                  refine rgc_q rfl (q_move (x := .rs _) rfl) rfl ?_
                  refine rgc_c rfl rfl (c_callN en31 (copyEventsN_p (ev ++ G) (by omega)) rfl (.cons (by exact .rs rfl) .nil) rfl (evC_flat _)) ?_
                  refine rgc_q rfl (q_load_refA (ds := [_, _, _]) sz90 rfl rfl rfl rfl) rfl ?_
                  refine rgc_q rfl (q_buildSlice sl41 zr90 rfl rfl (by decide) (.cons rfl (by exact .inr ⟨_, rfl⟩) .nil) ⟨rfl, rfl, trivial⟩ rfl (by decide) rfl) rfl ?_
                  refine rgc_c rfl rfl (c_append (es' := ((ev ++ G) ++ [mkE m (warmE ev) x]).map evC) sl41 zr90 by90 rfl (by decide) rfl rfl rfl rfl (by simp only [List.length_map, List.length_cons, List.length_nil]; omega) (by simp only [List.length_map, List.length_cons, List.length_nil]; omega) (by rw [List.map_append (l₁ := ev ++ G), ← hwv]; rfl)) ?_
                  refine rgc_c rfl rfl (c_q (q_callF en30 (.cons (by exact .d _) (.cons (by exact .rs rfl) .nil)) rfl (hCe) (by exact D.Flat.tupF (by repeat first | exact trivial | refine ⟨.v _, ?_⟩)))) ?_
                  refine rgc_q rfl (q_move (x := .d (.tup _)) rfl) rfl ?_
                  refine rgc_q rfl (q_extract rfl rfl) rfl ?_
                  refine rgc_q rfl (q_extract rfl rfl) rfl ?_
                  refine rgc_q rfl (q_assign (x := .d (.v _)) rfl) rfl ?_
                  refine rgc_q rfl (q_assign (x := .d (.v _)) rfl) rfl ?_
                  refine rgc_nil ?_
                  refine aops_nil ?_
                  change Awp _ _ _ _ _
                  refine awp_seq ?_
                  refine awp_region 2 mixed (by kernel_rfl) ?_
                  refine rg_q (q_move (x := .d (.v _)) rfl) ?_
                  refine rg_q (q_eql rfl rfl) ?_
                  refine rg_nil ?_
                  refine aops_nil ?_
                  change Awp _ _ _ _ _
                  refine awp_cond rfl (fun hc23 => ?_) (fun hc23 => ?_)
                  ·
                    (try simp only [decide_eq_true_eq, decide_eq_false_iff_not, Bool.and_eq_true, Bool.or_eq_true, Bool.and_eq_false_iff, Bool.or_eq_false_iff, Bool.not_eq_true', Bool.not_eq_false', Bool.not_true, Bool.not_false, bif_and, bif_or, Bool.not_not, ne_eq, Decidable.not_not, not_true_eq_false, not_false_eq_true, Int.not_le, Int.not_lt] at hc23)
                    have hf0 : (followS l ((ev ++ G) ++ [mkE m (warmE ev) x])).2.2 = 0 := by rw [hFe]; exact hc23
                    refine awp_region 3 mixed (by kernel_rfl) ?_
                    refine rg_q (q_move (x := .rs _) rfl) ?_
                    refine rg_q (q_load_refA (ds := [_, _, _]) sz90 rfl rfl rfl rfl) ?_
                    refine rg_q (q_buildSlice sl41 zr90 rfl rfl (by decide) (.cons rfl (by exact .inr ⟨_, rfl⟩) .nil) ⟨rfl, rfl, trivial⟩ rfl (by decide) rfl) ?_
                    refine rg_nil ?_
                    refine aops_append sl41 zr90 by90 rfl (by decide) rfl rfl rfl rfl (by simp only [List.length_map, List.length_cons, List.length_nil]; omega) (by simp only [List.length_map, List.length_cons, List.length_nil]; omega) rfl rfl ?_
                    refine aops_q rfl (q_assign (x := .rs _) rfl) ?_
                    refine aops_nil ?_
                    change Awp _ _ _ _ _
                    refine awp_region 3 mixed (by kernel_rfl) ?_
                    refine rg_q (q_move (x := .d (.v _)) rfl) ?_
                    refine rg_q (q_add rfl rfl (In64.mk (by (omega)) (by (omega)))) ?_
                    refine rg_q (q_assign (x := .d (.v _)) rfl) ?_
                    refine rg_nil ?_
                    refine aops_nil ?_
                    refine ⟨(i + 1, G ++ [mkE m (warmE ev) x]), ⟨by simp only; omega, by simp only [List.length_append, List.length_singleton]; omega, by simp only; rw [← List.append_assoc]; exact hf0, (fun e he => by simp only [List.mem_append, List.mem_singleton] at he; rcases he with h | h; exact hg2 e h; subst h; exact ⟨rfl, hne⟩)⟩, by simp only; omega, ?_⟩
                    exact le_head (ms := [68, 70]) (by repeat (first | exact Out.head rfl rfl | (refine Out.put ?_ rfl) | (refine Out.site ?_ rfl) | (refine Out.killS ?_ rfl) | (refine Out.ovD ?_ rfl))) ⟨(by rfl), (by rfl), (by rfl), trivial⟩ ⟨(by ((show Site.row 90 3 (List.map evC (ev ++ (X.take i).map (mkE m (warmE ev))) ++ [_]) = _; rw [hall, ← hwv]; rfl))), (by ((show Site.row 90 3 (List.map evC (ev ++ G) ++ [_]) = _; rw [← List.append_assoc, List.map_append (l₁ := ev ++ G), ← hwv]; rfl))), trivial⟩ rfl rfl rfl rfl
                  ·
                    (try simp only [decide_eq_true_eq, decide_eq_false_iff_not, Bool.and_eq_true, Bool.or_eq_true, Bool.and_eq_false_iff, Bool.or_eq_false_iff, Bool.not_eq_true', Bool.not_eq_false', Bool.not_true, Bool.not_false, bif_and, bif_or, Bool.not_not, ne_eq, Decidable.not_not, not_true_eq_false, not_false_eq_true, Int.not_le, Int.not_lt] at hc23)
                    refine awp_skip ?_
                    change Awp _ _ _ _ _
                    refine awp_region 3 mixed (by kernel_rfl) ?_
                    refine rg_q (q_move (x := .d (.v _)) rfl) ?_
                    refine rg_q (q_add rfl rfl (In64.mk (by (omega)) (by (omega)))) ?_
                    refine rg_q (q_assign (x := .d (.v _)) rfl) ?_
                    refine rg_nil ?_
                    refine aops_nil ?_
                    refine ⟨(i + 1, G), ⟨by simp only; omega, by simp only; omega, hg1, hg2⟩, by simp only; omega, ?_⟩
                    exact le_head (ms := [68, 70]) (by repeat (first | exact Out.head rfl rfl | (refine Out.put ?_ rfl) | (refine Out.site ?_ rfl) | (refine Out.killS ?_ rfl) | (refine Out.ovD ?_ rfl))) ⟨(by rfl), (by rfl), (by rfl), trivial⟩ ⟨(by ((show Site.row 90 3 (List.map evC (ev ++ (X.take i).map (mkE m (warmE ev))) ++ [_]) = _; rw [hall, ← hwv]; rfl))), (by rfl), trivial⟩ rfl rfl rfl rfl
                ·
                  (try simp only [decide_eq_true_eq, decide_eq_false_iff_not, Bool.and_eq_true, Bool.or_eq_true, Bool.and_eq_false_iff, Bool.or_eq_false_iff, Bool.not_eq_true', Bool.not_eq_false', Bool.not_true, Bool.not_false, bif_and, bif_or, Bool.not_not, ne_eq, Decidable.not_not, not_true_eq_false, not_false_eq_true, Int.not_le, Int.not_lt] at hc21)
                  refine awp_skip ?_
                  change Awp _ _ _ _ _
                  refine awp_region 3 mixed (by kernel_rfl) ?_
                  refine rg_q (q_move (x := .d (.v _)) rfl) ?_
                  refine rg_q (q_add rfl rfl (In64.mk (by (omega)) (by (omega)))) ?_
                  refine rg_q (q_assign (x := .d (.v _)) rfl) ?_
                  refine rg_nil ?_
                  refine aops_nil ?_
                  refine ⟨(i + 1, G), ⟨by simp only; omega, by simp only; omega, hg1, hg2⟩, by simp only; omega, ?_⟩
                  exact le_head (ms := [68, 70]) (by repeat (first | exact Out.head rfl rfl | (refine Out.put ?_ rfl) | (refine Out.site ?_ rfl) | (refine Out.killS ?_ rfl))) ⟨(by rfl), (by rfl), (by rfl), trivial⟩ ⟨(by ((show Site.row 90 3 (List.map evC (ev ++ (X.take i).map (mkE m (warmE ev))) ++ [_]) = _; rw [hall, ← hwv]; rfl))), (by rfl), trivial⟩ rfl rfl rfl rfl
              ·
                (try simp only [decide_eq_true_eq, decide_eq_false_iff_not, Bool.and_eq_true, Bool.or_eq_true, Bool.and_eq_false_iff, Bool.or_eq_false_iff, Bool.not_eq_true', Bool.not_eq_false', Bool.not_true, Bool.not_false, bif_and, bif_or, Bool.not_not, ne_eq, Decidable.not_not, not_true_eq_false, not_false_eq_true, Int.not_le, Int.not_lt] at hc17)
                have hiX : i = X.length := by omega
                have hti : X.take i = X := List.take_of_length_le (by omega)
                rw [hti]
                have hCa := checkEvents_p l hs (ev ++ X.map (mkE m (warmE ev)))
                rw [(follow_book hA1).1] at hCa
                have hVa := ValidAt_p l hs (ev ++ X.map (mkE m (warmE ev))) m
                rw [at_app hA1 hM (fun e he => by obtain ⟨z, _, rfl⟩ := List.mem_map.1 he; rfl), if_pos rfl] at hVa
                have hVs := ValidAt_p l hs (ev ++ G) m
                rw [at_app hg1 hM (fun e he => (hg2 e he).1), if_pos rfl] at hVs
                have hlX : (ev ++ X.map (mkE m (warmE ev))).length ≤ 40 := by simp; omega
                have hvl1 := validL_len l (bookOf l (ev ++ X.map (mkE m (warmE ev)))) m
                have hvl2 := validL_len l (bookOf l (ev ++ G)) m
                have hbad := fun (n : Nat) h1 h2 h3 => stays_bad (ev := ev) (m := m) hr (G := G) n h1 h2 h3
                generalize bookOf l (ev ++ X.map (mkE m (warmE ev))) = B1 at *
                generalize bookOf l (ev ++ G) = B2 at *
                refine awp_exit ?_
                change Awp _ _ _ _ _
                refine awp_seq ?_
                refine awp_seq ?_
                refine Awp.le (le_freezeR 68 11 rfl rfl rfl rfl hmine) ?_
                refine Awp.le (le_freezeR 70 12 rfl rfl rfl rfl hmine) ?_
                refine awp_region 10 mixed (by kernel_rfl) ?_
                refine rg_q (q_move (x := .d (.sl _ _)) rfl) ?_
                refine rg_q (q_call en29 (.cons rfl .nil) rfl (copySteps_p l (by omega) hn)) ?_
                refine rg_q (q_move (x := .d (.sl _ _)) rfl) ?_
                refine rg_q (q_call en31 (.cons rfl .nil) rfl (copyEvents_p _ (by omega))) ?_
                refine rg_q (q_call en30 (.cons rfl (.cons rfl .nil)) rfl (hCa)) ?_
                refine rg_q (q_move (x := .d (.tup _)) rfl) ?_
                refine rg_q (q_extract rfl rfl) ?_
                refine rg_q (q_extract rfl rfl) ?_
                refine rg_q (q_assign (x := .d (.v _)) rfl) ?_
                refine rg_q (q_assign (x := .d (.v _)) rfl) ?_
                refine rg_nil ?_
                refine aops_nil ?_
                change Awp _ _ _ _ _
                refine awp_seq ?_
                refine awp_region 6 mixed (by kernel_rfl) ?_
                refine rg_q (q_move (x := .d (.v _)) rfl) ?_
                refine rg_q (q_neq rfl rfl) ?_
                refine rg_q (q_move (x := .d (.v _)) rfl) ?_
                refine rg_g rfl rfl (fun hG => (q_move (x := .d (.v _)) rfl)) ?_
                refine rg_g rfl rfl (fun hG => (q_neq rfl rfl)) ?_
                refine rg_pick rfl rfl rfl rfl rfl rfl ?_
                refine rg_nil ?_
                refine aops_nil ?_
                change Awp _ _ _ _ _
                refine awp_cond rfl (fun hc26 => ?_) (fun hc26 => ?_)
                ·
                  exfalso; (try simp only [decide_eq_true_eq, decide_eq_false_iff_not, Bool.and_eq_true, Bool.or_eq_true, Bool.and_eq_false_iff, Bool.or_eq_false_iff, Bool.not_eq_true', Bool.not_eq_false', Bool.not_true, Bool.not_false, bif_and, bif_or, Bool.not_not, ne_eq, Decidable.not_not, not_true_eq_false, not_false_eq_true, Int.not_le, Int.not_lt] at hc26); simp_all
                ·
                  (try simp only [decide_eq_true_eq, decide_eq_false_iff_not, Bool.and_eq_true, Bool.or_eq_true, Bool.and_eq_false_iff, Bool.or_eq_false_iff, Bool.not_eq_true', Bool.not_eq_false', Bool.not_true, Bool.not_false, bif_and, bif_or, Bool.not_not, ne_eq, Decidable.not_not, not_true_eq_false, not_false_eq_true, Int.not_le, Int.not_lt] at hc26)
                  refine awp_skip ?_
                  change Awp _ _ _ _ _
                  refine awp_seq ?_
                  refine awp_region 11 mixed (by kernel_rfl) ?_
                  refine rg_q (q_move (x := .d (.sl _ _)) rfl) ?_
                  refine rg_q (q_call en29 (.cons rfl .nil) rfl (copySteps_p l (by omega) hn)) ?_
                  refine rg_q (q_move (x := .d (.sl _ _)) rfl) ?_
                  refine rg_q (q_indexAddr_ar ar88 rfl rfl (by (omega)) (by (omega))) ?_
                  refine rg_q (q_load sz3 rfl rfl) ?_
                  refine rg_q (q_call en50 (.cons rfl (.cons rfl (.cons rfl .nil))) rfl (hVa)) ?_
                  refine rg_q (q_move (x := .d (.tup _)) rfl) ?_
                  refine rg_q (q_extract rfl rfl) ?_
                  refine rg_q (q_extract rfl rfl) ?_
                  refine rg_q (q_assign (x := .d (.sl _ _)) rfl) ?_
                  refine rg_q (q_assign (x := .d (.v _)) rfl) ?_
                  refine rg_nil ?_
                  refine aops_nil ?_
                  change Awp _ _ _ _ _
                  refine awp_seq ?_
                  refine awp_seq ?_
                  refine awp_region 9 mixed (by kernel_rfl) ?_
                  refine rg_q (q_move (x := .d (.v _)) rfl) ?_
                  refine rg_q (q_neq rfl rfl) ?_
                  refine rg_q (q_move (x := .d (.v _)) rfl) ?_
                  refine rg_g rfl rfl (fun hG => (q_move (x := .d (.sl _ _)) rfl)) ?_
                  refine rg_g rfl rfl (fun hG => (q_len isl77 rfl (by exact len_map _ _))) ?_
                  refine rg_g rfl rfl (fun hG => (q_move (x := .d (.sl _ _)) rfl)) ?_
                  refine rg_g rfl rfl (fun hG => (q_len isl40 rfl (by exact len_map _ _))) ?_
                  refine rg_g rfl rfl (fun hG => (q_neq rfl rfl)) ?_
                  refine rg_pick rfl rfl rfl rfl rfl rfl ?_
                  refine rg_nil ?_
                  refine aops_nil ?_
                  change Awp _ _ _ _ _
                  refine awp_cond rfl (fun hc29 => ?_) (fun hc29 => ?_)
                  ·
                    simp [hvl1] at hc29
                  ·
                    (try simp only [decide_eq_true_eq, decide_eq_false_iff_not, Bool.and_eq_true, Bool.or_eq_true, Bool.and_eq_false_iff, Bool.or_eq_false_iff, Bool.not_eq_true', Bool.not_eq_false', Bool.not_true, Bool.not_false, bif_and, bif_or, Bool.not_not, ne_eq, Decidable.not_not, not_true_eq_false, not_false_eq_true, Int.not_le, Int.not_lt] at hc29)
                    refine awp_skip ?_
                    change Awp _ _ _ _ _
                    refine awp_seq ?_
                    refine awp_seq ?_
                    refine awp_region 1 mixed (by kernel_rfl) ?_
                    refine rg_q (q_assign (x := .d (.v _)) rfl) ?_
                    refine rg_nil ?_
                    refine aops_nil ?_
                    change Awp _ _ _ _ _
                    refine awp_block ?_
                    refine awp_loopH [13, 22, 145, 146, 147, 148, 149, 150, 151, 152, 153, 154, 155, 156, 157] [] (α := Nat) (fun k => [(22, T.i (k : Int)), (13, T.bool true)]) (fun k => []) (fun k => k ≤ l.length) (fun k => l.length - k) 0 (Nat.zero_le _) ?_ ?_
                    · exact le_head (ms := []) (by repeat (exact Out.refl _)) ⟨(by rfl), (by rfl), trivial⟩ trivial rfl rfl rfl rfl
                    ·
                      intro k hk
                      refine awp_seq ?_
                      refine awp_seq ?_
                      refine awp_region 4 mixed (by kernel_rfl) ?_
                      refine rg_q (q_move (x := .d (.v _)) rfl) ?_
                      refine rg_q (q_move (x := .d (.sl _ _)) rfl) ?_
                      refine rg_q (q_len isl77 rfl (by exact len_map _ _)) ?_
                      refine rg_q (q_lss rfl rfl) ?_
                      refine rg_nil ?_
                      refine aops_nil ?_
                      change Awp _ _ _ _ _
                      refine awp_len (t := 146) rfl (fun hl146 => ?_)
                      (try simp only [List.length_map] at hl146)
                      refine awp_cond rfl (fun hc32 => ?_) (fun hc32 => ?_)
                      ·
                        (try simp only [decide_eq_true_eq, decide_eq_false_iff_not, Bool.and_eq_true, Bool.or_eq_true, Bool.and_eq_false_iff, Bool.or_eq_false_iff, Bool.not_eq_true', Bool.not_eq_false', Bool.not_true, Bool.not_false, bif_and, bif_or, Bool.not_not, ne_eq, Decidable.not_not, not_true_eq_false, not_false_eq_true, Int.not_le, Int.not_lt] at hc32)
                        have hkl : k < l.length := by omega
                        have hvk := validL_at (l := l) (L := B1) (m := m) hkl
                        rw [(hA2 k hkl (.inr hkl)).1] at hvk
                        refine awp_skip ?_
                        change Awp _ _ _ _ _
                        refine awp_seq ?_
                        refine awp_block ?_
                        refine awp_region 8 mixed (by kernel_rfl) ?_
                        refine rg_q (q_move (x := .d (.v _)) rfl) ?_
                        refine rg_q (q_move (x := .d (.v _)) rfl) ?_
                        refine rg_g rfl rfl (fun hG => (q_move (x := .d (.sl _ _)) rfl)) ?_
                        refine rg_g rfl rfl (fun hG => (q_move (x := .d (.v _)) rfl)) ?_
                        refine rg_g rfl rfl (fun hG => (q_indexAddr sl77 rfl rfl (by (have hg0 := T.bool_inj (a := _) hG.1; (try simp only [decide_eq_true_eq, decide_eq_false_iff_not, Bool.and_eq_true, Bool.or_eq_true, Bool.and_eq_false_iff, Bool.or_eq_false_iff, Bool.not_eq_true', Bool.not_eq_false', Bool.not_true, Bool.not_false, bif_and, bif_or, Bool.not_not, ne_eq, Decidable.not_not, not_true_eq_false, not_false_eq_true, Int.not_le, Int.not_lt] at hg0); (omega))) (map_at (by (have hg0 := T.bool_inj (a := _) hG.1; (try simp only [decide_eq_true_eq, decide_eq_false_iff_not, Bool.and_eq_true, Bool.or_eq_true, Bool.and_eq_false_iff, Bool.or_eq_false_iff, Bool.not_eq_true', Bool.not_eq_false', Bool.not_true, Bool.not_false, bif_and, bif_or, Bool.not_not, ne_eq, Decidable.not_not, not_true_eq_false, not_false_eq_true, Int.not_le, Int.not_lt] at hg0); (omega))) hvk))) ?_
                        refine rg_g rfl rfl (fun hG => (q_load sz4 rfl rfl)) ?_
                        refine rg_pick rfl rfl rfl rfl rfl rfl ?_
                        refine rg_q (q_assign (x := .d (.v _)) rfl) ?_
                        refine rg_nil ?_
                        refine aops_nil ?_
                        change Awp _ _ _ _ _
                        refine awp_region 3 mixed (by kernel_rfl) ?_
                        refine rg_q (q_move (x := .d (.v _)) rfl) ?_
                        refine rg_q (q_add rfl rfl (In64.mk (by (omega)) (by (omega)))) ?_
                        refine rg_q (q_assign (x := .d (.v _)) rfl) ?_
                        refine rg_nil ?_
                        refine aops_nil ?_
                        refine ⟨k + 1, by omega, by omega, ?_⟩
                        exact le_head (ms := []) (by repeat (first | exact Out.head rfl rfl | (refine Out.put ?_ rfl))) ⟨(by rfl), (by rfl), trivial⟩ trivial rfl rfl rfl rfl
                      ·
                        (try simp only [decide_eq_true_eq, decide_eq_false_iff_not, Bool.and_eq_true, Bool.or_eq_true, Bool.and_eq_false_iff, Bool.or_eq_false_iff, Bool.not_eq_true', Bool.not_eq_false', Bool.not_true, Bool.not_false, bif_and, bif_or, Bool.not_not, ne_eq, Decidable.not_not, not_true_eq_false, not_false_eq_true, Int.not_le, Int.not_lt] at hc32)
                        refine awp_exit ?_
                        change Awp _ _ _ _ _
                        refine awp_seq ?_
                        refine awp_seq ?_
                        refine awp_region 7 mixed (by kernel_rfl) ?_
                        refine rg_q (q_move (x := .d (.v _)) rfl) ?_
                        refine rg_q (q_not rfl) ?_
                        refine rg_q (q_move (x := .d (.v _)) rfl) ?_
                        refine rg_g rfl rfl (fun hG => (q_move (x := .d (.sl _ _)) rfl)) ?_
                        refine rg_g rfl rfl (fun hG => (q_len isl25 rfl (by exact len_map _ _))) ?_
                        refine rg_g rfl rfl (fun hG => (q_eql rfl rfl)) ?_
                        refine rg_pick rfl rfl rfl rfl rfl rfl ?_
                        refine rg_nil ?_
                        refine aops_nil ?_
                        change Awp _ _ _ _ _
                        refine awp_cond rfl (fun hc35 => ?_) (fun hc35 => ?_)
                        ·
                          (try simp only [decide_eq_true_eq, decide_eq_false_iff_not, Bool.and_eq_true, Bool.or_eq_true, Bool.and_eq_false_iff, Bool.or_eq_false_iff, Bool.not_eq_true', Bool.not_eq_false', Bool.not_true, Bool.not_false, bif_and, bif_or, Bool.not_not, ne_eq, Decidable.not_not, not_true_eq_false, not_false_eq_true, Int.not_le, Int.not_lt] at hc35)
                          refine awp_seq ?_
                          refine awp_region 2 mixed (by kernel_rfl) ?_
                          refine rg_q (q_move (x := .d (.v _)) rfl) ?_
                          refine rg_q (q_assign (x := .d (.v _)) rfl) ?_
                          refine rg_nil ?_
                          refine aops_nil ?_
                          change Awp _ _ _ _ _
                          refine awp_ret ?_
                          refine ⟨_, (.cons (.tmp (by exact .d _)) .nil), ?_⟩
                          rfl
                        ·
                          (try simp only [decide_eq_true_eq, decide_eq_false_iff_not, Bool.and_eq_true, Bool.or_eq_true, Bool.and_eq_false_iff, Bool.or_eq_false_iff, Bool.not_eq_true', Bool.not_eq_false', Bool.not_true, Bool.not_false, bif_and, bif_or, Bool.not_not, ne_eq, Decidable.not_not, not_true_eq_false, not_false_eq_true, Int.not_le, Int.not_lt] at hc35)
                          have hX0 : 0 < X.length := by omega
                          have hmod1 := Int.emod_nonneg b (by omega : (X.length : Int) ≠ 0)
                          have hmod2 := Int.emod_lt_of_pos b (by omega : (0 : Int) < (X.length : Int))
                          have hqx : X[(b % (X.length : Int)).toNat]? = some q := by rw [← hq, List.getD_eq_getElem?_getD, List.getElem?_eq_getElem (by omega)]; rfl
                          obtain ⟨n, rfl, hn1, hn2⟩ := hXm q (List.mem_of_getElem? hqx)
                          have hfin := hbad n hn1 hn2 (fun e he => (hg2 e he).2)
                          have hvq := validL_at (l := l) (L := B2) (m := m) hn1
                          rw [hfin] at hvq
                          refine awp_skip ?_
                          change Awp _ _ _ _ _
                          refine awp_seq ?_
                          refine awp_region 11 mixed (by kernel_rfl) ?_
                          refine rg_q (q_move (x := .d (.sl _ _)) rfl) ?_
                          refine rg_q (q_call en29 (.cons rfl .nil) rfl (copySteps_p l (by omega) hn)) ?_
                          refine rg_q (q_move (x := .d (.sl _ _)) rfl) ?_
                          refine rg_q (q_indexAddr_ar ar88 rfl rfl (by (omega)) (by (omega))) ?_
                          refine rg_q (q_load sz3 rfl rfl) ?_
                          refine rg_q (q_call en50 (.cons rfl (.cons rfl (.cons rfl .nil))) rfl (hVs)) ?_
                          refine rg_q (q_move (x := .d (.tup _)) rfl) ?_
                          refine rg_q (q_extract rfl rfl) ?_
                          refine rg_q (q_extract rfl rfl) ?_
                          refine rg_q (q_assign (x := .d (.sl _ _)) rfl) ?_
                          refine rg_q (q_assign (x := .d (.v _)) rfl) ?_
                          refine rg_nil ?_
                          refine aops_nil ?_
                          change Awp _ _ _ _ _
                          refine awp_seq ?_
                          refine awp_region 9 mixed (by kernel_rfl) ?_
                          refine rg_q (q_move (x := .d (.sl _ _)) rfl) ?_
                          refine rg_q (q_indexAddr_ar ar88 rfl rfl (by (omega)) (by (omega))) ?_
                          refine rg_q (q_load sz3 rfl rfl) ?_
                          refine rg_q (q_move (x := .d (.sl _ _)) rfl) ?_
                          refine rg_q (q_len isl25 rfl (by exact len_map _ _)) ?_
                          refine rg_q (q_call en56 (.cons rfl (.cons rfl .nil)) rfl (Mod_p _ _ (by omega) (by omega))) ?_
                          refine rg_q (q_indexAddr sl25 rfl rfl (by (omega)) (map_at (k := (b % (X.length : Int)).toNat) (Int.toNat_of_nonneg hmod1).symm hqx)) ?_
                          refine rg_q (q_load sz3 rfl rfl) ?_
                          refine rg_q (q_assign (x := .d (.v _)) rfl) ?_
                          refine rg_nil ?_
                          refine aops_nil ?_
                          change Awp _ _ _ _ _
                          refine awp_len (t := 178) rfl (fun hl178 => ?_)
                          (try simp only [List.length_map] at hl178)
                          refine awp_seq ?_
                          refine awp_region 24 mixed (by kernel_rfl) ?_
                          refine rg_q (q_move (x := .d (.v _)) rfl) ?_
                          refine rg_q (q_eql rfl rfl) ?_
                          refine rg_q (q_move (x := .d (.v _)) rfl) ?_
                          refine rg_g rfl rfl (fun hG => (q_move (x := .d (.sl _ _)) rfl)) ?_
                          refine rg_g rfl rfl (fun hG => (q_len isl77 rfl (by exact len_map _ _))) ?_
                          refine rg_g rfl rfl (fun hG => (q_move (x := .d (.sl _ _)) rfl)) ?_
                          refine rg_g rfl rfl (fun hG => (q_len isl40 rfl (by exact len_map _ _))) ?_
                          refine rg_g rfl rfl (fun hG => (q_eql rfl rfl)) ?_
                          refine rg_pick rfl rfl rfl rfl rfl rfl ?_
                          refine rg_q (q_move (x := .d (.v _)) rfl) ?_
                          refine rg_g rfl rfl (fun hG => (q_move (x := .d (.v _)) rfl)) ?_
                          refine rg_g rfl rfl (fun hG => (q_move (x := .d (.sl _ _)) rfl)) ?_
                          refine rg_g rfl rfl (fun hG => (q_len isl77 rfl (by exact len_map _ _))) ?_
                          refine rg_g rfl rfl (fun hG => (q_sub rfl rfl (In64.mk (by (have hg0 := T.bool_inj (a := _) hG.1; (try simp only [decide_eq_true_eq, decide_eq_false_iff_not, Bool.and_eq_true, Bool.or_eq_true, Bool.and_eq_false_iff, Bool.or_eq_false_iff, Bool.not_eq_true', Bool.not_eq_false', Bool.not_true, Bool.not_false, bif_and, bif_or, Bool.not_not, ne_eq, Decidable.not_not, not_true_eq_false, not_false_eq_true, Int.not_le, Int.not_lt] at hg0); (omega))) (by (have hg0 := T.bool_inj (a := _) hG.1; (try simp only [decide_eq_true_eq, decide_eq_false_iff_not, Bool.and_eq_true, Bool.or_eq_true, Bool.and_eq_false_iff, Bool.or_eq_false_iff, Bool.not_eq_true', Bool.not_eq_false', Bool.not_true, Bool.not_false, bif_and, bif_or, Bool.not_not, ne_eq, Decidable.not_not, not_true_eq_false, not_false_eq_true, Int.not_le, Int.not_lt] at hg0); (omega)))))) ?_
                          refine rg_g rfl rfl (fun hG => (q_call en21 (.cons rfl (.cons rfl (.cons rfl .nil))) rfl (Within_p _ _ _))) ?_
                          refine rg_pick rfl rfl rfl rfl rfl rfl ?_
                          refine rg_q (q_move (x := .d (.v _)) rfl) ?_
                          refine rg_g rfl rfl (fun hG => (q_move (x := .d (.sl _ _)) rfl)) ?_
                          refine rg_g rfl rfl (fun hG => (q_move (x := .d (.v _)) rfl)) ?_
                          refine rg_g rfl rfl (fun hG => (q_indexAddr sl77 rfl rfl (by (have hg0 := T.bool_inj (a := _) hG.1; (try simp only [decide_eq_true_eq, decide_eq_false_iff_not, Bool.and_eq_true, Bool.or_eq_true, Bool.and_eq_false_iff, Bool.or_eq_false_iff, Bool.not_eq_true', Bool.not_eq_false', Bool.not_true, Bool.not_false, bif_and, bif_or, Bool.not_not, ne_eq, Decidable.not_not, not_true_eq_false, not_false_eq_true, Int.not_le, Int.not_lt] at hg0); (omega))) (map_at (by (have hg0 := T.bool_inj (a := _) hG.1; (try simp only [decide_eq_true_eq, decide_eq_false_iff_not, Bool.and_eq_true, Bool.or_eq_true, Bool.and_eq_false_iff, Bool.or_eq_false_iff, Bool.not_eq_true', Bool.not_eq_false', Bool.not_true, Bool.not_false, bif_and, bif_or, Bool.not_not, ne_eq, Decidable.not_not, not_true_eq_false, not_false_eq_true, Int.not_le, Int.not_lt] at hg0); (omega))) hvq))) ?_
                          refine rg_g rfl rfl (fun hG => (q_load sz4 rfl rfl)) ?_
                          refine rg_g rfl rfl (fun hG => (q_not rfl)) ?_
                          refine rg_pick rfl rfl rfl rfl rfl rfl ?_
                          refine rg_q (q_assign (x := .d (.v _)) rfl) ?_
                          refine rg_nil ?_
                          refine aops_nil ?_
                          change Awp _ _ _ _ _
                          refine awp_ret ?_
                          refine ⟨_, (.cons (.tmp (by exact .d _)) .nil), ?_⟩
                          simp [retD, hvl2, inR]; try omega
          ·
            (try simp only [decide_eq_true_eq, decide_eq_false_iff_not, Bool.and_eq_true, Bool.or_eq_true, Bool.and_eq_false_iff, Bool.or_eq_false_iff, Bool.not_eq_true', Bool.not_eq_false', Bool.not_true, Bool.not_false, bif_and, bif_or, Bool.not_not, ne_eq, Decidable.not_not, not_true_eq_false, not_false_eq_true, Int.not_le, Int.not_lt] at hc12)
            have hwv : (0 : Int) = warmE ev := by unfold warmE; rw [if_neg (by omega)]
            refine awp_skip ?_
            change Awp _ _ _ _ _
            refine awp_seq ?_
            refine awp_region 1 mixed (by kernel_rfl) ?_
            refine rg_q (q_move (x := .d (.sl _ _)) rfl) ?_
            refine rg_nil ?_
            refine aops_callN [68] en31 (copyEventsN_p ev (by omega)) rfl (.cons (by exact .d _) .nil) rfl (newS.none rfl rfl) rfl (fun x hx => by rcases List.mem_singleton.1 hx with rfl; exact evC_flat ev) trivial ?_
            refine aops_q rfl (q_move (x := .d (.sl _ _)) rfl) ?_
            refine aops_callN [70] en31 (copyEventsN_p ev (by omega)) rfl (.cons (by exact .d _) .nil) rfl (newS.none rfl rfl) rfl (fun x hx => by rcases List.mem_singleton.1 hx with rfl; exact evC_flat ev) trivial ?_
            refine aops_q rfl (q_assign (x := .rs _) rfl) ?_
            refine aops_q rfl (q_assign (x := .rs _) rfl) ?_
            refine aops_nil ?_
            change Awp _ _ _ _ _
            refine awp_seq ?_
            refine awp_region 1 mixed (by kernel_rfl) ?_
            refine rg_q (q_assign (x := .d (.v _)) rfl) ?_
            refine rg_nil ?_
            refine aops_nil ?_
            change Awp _ _ _ _ _
            refine awp_seq ?_
            refine awp_seq ?_
            refine awp_region 1 mixed (by kernel_rfl) ?_
            refine rg_q (q_assign (x := .d (.v _)) rfl) ?_
            refine rg_nil ?_
            refine aops_nil ?_
            change Awp _ _ _ _ _
            refine awp_block ?_
            refine awp_loopH [11, 12, 14, 15, 16, 17, 71, 72, 73, 74, 75, 76, 77, 78, 79, 80, 81, 82, 83, 84, 85, 86, 87, 88, 89, 90, 91, 92, 93, 94, 95, 96, 97, 98, 99, 100, 101, 102, 103, 104, 105, 106, 107, 108, 109, 110, 111, 112, 68, 70] [68, 70] (α := Nat × List Evt) (fun p => [(14, T.i (p.1 : Int)), (11, .rs 68), (12, .rs 70)]) (fun p => [(68, .row 90 3 ((ev ++ (X.take p.1).map (mkE m (warmE ev))).map evC)), (70, .row 90 3 ((ev ++ p.2).map evC))]) (fun p => p.1 ≤ X.length ∧ p.2.length ≤ p.1 ∧ (followS l (ev ++ p.2)).2.2 = 0 ∧ ∀ e ∈ p.2, e.minute = m ∧ e.step ≠ q) (fun p => X.length - p.1) (0, []) ⟨Nat.zero_le _, Nat.le_refl _, by simp only [List.append_nil]; exact hF, fun e he => by cases he⟩ ?_ ?_
            · exact le_head (ms := [68, 70]) (by repeat (exact Out.refl _)) ⟨(by rfl), (by rfl), (by rfl), trivial⟩ ⟨(by ((show Site.row 90 3 (List.map evC ev) = _; simp; done))), (by ((show Site.row 90 3 (List.map evC ev) = _; simp; done))), trivial⟩ rfl rfl rfl rfl
            ·
              intro ⟨i, G⟩ ⟨hi, hgl0, hg1, hg2⟩
              simp only at hi hgl0 hg1 hg2
              refine awp_seq ?_
              refine awp_seq ?_
              refine awp_region 4 mixed (by kernel_rfl) ?_
              refine rg_q (q_move (x := .d (.v _)) rfl) ?_
              refine rg_q (q_move (x := .d (.sl _ _)) rfl) ?_
              refine rg_q (q_len isl25 rfl (by exact len_map _ _)) ?_
              refine rg_q (q_lss rfl rfl) ?_
              refine rg_nil ?_
              refine aops_nil ?_
              change Awp _ _ _ _ _
              refine awp_len (t := 72) rfl (fun hl72 => ?_)
              (try simp only [List.length_map] at hl72)
              refine awp_cond rfl (fun hc17 => ?_) (fun hc17 => ?_)
              ·
                (try simp only [decide_eq_true_eq, decide_eq_false_iff_not, Bool.and_eq_true, Bool.or_eq_true, Bool.and_eq_false_iff, Bool.or_eq_false_iff, Bool.not_eq_true', Bool.not_eq_false', Bool.not_true, Bool.not_false, bif_and, bif_or, Bool.not_not, ne_eq, Decidable.not_not, not_true_eq_false, not_false_eq_true, Int.not_le, Int.not_lt] at hc17)
                have hlt : i < X.length := by omega
                obtain ⟨x, hx⟩ : ∃ x, X[i]? = some x := ⟨_, List.getElem?_eq_getElem hlt⟩
                have hall : List.map evC (ev ++ (X.take (i + 1)).map (mkE m (warmE ev))) = List.map evC (ev ++ (X.take i).map (mkE m (warmE ev))) ++ [evC (mkE m (warmE ev) x)] := by
                  rw [List.take_add_one, hx, Option.toList_some]; simp
                have hal : (ev ++ (X.take i).map (mkE m (warmE ev))).length ≤ 40 := by simp; omega
                have hgl : (ev ++ G).length ≤ 40 := by simp; omega
                have hmod1 := Int.emod_nonneg b (by omega : (X.length : Int) ≠ 0)
                have hmod2 := Int.emod_lt_of_pos b (by omega : (0 : Int) < (X.length : Int))
                have hqx : X[(b % (X.length : Int)).toNat]? = some q := by rw [← hq, List.getD_eq_getElem?_getD, List.getElem?_eq_getElem (by omega)]; rfl
                have hCe := checkEvents_p l hs ((ev ++ G) ++ [mkE m (warmE ev) x])
                obtain ⟨F, hFe⟩ : ∃ F, followS l ((ev ++ G) ++ [mkE m (warmE ev) x]) = F := ⟨_, rfl⟩
                rw [hFe] at hCe
                refine awp_skip ?_
                change Awp _ _ _ _ _
                refine awp_seq ?_
                refine awp_block ?_
                refine awp_seq ?_
                refine awp_regionM 10 [none, none, none, none, none, none, none, none, some 15, some 15] mixed (by kernel_rfl) ?_
                refine rgm_q rfl (q_indexAddr_ar ar88 rfl rfl (by (omega)) (by (omega))) ?_
                refine rgm_q rfl (q_load sz3 rfl rfl) ?_
                refine rgm_q rfl (q_move (x := .d (.sl _ _)) rfl) ?_
                refine rgm_q rfl (q_move (x := .d (.v _)) rfl) ?_
                refine rgm_q rfl (q_indexAddr sl25 rfl rfl (by (omega)) (map_at (by (omega)) hx)) ?_
                refine rgm_q rfl (q_load sz3 rfl rfl) ?_
                refine rgm_q rfl (q_move (x := .d (.v _)) rfl) ?_
                refine rgm_q rfl (q_build (cs := [_, _, _]) pl90 zr90 rfl (.cons rfl (by exact .inl rfl) (.cons rfl (by exact .inl rfl) (.cons rfl (by exact .inl rfl) .nil))) ⟨⟨rfl, by decide⟩, ⟨rfl, by decide⟩, ⟨rfl, by decide⟩, trivial⟩ rfl) ?_
                refine rgm_m (k := 15) rfl rfl (by rfl) (m_alloc zr90 rfl rfl) ?_
                refine rgm_m (k := 15) rfl rfl (by rfl) (m_store sz90 rfl rfl (by exact .inr ⟨_, rfl⟩) rfl rfl (by decide) rfl) ?_
                refine rgm_nil ?_
                refine aops_nil ?_
                change Awp _ _ _ _ _
                refine awp_seq ?_
                refine awp_region 3 mixed (by kernel_rfl) ?_
                refine rg_q (q_move (x := .rs _) rfl) ?_
                refine rg_q (q_load_refA (ds := [_, _, _]) sz90 rfl rfl rfl rfl) ?_
                refine rg_q (q_buildSlice sl41 zr90 rfl rfl (by decide) (.cons rfl (by exact .inr ⟨_, rfl⟩) .nil) ⟨rfl, rfl, trivial⟩ rfl (by decide) rfl) ?_
                refine rg_nil ?_
                refine aops_append sl41 zr90 by90 rfl (by decide) rfl rfl rfl rfl (by simp only [List.length_map, List.length_cons, List.length_nil]; omega) (by simp only [List.length_map, List.length_cons, List.length_nil]; omega) rfl rfl ?_
                refine aops_q rfl (q_assign (x := .rs _) rfl) ?_
                refine aops_nil ?_
                change Awp _ _ _ _ _
                refine awp_seq ?_
                refine awp_region 7 mixed (by kernel_rfl) ?_
                refine rg_q (q_move (x := .d (.v _)) rfl) ?_
                refine rg_q (q_indexAddr_ar ar88 rfl rfl (by (omega)) (by (omega))) ?_
                refine rg_q (q_load sz3 rfl rfl) ?_
                refine rg_q (q_move (x := .d (.sl _ _)) rfl) ?_
                refine rg_q (q_len isl25 rfl (by exact len_map _ _)) ?_
                refine rg_q (q_call en56 (.cons rfl (.cons rfl .nil)) rfl (Mod_p _ _ (by omega) (by omega))) ?_
                refine rg_q (q_neq rfl rfl) ?_
                refine rg_nil ?_
                refine aops_nil ?_
                change Awp _ _ _ _ _
                refine awp_len (t := 92) rfl (fun hl92 => ?_)
                (try simp only [List.length_map] at hl92)
                refine awp_cond rfl (fun hc21 => ?_) (fun hc21 => ?_)
                ·
                  (try simp only [decide_eq_true_eq, decide_eq_false_iff_not, Bool.and_eq_true, Bool.or_eq_true, Bool.and_eq_false_iff, Bool.or_eq_false_iff, Bool.not_eq_true', Bool.not_eq_false', Bool.not_true, Bool.not_false, bif_and, bif_or, Bool.not_not, ne_eq, Decidable.not_not, not_true_eq_false, not_false_eq_true, Int.not_le, Int.not_lt] at hc21)
                  have hne : x ≠ q := todo_ne hXa hx hqx (fun e => hc21 (by rw [e]; exact (Int.toNat_of_nonneg hmod1)))
                  refine awp_seq ?_
                  refine awp_regionC 13 [3, 6, 7] [100] mixed (by kernel_rfl) ?_
                  refine rgc_q rfl (q_move (x := .d (.sl _ _)) rfl) rfl ?_
                  refine rgc_q rfl (q_call en29 (.cons rfl .nil) rfl (copySteps_p l (by omega) hn)) rfl ?_
                  refine rgc_q rfl (q_move (x := .rs _) rfl) rfl ?_
                  refine rgc_c rfl rfl (c_callN en31 (copyEventsN_p (ev ++ G) (by omega)) rfl (.cons (by exact .rs rfl) .nil) rfl (evC_flat _)) ?_
                  refine rgc_q rfl (q_load_refA (ds := [_, _, _]) sz90 rfl rfl rfl rfl) rfl ?_
                  refine rgc_q rfl (q_buildSlice sl41 zr90 rfl rfl (by decide) (.cons rfl (by exact .inr ⟨_, rfl⟩) .nil) ⟨rfl, rfl, trivial⟩ rfl (by decide) rfl) rfl ?_
                  refine rgc_c rfl rfl (c_append (es' := ((ev ++ G) ++ [mkE m (warmE ev) x]).map evC) sl41 zr90 by90 rfl (by decide) rfl rfl rfl rfl (by simp only [List.length_map, List.length_cons, List.length_nil]; omega) (by simp only [List.length_map, List.length_cons, List.length_nil]; omega) (by rw [List.map_append (l₁ := ev ++ G), ← hwv]; rfl)) ?_
                  refine rgc_c rfl rfl (c_q (q_callF en30 (.cons (by exact .d _) (.cons (by exact .rs rfl) .nil)) rfl (hCe) (by exact D.Flat.tupF (by repeat first | exact trivial | refine ⟨.v _, ?_⟩)))) ?_
                  refine rgc_q rfl (q_move (x := .d (.tup _)) rfl) rfl ?_
                  refine rgc_q rfl (q_extract rfl rfl) rfl ?_
                  refine rgc_q rfl (q_extract rfl rfl) rfl ?_
                  refine rgc_q rfl (q_assign (x := .d (.v _)) rfl) rfl ?_
                  refine rgc_q rfl (q_assign (x := .d (.v _)) rfl) rfl ?_
                  refine rgc_nil ?_
                  refine aops_nil ?_
                  change Awp _ _ _ _ _
                  refine awp_seq ?_
                  refine awp_region 2 mixed (by kernel_rfl) ?_
                  refine rg_q (q_move (x := .d (.v _)) rfl) ?_
                  refine rg_q (q_eql rfl rfl) ?_
                  refine rg_nil ?_
                  refine aops_nil ?_
                  change Awp _ _ _ _ _
                  refine awp_cond rfl (fun hc23 => ?_) (fun hc23 => ?_)
                  ·
                    (try simp only [decide_eq_true_eq, decide_eq_false_iff_not, Bool.and_eq_true, Bool.or_eq_true, Bool.and_eq_false_iff, Bool.or_eq_false_iff, Bool.not_eq_true', Bool.not_eq_false', Bool.not_true, Bool.not_false, bif_and, bif_or, Bool.not_not, ne_eq, Decidable.not_not, not_true_eq_false, not_false_eq_true, Int.not_le, Int.not_lt] at hc23)
                    have hf0 : (followS l ((ev ++ G) ++ [mkE m (warmE ev) x])).2.2 = 0 := by rw [hFe]; exact hc23
                    refine awp_region 3 mixed (by kernel_rfl) ?_
                    refine rg_q (q_move (x := .rs _) rfl) ?_
                    refine rg_q (q_load_refA (ds := [_, _, _]) sz90 rfl rfl rfl rfl) ?_
                    refine rg_q (q_buildSlice sl41 zr90 rfl rfl (by decide) (.cons rfl (by exact .inr ⟨_, rfl⟩) .nil) ⟨rfl, rfl, trivial⟩ rfl (by decide) rfl) ?_
                    refine rg_nil ?_
                    refine aops_append sl41 zr90 by90 rfl (by decide) rfl rfl rfl rfl (by simp only [List.length_map, List.length_cons, List.length_nil]; omega) (by simp only [List.length_map, List.length_cons, List.length_nil]; omega) rfl rfl ?_
                    refine aops_q rfl (q_assign (x := .rs _) rfl) ?_
                    refine aops_nil ?_
                    change Awp _ _ _ _ _
                    refine awp_region 3 mixed (by kernel_rfl) ?_
                    refine rg_q (q_move (x := .d (.v _)) rfl) ?_
                    refine rg_q (q_add rfl rfl (In64.mk (by (omega)) (by (omega)))) ?_
                    refine rg_q (q_assign (x := .d (.v _)) rfl) ?_
                    refine rg_nil ?_
                    refine aops_nil ?_
                    refine ⟨(i + 1, G ++ [mkE m (warmE ev) x]), ⟨by simp only; omega, by simp only [List.length_append, List.length_singleton]; omega, by simp only; rw [← List.append_assoc]; exact hf0, (fun e he => by simp only [List.mem_append, List.mem_singleton] at he; rcases he with h | h; exact hg2 e h; subst h; exact ⟨rfl, hne⟩)⟩, by simp only; omega, ?_⟩
                    exact le_head (ms := [68, 70]) (by repeat (first | exact Out.head rfl rfl | (refine Out.put ?_ rfl) | (refine Out.site ?_ rfl) | (refine Out.killS ?_ rfl) | (refine Out.ovD ?_ rfl))) ⟨(by rfl), (by rfl), (by rfl), trivial⟩ ⟨(by ((show Site.row 90 3 (List.map evC (ev ++ (X.take i).map (mkE m (warmE ev))) ++ [_]) = _; rw [hall, ← hwv]; rfl))), (by ((show Site.row 90 3 (List.map evC (ev ++ G) ++ [_]) = _; rw [← List.append_assoc, List.map_append (l₁ := ev ++ G), ← hwv]; rfl))), trivial⟩ rfl rfl rfl rfl
                  ·
                    (try simp only [decide_eq_true_eq, decide_eq_false_iff_not, Bool.and_eq_true, Bool.or_eq_true, Bool.and_eq_false_iff, Bool.or_eq_false_iff, Bool.not_eq_true', Bool.not_eq_false', Bool.not_true, Bool.not_false, bif_and, bif_or, Bool.not_not, ne_eq, Decidable.not_not, not_true_eq_false, not_false_eq_true, Int.not_le, Int.not_lt] at hc23)
                    refine awp_skip ?_
                    change Awp _ _ _ _ _
                    refine awp_region 3 mixed (by kernel_rfl) ?_
                    refine rg_q (q_move (x := .d (.v _)) rfl) ?_
                    refine rg_q (q_add rfl rfl (In64.mk (by (omega)) (by (omega)))) ?_
                    refine rg_q (q_assign (x := .d (.v _)) rfl) ?_
                    refine rg_nil ?_
                    refine aops_nil ?_
                    refine ⟨(i + 1, G), ⟨by simp only; omega, by simp only; omega, hg1, hg2⟩, by simp only; omega, ?_⟩
                    exact le_head (ms := [68, 70]) (by repeat (first | exact Out.head rfl rfl | (refine Out.put ?_ rfl) | (refine Out.site ?_ rfl) | (refine Out.killS ?_ rfl) | (refine Out.ovD ?_ rfl))) ⟨(by rfl), (by rfl), (by rfl), trivial⟩ ⟨(by ((show Site.row 90 3 (List.map evC (ev ++ (X.take i).map (mkE m (warmE ev))) ++ [_]) = _; rw [hall, ← hwv]; rfl))), (by rfl), trivial⟩ rfl rfl rfl rfl
                ·
                  (try simp only [decide_eq_true_eq, decide_eq_false_iff_not, Bool.and_eq_true, Bool.or_eq_true, Bool.and_eq_false_iff, Bool.or_eq_false_iff, Bool.not_eq_true', Bool.not_eq_false', Bool.not_true, Bool.not_false, bif_and, bif_or, Bool.not_not, ne_eq, Decidable.not_not, not_true_eq_false, not_false_eq_true, Int.not_le, Int.not_lt] at hc21)
                  refine awp_skip ?_
                  change Awp _ _ _ _ _
                  refine awp_region 3 mixed (by kernel_rfl) ?_
                  refine rg_q (q_move (x := .d (.v _)) rfl) ?_
                  refine rg_q (q_add rfl rfl (In64.mk (by (omega)) (by (omega)))) ?_
                  refine rg_q (q_assign (x := .d (.v _)) rfl) ?_
                  refine rg_nil ?_
                  refine aops_nil ?_
                  refine ⟨(i + 1, G), ⟨by simp only; omega, by simp only; omega, hg1, hg2⟩, by simp only; omega, ?_⟩
                  exact le_head (ms := [68, 70]) (by repeat (first | exact Out.head rfl rfl | (refine Out.put ?_ rfl) | (refine Out.site ?_ rfl) | (refine Out.killS ?_ rfl))) ⟨(by rfl), (by rfl), (by rfl), trivial⟩ ⟨(by ((show Site.row 90 3 (List.map evC (ev ++ (X.take i).map (mkE m (warmE ev))) ++ [_]) = _; rw [hall, ← hwv]; rfl))), (by rfl), trivial⟩ rfl rfl rfl rfl
              ·
                (try simp only [decide_eq_true_eq, decide_eq_false_iff_not, Bool.and_eq_true, Bool.or_eq_true, Bool.and_eq_false_iff, Bool.or_eq_false_iff, Bool.not_eq_true', Bool.not_eq_false', Bool.not_true, Bool.not_false, bif_and, bif_or, Bool.not_not, ne_eq, Decidable.not_not, not_true_eq_false, not_false_eq_true, Int.not_le, Int.not_lt] at hc17)
                have hiX : i = X.length := by omega
                have hti : X.take i = X := List.take_of_length_le (by omega)
                rw [hti]
                have hCa := checkEvents_p l hs (ev ++ X.map (mkE m (warmE ev)))
                rw [(follow_book hA1).1] at hCa
                have hVa := ValidAt_p l hs (ev ++ X.map (mkE m (warmE ev))) m
                rw [at_app hA1 hM (fun e he => by obtain ⟨z, _, rfl⟩ := List.mem_map.1 he; rfl), if_pos rfl] at hVa
                have hVs := ValidAt_p l hs (ev ++ G) m
                rw [at_app hg1 hM (fun e he => (hg2 e he).1), if_pos rfl] at hVs
                have hlX : (ev ++ X.map (mkE m (warmE ev))).length ≤ 40 := by simp; omega
                have hvl1 := validL_len l (bookOf l (ev ++ X.map (mkE m (warmE ev)))) m
                have hvl2 := validL_len l (bookOf l (ev ++ G)) m
                have hbad := fun (n : Nat) h1 h2 h3 => stays_bad (ev := ev) (m := m) hr (G := G) n h1 h2 h3
                generalize bookOf l (ev ++ X.map (mkE m (warmE ev))) = B1 at *
                generalize bookOf l (ev ++ G) = B2 at *
                refine awp_exit ?_
                change Awp _ _ _ _ _
                refine awp_seq ?_
                refine awp_seq ?_
                refine Awp.le (le_freezeR 68 11 rfl rfl rfl rfl hmine) ?_
                refine Awp.le (le_freezeR 70 12 rfl rfl rfl rfl hmine) ?_
                refine awp_region 10 mixed (by kernel_rfl) ?_
                refine rg_q (q_move (x := .d (.sl _ _)) rfl) ?_
                refine rg_q (q_call en29 (.cons rfl .nil) rfl (copySteps_p l (by omega) hn)) ?_
                refine rg_q (q_move (x := .d (.sl _ _)) rfl) ?_
                refine rg_q (q_call en31 (.cons rfl .nil) rfl (copyEvents_p _ (by omega))) ?_
                refine rg_q (q_call en30 (.cons rfl (.cons rfl .nil)) rfl (hCa)) ?_
                refine rg_q (q_move (x := .d (.tup _)) rfl) ?_
                refine rg_q (q_extract rfl rfl) ?_
                refine rg_q (q_extract rfl rfl) ?_
                refine rg_q (q_assign (x := .d (.v _)) rfl) ?_
                refine rg_q (q_assign (x := .d (.v _)) rfl) ?_
                refine rg_nil ?_
                refine aops_nil ?_
                change Awp _ _ _ _ _
                refine awp_seq ?_
                refine awp_region 6 mixed (by kernel_rfl) ?_
                refine rg_q (q_move (x := .d (.v _)) rfl) ?_
                refine rg_q (q_neq rfl rfl) ?_
                refine rg_q (q_move (x := .d (.v _)) rfl) ?_
                refine rg_g rfl rfl (fun hG => (q_move (x := .d (.v _)) rfl)) ?_
                refine rg_g rfl rfl (fun hG => (q_neq rfl rfl)) ?_
                refine rg_pick rfl rfl rfl rfl rfl rfl ?_
                refine rg_nil ?_
                refine aops_nil ?_
                change Awp _ _ _ _ _
                refine awp_cond rfl (fun hc26 => ?_) (fun hc26 => ?_)
                ·
                  exfalso; (try simp only [decide_eq_true_eq, decide_eq_false_iff_not, Bool.and_eq_true, Bool.or_eq_true, Bool.and_eq_false_iff, Bool.or_eq_false_iff, Bool.not_eq_true', Bool.not_eq_false', Bool.not_true, Bool.not_false, bif_and, bif_or, Bool.not_not, ne_eq, Decidable.not_not, not_true_eq_false, not_false_eq_true, Int.not_le, Int.not_lt] at hc26); simp_all
                ·
                  (try simp only [decide_eq_true_eq, decide_eq_false_iff_not, Bool.and_eq_true, Bool.or_eq_true, Bool.and_eq_false_iff, Bool.or_eq_false_iff, Bool.not_eq_true', Bool.not_eq_false', Bool.not_true, Bool.not_false, bif_and, bif_or, Bool.not_not, ne_eq, Decidable.not_not, not_true_eq_false, not_false_eq_true, Int.not_le, Int.not_lt] at hc26)
                  refine awp_skip ?_
                  change Awp _ _ _ _ _
                  refine awp_seq ?_
                  refine awp_region 11 mixed (by kernel_rfl) ?_
                  refine rg_q (q_move (x := .d (.sl _ _)) rfl) ?_
                  refine rg_q (q_call en29 (.cons rfl .nil) rfl (copySteps_p l (by omega) hn)) ?_
                  refine rg_q (q_move (x := .d (.sl _ _)) rfl) ?_
                  refine rg_q (q_indexAddr_ar ar88 rfl rfl (by (omega)) (by (omega))) ?_
                  refine rg_q (q_load sz3 rfl rfl) ?_
                  refine rg_q (q_call en50 (.cons rfl (.cons rfl (.cons rfl .nil))) rfl (hVa)) ?_
                  refine rg_q (q_move (x := .d (.tup _)) rfl) ?_
                  refine rg_q (q_extract rfl rfl) ?_
                  refine rg_q (q_extract rfl rfl) ?_
                  refine rg_q (q_assign (x := .d (.sl _ _)) rfl) ?_
                  refine rg_q (q_assign (x := .d (.v _)) rfl) ?_
                  refine rg_nil ?_
                  refine aops_nil ?_
                  change Awp _ _ _ _ _
                  refine awp_seq ?_
                  refine awp_seq ?_
                  refine awp_region 9 mixed (by kernel_rfl) ?_
                  refine rg_q (q_move (x := .d (.v _)) rfl) ?_
                  refine rg_q (q_neq rfl rfl) ?_
                  refine rg_q (q_move (x := .d (.v _)) rfl) ?_
                  refine rg_g rfl rfl (fun hG => (q_move (x := .d (.sl _ _)) rfl)) ?_
                  refine rg_g rfl rfl (fun hG => (q_len isl77 rfl (by exact len_map _ _))) ?_
                  refine rg_g rfl rfl (fun hG => (q_move (x := .d (.sl _ _)) rfl)) ?_
                  refine rg_g rfl rfl (fun hG => (q_len isl40 rfl (by exact len_map _ _))) ?_
                  refine rg_g rfl rfl (fun hG => (q_neq rfl rfl)) ?_
                  refine rg_pick rfl rfl rfl rfl rfl rfl ?_
                  refine rg_nil ?_
                  refine aops_nil ?_
                  change Awp _ _ _ _ _
                  refine awp_cond rfl (fun hc29 => ?_) (fun hc29 => ?_)
                  ·
                    simp [hvl1] at hc29
                  ·
                    (try simp only [decide_eq_true_eq, decide_eq_false_iff_not, Bool.and_eq_true, Bool.or_eq_true, Bool.and_eq_false_iff, Bool.or_eq_false_iff, Bool.not_eq_true', Bool.not_eq_false', Bool.not_true, Bool.not_false, bif_and, bif_or, Bool.not_not, ne_eq, Decidable.not_not, not_true_eq_false, not_false_eq_true, Int.not_le, Int.not_lt] at hc29)
                    refine awp_skip ?_
                    change Awp _ _ _ _ _
                    refine awp_seq ?_
                    refine awp_seq ?_
                    refine awp_region 1 mixed (by kernel_rfl) ?_
                    refine rg_q (q_assign (x := .d (.v _)) rfl) ?_
                    refine rg_nil ?_
                    refine aops_nil ?_
                    change Awp _ _ _ _ _
                    refine awp_block ?_
                    refine awp_loopH [13, 22, 145, 146, 147, 148, 149, 150, 151, 152, 153, 154, 155, 156, 157] [] (α := Nat) (fun k => [(22, T.i (k : Int)), (13, T.bool true)]) (fun k => []) (fun k => k ≤ l.length) (fun k => l.length - k) 0 (Nat.zero_le _) ?_ ?_
                    · exact le_head (ms := []) (by repeat (exact Out.refl _)) ⟨(by rfl), (by rfl), trivial⟩ trivial rfl rfl rfl rfl
                    ·
                      intro k hk
                      refine awp_seq ?_
                      refine awp_seq ?_
                      refine awp_region 4 mixed (by kernel_rfl) ?_
                      refine rg_q (q_move (x := .d (.v _)) rfl) ?_
                      refine rg_q (q_move (x := .d (.sl _ _)) rfl) ?_
                      refine rg_q (q_len isl77 rfl (by exact len_map _ _)) ?_
                      refine rg_q (q_lss rfl rfl) ?_
                      refine rg_nil ?_
                      refine aops_nil ?_
                      change Awp _ _ _ _ _
                      refine awp_len (t := 146) rfl (fun hl146 => ?_)
                      (try simp only [List.length_map] at hl146)
                      refine awp_cond rfl (fun hc32 => ?_) (fun hc32 => ?_)
                      ·
                        (try simp only [decide_eq_true_eq, decide_eq_false_iff_not, Bool.and_eq_true, Bool.or_eq_true, Bool.and_eq_false_iff, Bool.or_eq_false_iff, Bool.not_eq_true', Bool.not_eq_false', Bool.not_true, Bool.not_false, bif_and, bif_or, Bool.not_not, ne_eq, Decidable.not_not, not_true_eq_false, not_false_eq_true, Int.not_le, Int.not_lt] at hc32)
                        have hkl : k < l.length := by omega
                        have hvk := validL_at (l := l) (L := B1) (m := m) hkl
                        rw [(hA2 k hkl (.inr hkl)).1] at hvk
                        refine awp_skip ?_
                        change Awp _ _ _ _ _
                        refine awp_seq ?_
                        refine awp_block ?_
                        refine awp_region 8 mixed (by kernel_rfl) ?_
                        refine rg_q (q_move (x := .d (.v _)) rfl) ?_
                        refine rg_q (q_move (x := .d (.v _)) rfl) ?_
                        refine rg_g rfl rfl (fun hG => (q_move (x := .d (.sl _ _)) rfl)) ?_
                        refine rg_g rfl rfl (fun hG => (q_move (x := .d (.v _)) rfl)) ?_
                        refine rg_g rfl rfl (fun hG => (q_indexAddr sl77 rfl rfl (by (have hg0 := T.bool_inj (a := _) hG.1; (try simp only [decide_eq_true_eq, decide_eq_false_iff_not, Bool.and_eq_true, Bool.or_eq_true, Bool.and_eq_false_iff, Bool.or_eq_false_iff, Bool.not_eq_true', Bool.not_eq_false', Bool.not_true, Bool.not_false, bif_and, bif_or, Bool.not_not, ne_eq, Decidable.not_not, not_true_eq_false, not_false_eq_true, Int.not_le, Int.not_lt] at hg0); (omega))) (map_at (by (have hg0 := T.bool_inj (a := _) hG.1; (try simp only [decide_eq_true_eq, decide_eq_false_iff_not, Bool.and_eq_true, Bool.or_eq_true, Bool.and_eq_false_iff, Bool.or_eq_false_iff, Bool.not_eq_true', Bool.not_eq_false', Bool.not_true, Bool.not_false, bif_and, bif_or, Bool.not_not, ne_eq, Decidable.not_not, not_true_eq_false, not_false_eq_true, Int.not_le, Int.not_lt] at hg0); (omega))) hvk))) ?_
                        refine rg_g rfl rfl (fun hG => (q_load sz4 rfl rfl)) ?_
                        refine rg_pick rfl rfl rfl rfl rfl rfl ?_
                        refine rg_q (q_assign (x := .d (.v _)) rfl) ?_
                        refine rg_nil ?_
                        refine aops_nil ?_
                        change Awp _ _ _ _ _
                        refine awp_region 3 mixed (by kernel_rfl) ?_
                        refine rg_q (q_move (x := .d (.v _)) rfl) ?_
                        refine rg_q (q_add rfl rfl (In64.mk (by (omega)) (by (omega)))) ?_
                        refine rg_q (q_assign (x := .d (.v _)) rfl) ?_
                        refine rg_nil ?_
                        refine aops_nil ?_
                        refine ⟨k + 1, by omega, by omega, ?_⟩
                        exact le_head (ms := []) (by repeat (first | exact Out.head rfl rfl | (refine Out.put ?_ rfl))) ⟨(by rfl), (by rfl), trivial⟩ trivial rfl rfl rfl rfl
                      ·
                        (try simp only [decide_eq_true_eq, decide_eq_false_iff_not, Bool.and_eq_true, Bool.or_eq_true, Bool.and_eq_false_iff, Bool.or_eq_false_iff, Bool.not_eq_true', Bool.not_eq_false', Bool.not_true, Bool.not_false, bif_and, bif_or, Bool.not_not, ne_eq, Decidable.not_not, not_true_eq_false, not_false_eq_true, Int.not_le, Int.not_lt] at hc32)
                        refine awp_exit ?_
                        change Awp _ _ _ _ _
                        refine awp_seq ?_
                        refine awp_seq ?_
                        refine awp_region 7 mixed (by kernel_rfl) ?_
                        refine rg_q (q_move (x := .d (.v _)) rfl) ?_
                        refine rg_q (q_not rfl) ?_
                        refine rg_q (q_move (x := .d (.v _)) rfl) ?_
                        refine rg_g rfl rfl (fun hG => (q_move (x := .d (.sl _ _)) rfl)) ?_
                        refine rg_g rfl rfl (fun hG => (q_len isl25 rfl (by exact len_map _ _))) ?_
                        refine rg_g rfl rfl (fun hG => (q_eql rfl rfl)) ?_
                        refine rg_pick rfl rfl rfl rfl rfl rfl ?_
                        refine rg_nil ?_
                        refine aops_nil ?_
                        change Awp _ _ _ _ _
                        refine awp_cond rfl (fun hc35 => ?_) (fun hc35 => ?_)
                        ·
                          (try simp only [decide_eq_true_eq, decide_eq_false_iff_not, Bool.and_eq_true, Bool.or_eq_true, Bool.and_eq_false_iff, Bool.or_eq_false_iff, Bool.not_eq_true', Bool.not_eq_false', Bool.not_true, Bool.not_false, bif_and, bif_or, Bool.not_not, ne_eq, Decidable.not_not, not_true_eq_false, not_false_eq_true, Int.not_le, Int.not_lt] at hc35)
                          refine awp_seq ?_
                          refine awp_region 2 mixed (by kernel_rfl) ?_
                          refine rg_q (q_move (x := .d (.v _)) rfl) ?_
                          refine rg_q (q_assign (x := .d (.v _)) rfl) ?_
                          refine rg_nil ?_
                          refine aops_nil ?_
                          change Awp _ _ _ _ _
                          refine awp_ret ?_
                          refine ⟨_, (.cons (.tmp (by exact .d _)) .nil), ?_⟩
                          rfl
                        ·
                          (try simp only [decide_eq_true_eq, decide_eq_false_iff_not, Bool.and_eq_true, Bool.or_eq_true, Bool.and_eq_false_iff, Bool.or_eq_false_iff, Bool.not_eq_true', Bool.not_eq_false', Bool.not_true, Bool.not_false, bif_and, bif_or, Bool.not_not, ne_eq, Decidable.not_not, not_true_eq_false, not_false_eq_true, Int.not_le, Int.not_lt] at hc35)
                          have hX0 : 0 < X.length := by omega
                          have hmod1 := Int.emod_nonneg b (by omega : (X.length : Int) ≠ 0)
                          have hmod2 := Int.emod_lt_of_pos b (by omega : (0 : Int) < (X.length : Int))
                          have hqx : X[(b % (X.length : Int)).toNat]? = some q := by rw [← hq, List.getD_eq_getElem?_getD, List.getElem?_eq_getElem (by omega)]; rfl
                          obtain ⟨n, rfl, hn1, hn2⟩ := hXm q (List.mem_of_getElem? hqx)
                          have hfin := hbad n hn1 hn2 (fun e he => (hg2 e he).2)
                          have hvq := validL_at (l := l) (L := B2) (m := m) hn1
                          rw [hfin] at hvq
                          refine awp_skip ?_
                          change Awp _ _ _ _ _
                          refine awp_seq ?_
                          refine awp_region 11 mixed (by kernel_rfl) ?_
                          refine rg_q (q_move (x := .d (.sl _ _)) rfl) ?_
                          refine rg_q (q_call en29 (.cons rfl .nil) rfl (copySteps_p l (by omega) hn)) ?_
                          refine rg_q (q_move (x := .d (.sl _ _)) rfl) ?_
                          refine rg_q (q_indexAddr_ar ar88 rfl rfl (by (omega)) (by (omega))) ?_
                          refine rg_q (q_load sz3 rfl rfl) ?_
                          refine rg_q (q_call en50 (.cons rfl (.cons rfl (.cons rfl .nil))) rfl (hVs)) ?_
                          refine rg_q (q_move (x := .d (.tup _)) rfl) ?_
                          refine rg_q (q_extract rfl rfl) ?_
                          refine rg_q (q_extract rfl rfl) ?_
                          refine rg_q (q_assign (x := .d (.sl _ _)) rfl) ?_
                          refine rg_q (q_assign (x := .d (.v _)) rfl) ?_
                          refine rg_nil ?_
                          refine aops_nil ?_
                          change Awp _ _ _ _ _
                          refine awp_seq ?_
                          refine awp_region 9 mixed (by kernel_rfl) ?_
                          refine rg_q (q_move (x := .d (.sl _ _)) rfl) ?_
                          refine rg_q (q_indexAddr_ar ar88 rfl rfl (by (omega)) (by (omega))) ?_
                          refine rg_q (q_load sz3 rfl rfl) ?_
                          refine rg_q (q_move (x := .d (.sl _ _)) rfl) ?_
                          refine rg_q (q_len isl25 rfl (by exact len_map _ _)) ?_
                          refine rg_q (q_call en56 (.cons rfl (.cons rfl .nil)) rfl (Mod_p _ _ (by omega) (by omega))) ?_
                          refine rg_q (q_indexAddr sl25 rfl rfl (by (omega)) (map_at (k := (b % (X.length : Int)).toNat) (Int.toNat_of_nonneg hmod1).symm hqx)) ?_
                          refine rg_q (q_load sz3 rfl rfl) ?_
                          refine rg_q (q_assign (x := .d (.v _)) rfl) ?_
                          refine rg_nil ?_
                          refine aops_nil ?_
                          change Awp _ _ _ _ _
                          refine awp_len (t := 178) rfl (fun hl178 => ?_)
                          (try simp only [List.length_map] at hl178)
                          refine awp_seq ?_
                          refine awp_region 24 mixed (by kernel_rfl) ?_
                          refine rg_q (q_move (x := .d (.v _)) rfl) ?_
                          refine rg_q (q_eql rfl rfl) ?_
                          refine rg_q (q_move (x := .d (.v _)) rfl) ?_
                          refine rg_g rfl rfl (fun hG => (q_move (x := .d (.sl _ _)) rfl)) ?_
                          refine rg_g rfl rfl (fun hG => (q_len isl77 rfl (by exact len_map _ _))) ?_
                          refine rg_g rfl rfl (fun hG => (q_move (x := .d (.sl _ _)) rfl)) ?_
                          refine rg_g rfl rfl (fun hG => (q_len isl40 rfl (by exact len_map _ _))) ?_
                          refine rg_g rfl rfl (fun hG => (q_eql rfl rfl)) ?_
                          refine rg_pick rfl rfl rfl rfl rfl rfl ?_
                          refine rg_q (q_move (x := .d (.v _)) rfl) ?_
                          refine rg_g rfl rfl (fun hG => (q_move (x := .d (.v _)) rfl)) ?_
                          refine rg_g rfl rfl (fun hG => (q_move (x := .d (.sl _ _)) rfl)) ?_
                          refine rg_g rfl rfl (fun hG => (q_len isl77 rfl (by exact len_map _ _))) ?_
                          refine rg_g rfl rfl (fun hG => (q_sub rfl rfl (In64.mk (by (have hg0 := T.bool_inj (a := _) hG.1; (try simp only [decide_eq_true_eq, decide_eq_false_iff_not, Bool.and_eq_true, Bool.or_eq_true, Bool.and_eq_false_iff, Bool.or_eq_false_iff, Bool.not_eq_true', Bool.not_eq_false', Bool.not_true, Bool.not_false, bif_and, bif_or, Bool.not_not, ne_eq, Decidable.not_not, not_true_eq_false, not_false_eq_true, Int.not_le, Int.not_lt] at hg0); (omega))) (by (have hg0 := T.bool_inj (a := _) hG.1; (try simp only [decide_eq_true_eq, decide_eq_false_iff_not, Bool.and_eq_true, Bool.or_eq_true, Bool.and_eq_false_iff, Bool.or_eq_false_iff, Bool.not_eq_true', Bool.not_eq_false', Bool.not_true, Bool.not_false, bif_and, bif_or, Bool.not_not, ne_eq, Decidable.not_not, not_true_eq_false, not_false_eq_true, Int.not_le, Int.not_lt] at hg0); (omega)))))) ?_
                          refine rg_g rfl rfl (fun hG => (q_call en21 (.cons rfl (.cons rfl (.cons rfl .nil))) rfl (Within_p _ _ _))) ?_
                          refine rg_pick rfl rfl rfl rfl rfl rfl ?_
                          refine rg_q (q_move (x := .d (.v _)) rfl) ?_
                          refine rg_g rfl rfl (fun hG => (q_move (x := .d (.sl _ _)) rfl)) ?_
                          refine rg_g rfl rfl (fun hG => (q_move (x := .d (.v _)) rfl)) ?_
                          refine rg_g rfl rfl (fun hG => (q_indexAddr sl77 rfl rfl (by (have hg0 := T.bool_inj (a := _) hG.1; (try simp only [decide_eq_true_eq, decide_eq_false_iff_not, Bool.and_eq_true, Bool.or_eq_true, Bool.and_eq_false_iff, Bool.or_eq_false_iff, Bool.not_eq_true', Bool.not_eq_false', Bool.not_true, Bool.not_false, bif_and, bif_or, Bool.not_not, ne_eq, Decidable.not_not, not_true_eq_false, not_false_eq_true, Int.not_le, Int.not_lt] at hg0); (omega))) (map_at (by (have hg0 := T.bool_inj (a := _) hG.1; (try simp only [decide_eq_true_eq, decide_eq_false_iff_not, Bool.and_eq_true, Bool.or_eq_true, Bool.and_eq_false_iff, Bool.or_eq_false_iff, Bool.not_eq_true', Bool.not_eq_false', Bool.not_true, Bool.not_false, bif_and, bif_or, Bool.not_not, ne_eq, Decidable.not_not, not_true_eq_false, not_false_eq_true, Int.not_le, Int.not_lt] at hg0); (omega))) hvq))) ?_
                          refine rg_g rfl rfl (fun hG => (q_load sz4 rfl rfl)) ?_
                          refine rg_g rfl rfl (fun hG => (q_not rfl)) ?_
                          refine rg_pick rfl rfl rfl rfl rfl rfl ?_
                          refine rg_q (q_assign (x := .d (.v _)) rfl) ?_
                          refine rg_nil ?_
                          refine aops_nil ?_
                          change Awp _ _ _ _ _
                          refine awp_ret ?_
                          refine ⟨_, (.cons (.tmp (by exact .d _)) .nil), ?_⟩
                          simp [retD, hvl2, inR]; try omega
end Go.Proofs.Ytgdcidbpadhkpaa.Am.M
