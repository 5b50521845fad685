/- Contracts over the abstract machine: TuneExplained, the walk. Conditions: none. -/
import Derived.Test.YtgdcidbpadhkpaaL12
set_option linter.unusedVariables false
set_option linter.unusedSimpArgs false
-- mini
namespace Go.Proofs.Ytgdcidbpadhkpaa.Am.M
open Go

theorem zip_take' {α β : Type} : ∀ (rs : List α) (ws : List β) (n : Nat), rs.length ≤ n → rs.zip (ws.take n) = rs.zip ws
  | [], _, _, _ => by simp
  | _ :: _, [], _, _ => by simp
  | r :: rs, w :: ws, 0, h => by simp at h
  | r :: rs, w :: ws, n + 1, h => by simp [zip_take' rs ws n (by simpa using h)]
theorem len_two {α : Type} {l : List α} {k : Nat} (h : k < l.length) : ∃ x, l[k]? = some x := ⟨_, List.getElem?_eq_getElem h⟩
set_option maxRecDepth 100000 in
theorem tuneExplained_p (rs : List Int) (x : Int × Int) (ws : List (Int × Int)) : PC Try.prog 14 [.sl 1 (rs.map iC), .agg (shC x), .sl 2 (ws.map shC)] (.v (.bool true)) := by
  refine pc_of_awpN Try.func14 rfl Try.ntmps14 (rs := [.tmp 6]) Try.results14 (by simp) fun w0 hmine hrnd hpn => ?_
  refine awp_seq ?_
  refine awp_region 2 mixed (by kernel_rfl) ?_
  refine rg_q (q_box rfl (by exact .inr ⟨_, rfl⟩)) ?_
  refine rg_q (q_assign (x := .d (.v _)) rfl) ?_
  refine rg_nil ?_
  refine aops_nil ?_
  change Awp _ _ _ _ _
  refine awp_seq ?_
  refine awp_seq ?_
  refine awp_region 2 mixed (by kernel_rfl) ?_
  refine rg_q (q_call en16 .nil rfl (awake_p)) ?_
  refine rg_q (q_not rfl) ?_
  refine rg_nil ?_
  refine aops_nil ?_
  change Awp _ _ _ _ _
  refine awp_cond rfl (fun hc1 => ?_) (fun hc1 => ?_)
  ·
    exfalso; (try simp only [decide_eq_true_eq, decide_eq_false_iff_not, Bool.and_eq_true, Bool.or_eq_true, Bool.and_eq_false_iff, Bool.or_eq_false_iff, Bool.not_eq_true', Bool.not_eq_false', Bool.not_true, Bool.not_false, bif_and, bif_or, Bool.not_not, ne_eq, Decidable.not_not, not_true_eq_false, not_false_eq_true, Int.not_le, Int.not_lt] at hc1); simp_all
  ·
    (try simp only [decide_eq_true_eq, decide_eq_false_iff_not, Bool.and_eq_true, Bool.or_eq_true, Bool.and_eq_false_iff, Bool.or_eq_false_iff, Bool.not_eq_true', Bool.not_eq_false', Bool.not_true, Bool.not_false, bif_and, bif_or, Bool.not_not, ne_eq, Decidable.not_not, not_true_eq_false, not_false_eq_true, Int.not_le, Int.not_lt] at hc1)
    refine awp_skip ?_
    change Awp _ _ _ _ _
    refine awp_seq ?_
    refine awp_seq ?_
    refine awp_region 22 mixed (by kernel_rfl) ?_
    refine rg_q (q_move (x := .d (.sl _ _)) rfl) ?_
    refine rg_q (q_len isl25 rfl (by exact len_map _ _)) ?_
    refine rg_q (q_gtr rfl rfl) ?_
    refine rg_q (q_move (x := .d (.v _)) rfl) ?_
    refine rg_g rfl rfl (fun hG => (q_move (x := .d (.sl _ _)) rfl)) ?_
    refine rg_g rfl rfl (fun hG => (q_len isl103 rfl (by exact len_map _ _))) ?_
    refine rg_g rfl rfl (fun hG => (q_move (x := .d (.sl _ _)) rfl)) ?_
    refine rg_g rfl rfl (fun hG => (q_len isl25 rfl (by exact len_map _ _))) ?_
    refine rg_g rfl rfl (fun hG => (q_lss rfl rfl)) ?_
    refine rg_pick rfl rfl rfl rfl rfl rfl ?_
    refine rg_q (q_move (x := .d (.v _)) rfl) ?_
    refine rg_g rfl rfl (fun hG => (q_indexAddr_ar ar88 rfl rfl (by (have hg0 := T.bool_inj (a := _) hG.1; (try simp only [decide_eq_true_eq, decide_eq_false_iff_not, Bool.and_eq_true, Bool.or_eq_true, Bool.and_eq_false_iff, Bool.or_eq_false_iff, Bool.not_eq_true', Bool.not_eq_false', Bool.not_true, Bool.not_false, bif_and, bif_or, Bool.not_not, ne_eq, Decidable.not_not, not_true_eq_false, not_false_eq_true, Int.not_le, Int.not_lt] at hg0); omega)) (by (have hg0 := T.bool_inj (a := _) hG.1; (try simp only [decide_eq_true_eq, decide_eq_false_iff_not, Bool.and_eq_true, Bool.or_eq_true, Bool.and_eq_false_iff, Bool.or_eq_false_iff, Bool.not_eq_true', Bool.not_eq_false', Bool.not_true, Bool.not_false, bif_and, bif_or, Bool.not_not, ne_eq, Decidable.not_not, not_true_eq_false, not_false_eq_true, Int.not_le, Int.not_lt] at hg0); omega)))) ?_
    refine rg_g rfl rfl (fun hG => (q_load sz3 rfl rfl)) ?_
    refine rg_g rfl rfl (fun hG => (q_call en21 (.cons rfl (.cons rfl (.cons rfl .nil))) rfl (Within_p _ _ _))) ?_
    refine rg_g rfl rfl (fun hG => (q_not rfl)) ?_
    refine rg_pick rfl rfl rfl rfl rfl rfl ?_
    refine rg_q (q_move (x := .d (.v _)) rfl) ?_
    refine rg_g rfl rfl (fun hG => (q_indexAddr_ar ar88 rfl rfl (by (have hg0 := T.bool_inj (a := _) hG.1; (try simp only [decide_eq_true_eq, decide_eq_false_iff_not, Bool.and_eq_true, Bool.or_eq_true, Bool.and_eq_false_iff, Bool.or_eq_false_iff, Bool.not_eq_true', Bool.not_eq_false', Bool.not_true, Bool.not_false, bif_and, bif_or, Bool.not_not, ne_eq, Decidable.not_not, not_true_eq_false, not_false_eq_true, Int.not_le, Int.not_lt] at hg0); omega)) (by (have hg0 := T.bool_inj (a := _) hG.1; (try simp only [decide_eq_true_eq, decide_eq_false_iff_not, Bool.and_eq_true, Bool.or_eq_true, Bool.and_eq_false_iff, Bool.or_eq_false_iff, Bool.not_eq_true', Bool.not_eq_false', Bool.not_true, Bool.not_false, bif_and, bif_or, Bool.not_not, ne_eq, Decidable.not_not, not_true_eq_false, not_false_eq_true, Int.not_le, Int.not_lt] at hg0); omega)))) ?_
    refine rg_g rfl rfl (fun hG => (q_load sz3 rfl rfl)) ?_
    refine rg_g rfl rfl (fun hG => (q_call en21 (.cons rfl (.cons rfl (.cons rfl .nil))) rfl (Within_p _ _ _))) ?_
    refine rg_g rfl rfl (fun hG => (q_not rfl)) ?_
    refine rg_pick rfl rfl rfl rfl rfl rfl ?_
    refine rg_nil ?_
    refine aops_nil ?_
    change Awp _ _ _ _ _
    refine awp_len (t := 26) rfl (fun hl26 => ?_)
    (try simp only [List.length_map] at hl26)
    refine awp_cond rfl (fun hc3 => ?_) (fun hc3 => ?_)
    ·
      (try simp only [decide_eq_true_eq, decide_eq_false_iff_not, Bool.and_eq_true, Bool.or_eq_true, Bool.and_eq_false_iff, Bool.or_eq_false_iff, Bool.not_eq_true', Bool.not_eq_false', Bool.not_true, Bool.not_false, bif_and, bif_or, Bool.not_not, ne_eq, Decidable.not_not, not_true_eq_false, not_false_eq_true, Int.not_le, Int.not_lt] at hc3)
      refine awp_seq ?_
      refine awp_region 1 mixed (by kernel_rfl) ?_
      refine rg_q (q_assign (x := .d (.v _)) rfl) ?_
      refine rg_nil ?_
      refine aops_nil ?_
      change Awp _ _ _ _ _
      refine awp_ret ?_
      refine ⟨_, (.cons (.tmp (by exact .d _)) .nil), ?_⟩
      rfl
    ·
      (try simp only [decide_eq_true_eq, decide_eq_false_iff_not, Bool.and_eq_true, Bool.or_eq_true, Bool.and_eq_false_iff, Bool.or_eq_false_iff, Bool.not_eq_true', Bool.not_eq_false', Bool.not_true, Bool.not_false, bif_and, bif_or, Bool.not_not, ne_eq, Decidable.not_not, not_true_eq_false, not_false_eq_true, Int.not_le, Int.not_lt] at hc3)
      have hl6 : rs.length ≤ 6 := by omega
      have hlw : rs.length ≤ ws.length := by omega
      have hx1 : inR 0 x.1 1000000000 = true := by simp_all
      have hx2 : inR 500 x.2 10000 = true := by simp_all
      have hy1 := hx1
      have hy2 := hx2
      simp [inR] at hy1 hy2
      obtain ⟨dd1, dd2⟩ := hy1
      obtain ⟨ss1, ss2⟩ := hy2
      refine awp_skip ?_
      change Awp _ _ _ _ _
      refine awp_seq ?_
      refine awp_region 2 mixed (by kernel_rfl) ?_
      refine rg_q (q_assign_nil) ?_
      refine rg_q (q_assign_nil) ?_
      refine rg_nil ?_
      refine aops_nil ?_
      change Awp _ _ _ _ _
      refine Awp.le (le_own (k := 7) (e := 105) (sz := 3) rfl rfl) ?_
      refine Awp.le (le_own (k := 8) (e := 105) (sz := 3) rfl rfl) ?_
      refine awp_seq ?_
      refine awp_seq ?_
      refine awp_region 1 mixed (by kernel_rfl) ?_
      refine rg_q (q_assign (x := .d (.v _)) rfl) ?_
      refine rg_nil ?_
      refine aops_nil ?_
      change Awp _ _ _ _ _
      refine awp_block ?_
      refine awp_loopH [6, 7, 8, 9, 10, 11, 48, 49, 50, 51, 52, 53, 54, 55, 56, 57, 58, 59, 60, 61, 62, 63, 64, 65, 66, 67, 68, 69, 70, 71, 72, 73, 74, 75, 76, 77, 78, 79, 80, 81, 82, 83, 84, 85, 86, 87, 88, 89, 90, 91, 92, 93, 94, 95, 96, 97, 98, 99, 100, 101, 102, 103, 104, 105, 106, 107, 108, 109, 110, 111, 112, 113, 114, 115, 116, 117, 118, 119, 120, 121, 122, 123, 124, 125, 126, 127, 128, 129, 130, 131, 132, 133, 134] [7, 8] (α := Nat) (fun k => [(9, T.i (k : Int)), (7, .rs 7), (8, .rs 8)]) (fun k => [(7, .row 105 3 ((wL x.1 x.2 (rs.take k) (ws.take k)).map arcC)), (8, .row 105 3 ((nL x.1 x.2 (rs.take k)).map arcC))]) (fun k => k ≤ rs.length ∧ ∀ (i : Nat), i < k → ∀ (r : Int) (w : Int × Int), rs[i]? = some r → ws[i]? = some w → WOk x.1 x.2 r w) (fun k => rs.length - k) 0 ⟨Nat.zero_le _, fun i hi => by omega⟩ ?_ ?_
      · exact le_head (ms := [7, 8]) (by repeat (exact Out.refl _)) ⟨(by rfl), (by rfl), (by rfl), trivial⟩ ⟨(by rfl), (by rfl), trivial⟩ rfl rfl rfl rfl
      ·
        intro k ⟨hk, hh⟩
        refine awp_seq ?_
        refine awp_seq ?_
        refine awp_region 4 mixed (by kernel_rfl) ?_
        refine rg_q (q_move (x := .d (.v _)) rfl) ?_
        refine rg_q (q_move (x := .d (.sl _ _)) rfl) ?_
        refine rg_q (q_len isl25 rfl (by exact len_map _ _)) ?_
        refine rg_q (q_lss rfl rfl) ?_
        refine rg_nil ?_
        refine aops_nil ?_
        change Awp _ _ _ _ _
        refine awp_len (t := 49) rfl (fun hl49 => ?_)
        (try simp only [List.length_map] at hl49)
        refine awp_cond rfl (fun hc7 => ?_) (fun hc7 => ?_)
        ·
          (try simp only [decide_eq_true_eq, decide_eq_false_iff_not, Bool.and_eq_true, Bool.or_eq_true, Bool.and_eq_false_iff, Bool.or_eq_false_iff, Bool.not_eq_true', Bool.not_eq_false', Bool.not_true, Bool.not_false, bif_and, bif_or, Bool.not_not, ne_eq, Decidable.not_not, not_true_eq_false, not_false_eq_true, Int.not_le, Int.not_lt] at hc7)
          have hkr : k < rs.length := by omega
          obtain ⟨r, hr⟩ := len_two hkr
          obtain ⟨w, hw⟩ := len_two (show k < ws.length by omega)
          refine awp_skip ?_
          change Awp _ _ _ _ _
          refine awp_seq ?_
          refine awp_block ?_
          refine awp_seq ?_
          refine awp_seq ?_
          refine awp_region 24 mixed (by kernel_rfl) ?_
          refine rg_q (q_move (x := .d (.sl _ _)) rfl) ?_
          refine rg_q (q_move (x := .d (.v _)) rfl) ?_
          refine rg_q (q_indexAddr sl25 rfl rfl (by omega) (map_at (by omega) hr)) ?_
          refine rg_q (q_load sz3 rfl rfl) ?_
          refine rg_q (q_call en21 (.cons rfl (.cons rfl (.cons rfl .nil))) rfl (Within_p _ _ _)) ?_
          refine rg_q (q_not rfl) ?_
          refine rg_q (q_move (x := .d (.v _)) rfl) ?_
          refine rg_g rfl rfl (fun hG => (q_move (x := .d (.sl _ _)) rfl)) ?_
          refine rg_g rfl rfl (fun hG => (q_move (x := .d (.v _)) rfl)) ?_
          refine rg_g rfl rfl (fun hG => (q_indexAddr sl103 rfl rfl (by (have hg0 := T.bool_inj (a := _) hG.1; (try simp only [decide_eq_true_eq, decide_eq_false_iff_not, Bool.and_eq_true, Bool.or_eq_true, Bool.and_eq_false_iff, Bool.or_eq_false_iff, Bool.not_eq_true', Bool.not_eq_false', Bool.not_true, Bool.not_false, bif_and, bif_or, Bool.not_not, ne_eq, Decidable.not_not, not_true_eq_false, not_false_eq_true, Int.not_le, Int.not_lt] at hg0); omega)) (map_at (by (have hg0 := T.bool_inj (a := _) hG.1; (try simp only [decide_eq_true_eq, decide_eq_false_iff_not, Bool.and_eq_true, Bool.or_eq_true, Bool.and_eq_false_iff, Bool.or_eq_false_iff, Bool.not_eq_true', Bool.not_eq_false', Bool.not_true, Bool.not_false, bif_and, bif_or, Bool.not_not, ne_eq, Decidable.not_not, not_true_eq_false, not_false_eq_true, Int.not_le, Int.not_lt] at hg0); omega)) hw))) ?_
          refine rg_g rfl rfl (fun hG => (q_indexAddr_ar ar88 rfl rfl (by (have hg0 := T.bool_inj (a := _) hG.1; (try simp only [decide_eq_true_eq, decide_eq_false_iff_not, Bool.and_eq_true, Bool.or_eq_true, Bool.and_eq_false_iff, Bool.or_eq_false_iff, Bool.not_eq_true', Bool.not_eq_false', Bool.not_true, Bool.not_false, bif_and, bif_or, Bool.not_not, ne_eq, Decidable.not_not, not_true_eq_false, not_false_eq_true, Int.not_le, Int.not_lt] at hg0); omega)) (by (have hg0 := T.bool_inj (a := _) hG.1; (try simp only [decide_eq_true_eq, decide_eq_false_iff_not, Bool.and_eq_true, Bool.or_eq_true, Bool.and_eq_false_iff, Bool.or_eq_false_iff, Bool.not_eq_true', Bool.not_eq_false', Bool.not_true, Bool.not_false, bif_and, bif_or, Bool.not_not, ne_eq, Decidable.not_not, not_true_eq_false, not_false_eq_true, Int.not_le, Int.not_lt] at hg0); omega)))) ?_
          refine rg_g rfl rfl (fun hG => (q_load sz3 rfl rfl)) ?_
          refine rg_g rfl rfl (fun hG => (q_call en21 (.cons rfl (.cons rfl (.cons rfl .nil))) rfl (Within_p _ _ _))) ?_
          refine rg_g rfl rfl (fun hG => (q_not rfl)) ?_
          refine rg_pick rfl rfl rfl rfl rfl rfl ?_
          refine rg_q (q_move (x := .d (.v _)) rfl) ?_
          refine rg_g rfl rfl (fun hG => (q_move (x := .d (.sl _ _)) rfl)) ?_
          refine rg_g rfl rfl (fun hG => (q_move (x := .d (.v _)) rfl)) ?_
          refine rg_g rfl rfl (fun hG => (q_indexAddr sl103 rfl rfl (by (have hg0 := T.bool_inj (a := _) hG.1; (try simp only [decide_eq_true_eq, decide_eq_false_iff_not, Bool.and_eq_true, Bool.or_eq_true, Bool.and_eq_false_iff, Bool.or_eq_false_iff, Bool.not_eq_true', Bool.not_eq_false', Bool.not_true, Bool.not_false, bif_and, bif_or, Bool.not_not, ne_eq, Decidable.not_not, not_true_eq_false, not_false_eq_true, Int.not_le, Int.not_lt] at hg0); omega)) (map_at (by (have hg0 := T.bool_inj (a := _) hG.1; (try simp only [decide_eq_true_eq, decide_eq_false_iff_not, Bool.and_eq_true, Bool.or_eq_true, Bool.and_eq_false_iff, Bool.or_eq_false_iff, Bool.not_eq_true', Bool.not_eq_false', Bool.not_true, Bool.not_false, bif_and, bif_or, Bool.not_not, ne_eq, Decidable.not_not, not_true_eq_false, not_false_eq_true, Int.not_le, Int.not_lt] at hg0); omega)) hw))) ?_
          refine rg_g rfl rfl (fun hG => (q_indexAddr_ar ar88 rfl rfl (by (have hg0 := T.bool_inj (a := _) hG.1; (try simp only [decide_eq_true_eq, decide_eq_false_iff_not, Bool.and_eq_true, Bool.or_eq_true, Bool.and_eq_false_iff, Bool.or_eq_false_iff, Bool.not_eq_true', Bool.not_eq_false', Bool.not_true, Bool.not_false, bif_and, bif_or, Bool.not_not, ne_eq, Decidable.not_not, not_true_eq_false, not_false_eq_true, Int.not_le, Int.not_lt] at hg0); omega)) (by (have hg0 := T.bool_inj (a := _) hG.1; (try simp only [decide_eq_true_eq, decide_eq_false_iff_not, Bool.and_eq_true, Bool.or_eq_true, Bool.and_eq_false_iff, Bool.or_eq_false_iff, Bool.not_eq_true', Bool.not_eq_false', Bool.not_true, Bool.not_false, bif_and, bif_or, Bool.not_not, ne_eq, Decidable.not_not, not_true_eq_false, not_false_eq_true, Int.not_le, Int.not_lt] at hg0); omega)))) ?_
          refine rg_g rfl rfl (fun hG => (q_load sz3 rfl rfl)) ?_
          refine rg_g rfl rfl (fun hG => (q_call en21 (.cons rfl (.cons rfl (.cons rfl .nil))) rfl (Within_p _ _ _))) ?_
          refine rg_g rfl rfl (fun hG => (q_not rfl)) ?_
          refine rg_pick rfl rfl rfl rfl rfl rfl ?_
          refine rg_nil ?_
          refine aops_nil ?_
          change Awp _ _ _ _ _
          refine awp_cond rfl (fun hc9 => ?_) (fun hc9 => ?_)
          ·
            (try simp only [decide_eq_true_eq, decide_eq_false_iff_not, Bool.and_eq_true, Bool.or_eq_true, Bool.and_eq_false_iff, Bool.or_eq_false_iff, Bool.not_eq_true', Bool.not_eq_false', Bool.not_true, Bool.not_false, bif_and, bif_or, Bool.not_not, ne_eq, Decidable.not_not, not_true_eq_false, not_false_eq_true, Int.not_le, Int.not_lt] at hc9)
            refine awp_seq ?_
            refine awp_region 1 mixed (by kernel_rfl) ?_
            refine rg_q (q_assign (x := .d (.v _)) rfl) ?_
            refine rg_nil ?_
            refine aops_nil ?_
            change Awp _ _ _ _ _
            refine awp_ret ?_
            refine ⟨_, (.cons (.tmp (by exact .d _)) .nil), ?_⟩
            rfl
          ·
            (try simp only [decide_eq_true_eq, decide_eq_false_iff_not, Bool.and_eq_true, Bool.or_eq_true, Bool.and_eq_false_iff, Bool.or_eq_false_iff, Bool.not_eq_true', Bool.not_eq_false', Bool.not_true, Bool.not_false, bif_and, bif_or, Bool.not_not, ne_eq, Decidable.not_not, not_true_eq_false, not_false_eq_true, Int.not_le, Int.not_lt] at hc9)
            have hb1 : inR 1 r 100000 = true := by simp_all
            have hb2 : inR 0 w.1 1000000000 = true := by simp_all
            have hb3 : inR 0 w.2 1000000000 = true := by simp_all
            simp [inR] at hb1 hb2 hb3
            obtain ⟨r1, r2⟩ := hb1
            obtain ⟨w1, w2⟩ := hb2
            obtain ⟨w3, w4⟩ := hb3
            obtain ⟨g1, g2, g3, g4, g5, g6⟩ := q_bounds ss1 r1 r2
            have hok1 : WOk x.1 x.2 r w := ⟨dd1, dd2, ss1, ss2, r1, r2, w1, w2, w3, w4⟩
            have hsw := wL_snoc (d := x.1) (s := x.2) hr hw
            have hsn := nL_snoc (d := x.1) (s := x.2) hr
            have hlw1 : (wL x.1 x.2 (rs.take k) (ws.take k)).length ≤ 6 := by unfold wL; rw [List.length_map, List.length_zip, List.length_take]; omega
            have hln1 : (nL x.1 x.2 (rs.take k)).length ≤ 6 := by unfold nL; rw [List.length_map, List.length_take]; omega
            refine awp_skip ?_
            change Awp _ _ _ _ _
            refine awp_seq ?_
            refine awp_region 24 mixed (by kernel_rfl) ?_
            refine rg_q (q_indexAddr_ar ar88 rfl rfl (by omega) (by omega)) ?_
            refine rg_q (q_load sz3 rfl rfl) ?_
            refine rg_q (q_move (x := .d (.sl _ _)) rfl) ?_
            refine rg_q (q_move (x := .d (.v _)) rfl) ?_
            refine rg_q (q_indexAddr sl25 rfl rfl (by omega) (map_at (by omega) hr)) ?_
            refine rg_q (q_load sz3 rfl rfl) ?_
            refine rg_q (q_mul rfl rfl (In64.mk (by omega) (by omega))) ?_
            refine rg_q (q_indexAddr_ar ar88 rfl rfl (by omega) (by omega)) ?_
            refine rg_q (q_load sz3 rfl rfl) ?_
            refine rg_q (q_call en67 (.cons rfl (.cons rfl .nil)) rfl (Floor_p _ _ ⟨by omega, by omega⟩ (by omega))) ?_
            refine rg_q (q_add rfl rfl (In64.mk (by omega) (by omega))) ?_
            refine rg_q (q_indexAddr_ar ar88 rfl rfl (by omega) (by omega)) ?_
            refine rg_q (q_load sz3 rfl rfl) ?_
            refine rg_q (q_move (x := .d (.sl _ _)) rfl) ?_
            refine rg_q (q_move (x := .d (.v _)) rfl) ?_
            refine rg_q (q_indexAddr sl25 rfl rfl (by omega) (map_at (by omega) hr)) ?_
            refine rg_q (q_load sz3 rfl rfl) ?_
            refine rg_q (q_mul rfl rfl (In64.mk (by omega) (by omega))) ?_
            refine rg_q (q_indexAddr_ar ar88 rfl rfl (by omega) (by omega)) ?_
            refine rg_q (q_load sz3 rfl rfl) ?_
            refine rg_q (q_call en68 (.cons rfl (.cons rfl .nil)) rfl (Ceil_p _ _ ⟨by omega, by omega⟩ (by omega))) ?_
            refine rg_q (q_add rfl rfl (In64.mk (by omega) (by omega))) ?_
            refine rg_q (q_assign (x := .d (.v _)) rfl) ?_
            refine rg_q (q_assign (x := .d (.v _)) rfl) ?_
            refine rg_nil ?_
            refine aops_nil ?_
            change Awp _ _ _ _ _
            refine awp_seq ?_
            refine awp_regionC 25 [0, 23, 24] [7] mixed (by kernel_rfl) ?_
            refine rgc_c rfl rfl (c_q (q_move (x := .rs _) rfl)) ?_
            refine rgc_q rfl (q_move (x := .d (.sl _ _)) rfl) rfl ?_
            refine rgc_q rfl (q_move (x := .d (.v _)) rfl) rfl ?_
            refine rgc_q rfl (q_indexAddr sl25 rfl rfl (by omega) (map_at (by omega) hr)) rfl ?_
            refine rgc_q rfl (q_load sz3 rfl rfl) rfl ?_
            refine rgc_q rfl (q_move (x := .d (.v _)) rfl) rfl ?_
            refine rgc_q rfl (q_move (x := .d (.sl _ _)) rfl) rfl ?_
            refine rgc_q rfl (q_move (x := .d (.v _)) rfl) rfl ?_
            refine rgc_q rfl (q_indexAddr sl103 rfl rfl (by omega) (map_at (by omega) hw)) rfl ?_
            refine rgc_q rfl (q_indexAddr_ar ar88 rfl rfl (by omega) (by omega)) rfl ?_
            refine rgc_q rfl (q_load sz3 rfl rfl) rfl ?_
            refine rgc_q rfl (q_sub rfl rfl (In64.mk (by omega) (by omega))) rfl ?_
            refine rgc_q rfl (q_max rfl rfl) rfl ?_
            refine rgc_q rfl (q_move (x := .d (.v _)) rfl) rfl ?_
            refine rgc_q rfl (q_move (x := .d (.sl _ _)) rfl) rfl ?_
            refine rgc_q rfl (q_move (x := .d (.v _)) rfl) rfl ?_
            refine rgc_q rfl (q_indexAddr sl103 rfl rfl (by omega) (map_at (by omega) hw)) rfl ?_
            refine rgc_q rfl (q_indexAddr_ar ar88 rfl rfl (by omega) (by omega)) rfl ?_
            refine rgc_q rfl (q_load sz3 rfl rfl) rfl ?_
            refine rgc_q rfl (q_add rfl rfl (In64.mk (by omega) (by omega))) rfl ?_
            refine rgc_q rfl (q_build (cs := [_, _]) pl52 zr52 rfl (.cons rfl (by exact .inl rfl) (.cons rfl (by exact .inl rfl) .nil)) ⟨⟨rfl, by decide⟩, ⟨rfl, by decide⟩, trivial⟩ rfl) rfl ?_
            refine rgc_q rfl (q_build (cs := [_, _, _]) pl105 zr105 rfl (.cons rfl (by exact .inl rfl) (.cons rfl (by exact .inr ⟨_, rfl⟩) .nil)) ⟨⟨rfl, by decide⟩, ⟨rfl, by decide⟩, trivial⟩ rfl) rfl ?_
            refine rgc_q rfl (q_buildSlice sl93 zr105 rfl rfl (by decide) (.cons rfl (by exact .inr ⟨_, rfl⟩) .nil) ⟨rfl, rfl, trivial⟩ rfl (by decide) rfl) rfl ?_
            refine rgc_c rfl rfl (c_append (es' := (wL x.1 x.2 (rs.take (k + 1)) (ws.take (k + 1))).map arcC) sl93 zr105 by105 rfl (by decide) rfl rfl rfl rfl (by (try simp only [List.length_map, List.length_append, List.length_cons, List.length_nil]); omega) (by (try simp only [List.length_map, List.length_append, List.length_cons, List.length_nil]); omega) (by rw [hsw, List.map_append]; rfl)) ?_
            refine rgc_c rfl rfl (c_q (q_assign (x := .rs _) rfl)) ?_
            refine rgc_nil ?_
            refine aops_nil ?_
            change Awp _ _ _ _ _
            refine awp_region 10 mixed (by kernel_rfl) ?_
            refine rg_q (q_move (x := .rs _) rfl) ?_
            refine rg_q (q_move (x := .d (.sl _ _)) rfl) ?_
            refine rg_q (q_move (x := .d (.v _)) rfl) ?_
            refine rg_q (q_indexAddr sl25 rfl rfl (by omega) (map_at (by omega) hr)) ?_
            refine rg_q (q_load sz3 rfl rfl) ?_
            refine rg_q (q_move (x := .d (.v _)) rfl) ?_
            refine rg_q (q_move (x := .d (.v _)) rfl) ?_
            refine rg_q (q_build (cs := [_, _]) pl52 zr52 rfl (.cons rfl (by exact .inl rfl) (.cons rfl (by exact .inl rfl) .nil)) ⟨⟨rfl, by decide⟩, ⟨rfl, by decide⟩, trivial⟩ rfl) ?_
            refine rg_q (q_build (cs := [_, _, _]) pl105 zr105 rfl (.cons rfl (by exact .inl rfl) (.cons rfl (by exact .inr ⟨_, rfl⟩) .nil)) ⟨⟨rfl, by decide⟩, ⟨rfl, by decide⟩, trivial⟩ rfl) ?_
            refine rg_q (q_buildSlice sl93 zr105 rfl rfl (by decide) (.cons rfl (by exact .inr ⟨_, rfl⟩) .nil) ⟨rfl, rfl, trivial⟩ rfl (by decide) rfl) ?_
            refine rg_nil ?_
            refine aops_append sl93 zr105 by105 rfl (by decide) rfl rfl rfl rfl (by (try simp only [List.length_map, List.length_append, List.length_cons, List.length_nil]); omega) (by (try simp only [List.length_map, List.length_append, List.length_cons, List.length_nil]); omega) rfl rfl ?_
            refine aops_q rfl (q_assign (x := .rs _) rfl) ?_
            refine aops_nil ?_
            change Awp _ _ _ _ _
            refine awp_region 3 mixed (by kernel_rfl) ?_
            refine rg_q (q_move (x := .d (.v _)) rfl) ?_
            refine rg_q (q_add rfl rfl (In64.mk (by omega) (by omega))) ?_
            refine rg_q (q_assign (x := .d (.v _)) rfl) ?_
            refine rg_nil ?_
            refine aops_nil ?_
            refine ⟨k + 1, ⟨by omega, fun i hi r1 w1 h1 h2 => (if e : i = k then (by subst e; rw [hr] at h1; rw [hw] at h2; cases h1; cases h2; exact hok1) else hh i (by omega) r1 w1 h1 h2)⟩, by omega, ?_⟩
            exact le_head (ms := [7, 8]) (by repeat (first | exact Out.head rfl rfl | (refine Out.put ?_ rfl) | (refine Out.site ?_ rfl) | (refine Out.killS ?_ rfl) | (refine Out.ovD ?_ rfl))) ⟨(by rfl), (by rfl), (by rfl), trivial⟩ ⟨(by rfl), (by (show Site.row _ _ _ = Site.row _ _ _; rw [hsn, List.map_append]; rfl)), trivial⟩ rfl rfl rfl rfl
        ·
          (try simp only [decide_eq_true_eq, decide_eq_false_iff_not, Bool.and_eq_true, Bool.or_eq_true, Bool.and_eq_false_iff, Bool.or_eq_false_iff, Bool.not_eq_true', Bool.not_eq_false', Bool.not_true, Bool.not_false, bif_and, bif_or, Bool.not_not, ne_eq, Decidable.not_not, not_true_eq_false, not_false_eq_true, Int.not_le, Int.not_lt] at hc7)
          have hkl : k = rs.length := by omega
          subst hkl
          have hw0 : wL x.1 x.2 (rs.take rs.length) (ws.take rs.length) = wL x.1 x.2 rs ws := by unfold wL; rw [List.take_length, zip_take' _ _ _ (Nat.le_refl _)]
          have hn0 : nL x.1 x.2 (rs.take rs.length) = nL x.1 x.2 rs := by rw [List.take_length]
          have hlw2 : (wL x.1 x.2 rs ws).length ≤ 6 := by unfold wL; rw [List.length_map, List.length_zip]; omega
          have hln2 : (nL x.1 x.2 rs).length ≤ 6 := by unfold nL; rw [List.length_map]; omega
          refine awp_exit ?_
          change Awp _ _ _ _ _
          refine awp_seq ?_
          refine awp_seq ?_
          refine Awp.le (le_freezeR (es := (wL x.1 x.2 rs ws).map arcC) 7 7 (by show Site.row _ _ _ = _; rw [hw0]) rfl rfl rfl hmine) ?_
          refine Awp.le (le_freezeR (es := (nL x.1 x.2 rs).map arcC) 8 8 (by show Site.row _ _ _ = _; rw [hn0]) rfl rfl rfl hmine) ?_
          refine awp_region 7 mixed (by kernel_rfl) ?_
          refine rg_q (q_move (x := .d (.sl _ _)) rfl) ?_
          refine rg_q (q_call en63 (.cons rfl .nil) rfl (rcheckArcs_p _)) ?_
          refine rg_q (q_move (x := .d (.tup _)) rfl) ?_
          refine rg_q (q_extract rfl rfl) ?_
          refine rg_q (q_extract rfl rfl) ?_
          refine rg_q (q_assign (x := .d (.v _)) rfl) ?_
          refine rg_q (q_assign (x := .d (.v _)) rfl) ?_
          refine rg_nil ?_
          refine aops_nil ?_
          change Awp _ _ _ _ _
          refine awp_seq ?_
          refine awp_region 2 mixed (by kernel_rfl) ?_
          refine rg_q (q_move (x := .d (.v _)) rfl) ?_
          refine rg_q (q_neq rfl rfl) ?_
          refine rg_nil ?_
          refine aops_nil ?_
          change Awp _ _ _ _ _
          refine awp_cond rfl (fun hc15 => ?_) (fun hc15 => ?_)
          ·
            (try simp only [decide_eq_true_eq, decide_eq_false_iff_not, Bool.and_eq_true, Bool.or_eq_true, Bool.and_eq_false_iff, Bool.or_eq_false_iff, Bool.not_eq_true', Bool.not_eq_false', Bool.not_true, Bool.not_false, bif_and, bif_or, Bool.not_not, ne_eq, Decidable.not_not, not_true_eq_false, not_false_eq_true, Int.not_le, Int.not_lt] at hc15)
            refine awp_seq ?_
            refine awp_region 1 mixed (by kernel_rfl) ?_
            refine rg_q (q_assign (x := .d (.v _)) rfl) ?_
            refine rg_nil ?_
            refine aops_nil ?_
            change Awp _ _ _ _ _
            refine awp_ret ?_
            refine ⟨_, (.cons (.tmp (by exact .d _)) .nil), ?_⟩
            rfl
          ·
            (try simp only [decide_eq_true_eq, decide_eq_false_iff_not, Bool.and_eq_true, Bool.or_eq_true, Bool.and_eq_false_iff, Bool.or_eq_false_iff, Bool.not_eq_true', Bool.not_eq_false', Bool.not_true, Bool.not_false, bif_and, bif_or, Bool.not_not, ne_eq, Decidable.not_not, not_true_eq_false, not_false_eq_true, Int.not_le, Int.not_lt] at hc15)
            have hck : (ckA (wL x.1 x.2 rs ws)).2 = 0 := hc15
            obtain ⟨hnok, hN, he1, he2⟩ := made hlw (fun i r w h1 h2 => hh i (List.getElem?_eq_some_iff.1 h1).1 r w h1 h2) hck
            obtain ⟨M, m, M', m', hM, hM', i1, i2, i3, i4, hex, hsp⟩ := exAll hck hnok hN ⟨by omega, by omega⟩ ⟨ss1, ss2⟩ he1 he2
            have hE := Explains_p (wL x.1 x.2 rs ws) x.1 x.2
            have hD := DelayRange_p (wL x.1 x.2 rs ws)
            have hD' := DelayRange_p (nL x.1 x.2 rs)
            have hS := SpeedRange_p (wL x.1 x.2 rs ws)
            have hS' := SpeedRange_p (nL x.1 x.2 rs)
            rw [hex] at hE
            rw [hM] at hD
            rw [hM'] at hD'
            obtain ⟨⟨⟨a, b⟩, e⟩, hSe⟩ : ∃ S, speedR (wL x.1 x.2 rs ws) = S := ⟨_, rfl⟩
            obtain ⟨⟨⟨a', b'⟩, e'⟩, hSe'⟩ : ∃ S, speedR (nL x.1 x.2 rs) = S := ⟨_, rfl⟩
            rw [hSe] at hS hsp
            rw [hSe'] at hS' hsp
            simp only at hE hD hD' hS hS' hsp
            refine awp_skip ?_
            change Awp _ _ _ _ _
            refine awp_seq ?_
            refine awp_region 12 mixed (by kernel_rfl) ?_
            refine rg_q (q_move (x := .d (.sl _ _)) rfl) ?_
            refine rg_q (q_call en59 (.cons rfl .nil) rfl (copyArcs_p _ (by omega))) ?_
            refine rg_q (q_indexAddr_ar ar88 rfl rfl (by omega) (by omega)) ?_
            refine rg_q (q_load sz3 rfl rfl) ?_
            refine rg_q (q_indexAddr_ar ar88 rfl rfl (by omega) (by omega)) ?_
            refine rg_q (q_load sz3 rfl rfl) ?_
            refine rg_q (q_call en62 (.cons rfl (.cons rfl (.cons rfl .nil))) rfl (hE)) ?_
            refine rg_q (q_move (x := .d (.tup _)) rfl) ?_
            refine rg_q (q_extract rfl rfl) ?_
            refine rg_q (q_extract rfl rfl) ?_
            refine rg_q (q_assign (x := .d (.v _)) rfl) ?_
            refine rg_q (q_assign (x := .d (.v _)) rfl) ?_
            refine rg_nil ?_
            refine aops_nil ?_
            change Awp _ _ _ _ _
            refine awp_seq ?_
            refine awp_region 6 mixed (by kernel_rfl) ?_
            refine rg_q (q_move (x := .d (.sl _ _)) rfl) ?_
            refine rg_q (q_call en59 (.cons rfl .nil) rfl (copyArcs_p _ (by omega))) ?_
            refine rg_q (q_call en61 (.cons rfl .nil) rfl (hD)) ?_
            refine rg_q (q_move (x := .d (.tup _)) rfl) ?_
            refine rg_q (q_extract rfl rfl) ?_
            refine rg_q (q_extract rfl rfl) ?_
            refine rg_nil ?_
            refine aops_alloc zr52 rfl rfl rfl ?_
            refine aops_store sz52 rfl rfl (by exact .inr ⟨_, rfl⟩) rfl rfl (by decide) rfl ?_
            refine aops_q rfl (q_assign (x := .d (.v _)) rfl) ?_
            refine aops_nil ?_
            change Awp _ _ _ _ _
            refine awp_seq ?_
            refine awp_region 6 mixed (by kernel_rfl) ?_
            refine rg_q (q_move (x := .d (.sl _ _)) rfl) ?_
            refine rg_q (q_call en59 (.cons rfl .nil) rfl (copyArcs_p _ (by omega))) ?_
            refine rg_q (q_call en60 (.cons rfl .nil) rfl (hS)) ?_
            refine rg_q (q_move (x := .d (.tup _)) rfl) ?_
            refine rg_q (q_extract rfl rfl) ?_
            refine rg_q (q_extract rfl rfl) ?_
            refine rg_nil ?_
            refine aops_alloc zr52 rfl rfl rfl ?_
            refine aops_store sz52 rfl rfl (by exact .inr ⟨_, rfl⟩) rfl rfl (by decide) rfl ?_
            refine aops_q rfl (q_assign (x := .d (.v _)) rfl) ?_
            refine aops_nil ?_
            change Awp _ _ _ _ _
            refine awp_seq ?_
            refine awp_seq ?_
            refine awp_region 20 mixed (by kernel_rfl) ?_
            refine rg_q (q_move (x := .d (.v _)) rfl) ?_
            refine rg_q (q_neq rfl rfl) ?_
            refine rg_q (q_move (x := .d (.v _)) rfl) ?_
            refine rg_g rfl rfl (fun hG => (q_move (x := .d (.v _)) rfl)) ?_
            refine rg_g rfl rfl (fun hG => (q_not rfl)) ?_
            refine rg_pick rfl rfl rfl rfl rfl rfl ?_
            refine rg_q (q_move (x := .d (.v _)) rfl) ?_
            refine rg_g rfl rfl (fun hG => (q_move (x := .d (.v _)) rfl)) ?_
            refine rg_g rfl rfl (fun hG => (q_neq rfl rfl)) ?_
            refine rg_pick rfl rfl rfl rfl rfl rfl ?_
            refine rg_q (q_move (x := .d (.v _)) rfl) ?_
            refine rg_g rfl rfl (fun hG => (q_indexAddr_ar ar88 rfl rfl (by (have hg0 := T.bool_inj (a := _) hG.1; (try simp only [decide_eq_true_eq, decide_eq_false_iff_not, Bool.and_eq_true, Bool.or_eq_true, Bool.and_eq_false_iff, Bool.or_eq_false_iff, Bool.not_eq_true', Bool.not_eq_false', Bool.not_true, Bool.not_false, bif_and, bif_or, Bool.not_not, ne_eq, Decidable.not_not, not_true_eq_false, not_false_eq_true, Int.not_le, Int.not_lt] at hg0); omega)) (by (have hg0 := T.bool_inj (a := _) hG.1; (try simp only [decide_eq_true_eq, decide_eq_false_iff_not, Bool.and_eq_true, Bool.or_eq_true, Bool.and_eq_false_iff, Bool.or_eq_false_iff, Bool.not_eq_true', Bool.not_eq_false', Bool.not_true, Bool.not_false, bif_and, bif_or, Bool.not_not, ne_eq, Decidable.not_not, not_true_eq_false, not_false_eq_true, Int.not_le, Int.not_lt] at hg0); omega)))) ?_
            refine rg_g rfl rfl (fun hG => (q_load sz3 rfl rfl)) ?_
            refine rg_g rfl rfl (fun hG => (q_fieldAddr_ref fld52_0 rfl)) ?_
            refine rg_g rfl rfl (fun hG => (q_load_ref sz3 rfl rfl rfl)) ?_
            refine rg_g rfl rfl (fun hG => (q_fieldAddr_ref fld52_1 rfl)) ?_
            refine rg_g rfl rfl (fun hG => (q_load_ref sz3 rfl rfl rfl)) ?_
            refine rg_g rfl rfl (fun hG => (q_call en21 (.cons rfl (.cons rfl (.cons rfl .nil))) rfl (Within_p _ _ _))) ?_
            refine rg_g rfl rfl (fun hG => (q_not rfl)) ?_
            refine rg_pick rfl rfl rfl rfl rfl rfl ?_
            refine rg_nil ?_
            refine aops_nil ?_
            change Awp _ _ _ _ _
            refine awp_cond rfl (fun hc20 => ?_) (fun hc20 => ?_)
            ·
              simp [inR] at hc20
              omega
            ·
              (try simp only [decide_eq_true_eq, decide_eq_false_iff_not, Bool.and_eq_true, Bool.or_eq_true, Bool.and_eq_false_iff, Bool.or_eq_false_iff, Bool.not_eq_true', Bool.not_eq_false', Bool.not_true, Bool.not_false, bif_and, bif_or, Bool.not_not, ne_eq, Decidable.not_not, not_true_eq_false, not_false_eq_true, Int.not_le, Int.not_lt] at hc20)
              refine awp_skip ?_
              change Awp _ _ _ _ _
              refine awp_seq ?_
              refine awp_seq ?_
              refine awp_region 2 mixed (by kernel_rfl) ?_
              refine rg_q (q_move (x := .d (.v _)) rfl) ?_
              refine rg_q (q_neq rfl rfl) ?_
              refine rg_nil ?_
              refine aops_nil ?_
              change Awp _ _ _ _ _
              refine awp_cond rfl (fun hc22 => ?_) (fun hc22 => ?_)
              ·
                (try simp only [decide_eq_true_eq, decide_eq_false_iff_not, Bool.and_eq_true, Bool.or_eq_true, Bool.and_eq_false_iff, Bool.or_eq_false_iff, Bool.not_eq_true', Bool.not_eq_false', Bool.not_true, Bool.not_false, bif_and, bif_or, Bool.not_not, ne_eq, Decidable.not_not, not_true_eq_false, not_false_eq_true, Int.not_le, Int.not_lt] at hc22)
                have he11 : e = 11 := by omega
                refine awp_seq ?_
                refine awp_region 3 mixed (by kernel_rfl) ?_
                refine rg_q (q_move (x := .d (.v _)) rfl) ?_
                refine rg_q (q_eql rfl rfl) ?_
                refine rg_q (q_assign (x := .d (.v _)) rfl) ?_
                refine rg_nil ?_
                refine aops_nil ?_
                change Awp _ _ _ _ _
                refine awp_ret ?_
                refine ⟨_, (.cons (.tmp (by exact .d _)) .nil), ?_⟩
                simp [retD, he11]
              ·
                (try simp only [decide_eq_true_eq, decide_eq_false_iff_not, Bool.and_eq_true, Bool.or_eq_true, Bool.and_eq_false_iff, Bool.or_eq_false_iff, Bool.not_eq_true', Bool.not_eq_false', Bool.not_true, Bool.not_false, bif_and, bif_or, Bool.not_not, ne_eq, Decidable.not_not, not_true_eq_false, not_false_eq_true, Int.not_le, Int.not_lt] at hc22)
                have he0 : e = 0 := by omega
                obtain ⟨_, j1, j2, j3, j4, j5⟩ := hsp.resolve_left (by omega)
                subst j1
                refine awp_skip ?_
                change Awp _ _ _ _ _
                refine awp_seq ?_
                refine awp_region 6 mixed (by kernel_rfl) ?_
                refine rg_q (q_move (x := .d (.sl _ _)) rfl) ?_
                refine rg_q (q_call en59 (.cons rfl .nil) rfl (copyArcs_p _ (by omega))) ?_
                refine rg_q (q_call en60 (.cons rfl .nil) rfl (hS')) ?_
                refine rg_q (q_move (x := .d (.tup _)) rfl) ?_
                refine rg_q (q_extract rfl rfl) ?_
                refine rg_q (q_extract rfl rfl) ?_
                refine rg_nil ?_
                refine aops_alloc zr52 rfl rfl rfl ?_
                refine aops_store sz52 rfl rfl (by exact .inr ⟨_, rfl⟩) rfl rfl (by decide) rfl ?_
                refine aops_q rfl (q_assign (x := .d (.v _)) rfl) ?_
                refine aops_nil ?_
                change Awp _ _ _ _ _
                refine awp_seq ?_
                refine awp_region 5 mixed (by kernel_rfl) ?_
                refine rg_q (q_move (x := .d (.sl _ _)) rfl) ?_
                refine rg_q (q_call en61 (.cons rfl .nil) rfl (hD')) ?_
                refine rg_q (q_move (x := .d (.tup _)) rfl) ?_
                refine rg_q (q_extract rfl rfl) ?_
                refine rg_q (q_extract rfl rfl) ?_
                refine rg_nil ?_
                refine aops_alloc zr52 rfl rfl rfl ?_
                refine aops_store sz52 rfl rfl (by exact .inr ⟨_, rfl⟩) rfl rfl (by decide) rfl ?_
                refine aops_q rfl (q_assign (x := .d (.v _)) rfl) ?_
                refine aops_nil ?_
                change Awp _ _ _ _ _
                refine awp_seq ?_
                refine awp_region 44 mixed (by kernel_rfl) ?_
                refine rg_q (q_indexAddr_ar ar88 rfl rfl (by omega) (by omega)) ?_
                refine rg_q (q_load sz3 rfl rfl) ?_
                refine rg_q (q_fieldAddr_ref fld52_0 rfl) ?_
                refine rg_q (q_load_ref sz3 rfl rfl rfl) ?_
                refine rg_q (q_fieldAddr_ref fld52_1 rfl) ?_
                refine rg_q (q_load_ref sz3 rfl rfl rfl) ?_
                refine rg_q (q_call en21 (.cons rfl (.cons rfl (.cons rfl .nil))) rfl (Within_p _ _ _)) ?_
                refine rg_q (q_move (x := .d (.v _)) rfl) ?_
                refine rg_g rfl rfl (fun hG => (q_move (x := .d (.v _)) rfl)) ?_
                refine rg_g rfl rfl (fun hG => (q_eql rfl rfl)) ?_
                refine rg_pick rfl rfl rfl rfl rfl rfl ?_
                refine rg_q (q_move (x := .d (.v _)) rfl) ?_
                refine rg_g rfl rfl (fun hG => (q_move (x := .d (.v _)) rfl)) ?_
                refine rg_g rfl rfl (fun hG => (q_eql rfl rfl)) ?_
                refine rg_pick rfl rfl rfl rfl rfl rfl ?_
                refine rg_q (q_move (x := .d (.v _)) rfl) ?_
                refine rg_g rfl rfl (fun hG => (q_fieldAddr_ref fld52_0 rfl)) ?_
                refine rg_g rfl rfl (fun hG => (q_load_ref sz3 rfl rfl rfl)) ?_
                refine rg_g rfl rfl (fun hG => (q_fieldAddr_ref fld52_0 rfl)) ?_
                refine rg_g rfl rfl (fun hG => (q_load_ref sz3 rfl rfl rfl)) ?_
                refine rg_g rfl rfl (fun hG => (q_leq rfl rfl)) ?_
                refine rg_pick rfl rfl rfl rfl rfl rfl ?_
                refine rg_q (q_move (x := .d (.v _)) rfl) ?_
                refine rg_g rfl rfl (fun hG => (q_fieldAddr_ref fld52_1 rfl)) ?_
                refine rg_g rfl rfl (fun hG => (q_load_ref sz3 rfl rfl rfl)) ?_
                refine rg_g rfl rfl (fun hG => (q_fieldAddr_ref fld52_1 rfl)) ?_
                refine rg_g rfl rfl (fun hG => (q_load_ref sz3 rfl rfl rfl)) ?_
                refine rg_g rfl rfl (fun hG => (q_leq rfl rfl)) ?_
                refine rg_pick rfl rfl rfl rfl rfl rfl ?_
                refine rg_q (q_move (x := .d (.v _)) rfl) ?_
                refine rg_g rfl rfl (fun hG => (q_fieldAddr_ref fld52_0 rfl)) ?_
                refine rg_g rfl rfl (fun hG => (q_load_ref sz3 rfl rfl rfl)) ?_
                refine rg_g rfl rfl (fun hG => (q_fieldAddr_ref fld52_0 rfl)) ?_
                refine rg_g rfl rfl (fun hG => (q_load_ref sz3 rfl rfl rfl)) ?_
                refine rg_g rfl rfl (fun hG => (q_leq rfl rfl)) ?_
                refine rg_pick rfl rfl rfl rfl rfl rfl ?_
                refine rg_q (q_move (x := .d (.v _)) rfl) ?_
                refine rg_g rfl rfl (fun hG => (q_fieldAddr_ref fld52_1 rfl)) ?_
                refine rg_g rfl rfl (fun hG => (q_load_ref sz3 rfl rfl rfl)) ?_
                refine rg_g rfl rfl (fun hG => (q_fieldAddr_ref fld52_1 rfl)) ?_
                refine rg_g rfl rfl (fun hG => (q_load_ref sz3 rfl rfl rfl)) ?_
                refine rg_g rfl rfl (fun hG => (q_leq rfl rfl)) ?_
                refine rg_pick rfl rfl rfl rfl rfl rfl ?_
                refine rg_q (q_assign (x := .d (.v _)) rfl) ?_
                refine rg_nil ?_
                refine aops_nil ?_
                change Awp _ _ _ _ _
                refine awp_ret ?_
                refine ⟨_, (.cons (.tmp (by exact .d _)) .nil), ?_⟩
                simp [retD, inR]; omega
end Go.Proofs.Ytgdcidbpadhkpaa.Am.M
