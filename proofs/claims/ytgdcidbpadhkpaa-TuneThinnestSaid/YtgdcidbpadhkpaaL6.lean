/- Contracts over the abstract machine: TuneThinnest. Conditions: none. -/
import Derived.Test.YtgdcidbpadhkpaaP6
set_option linter.unusedVariables false
set_option linter.unusedSimpArgs false
namespace Go.Proofs.Ytgdcidbpadhkpaa.Am.M
open Go

theorem choice_no {n : Nat} {x : List Int} (h : (decide (x.length = 0) || decide (n < x.length) || decide (x.getD 0 0 ≠ 0) || decide (x.getD (x.length - 1) 0 ≠ (n : Int) - 1)) = true) : choiceS n x = false := by
  unfold choiceS; rw [h]; rfl
theorem choice_go {n : Nat} {x : List Int} (h : (decide (x.length = 0) || decide (n < x.length) || decide (x.getD 0 0 ≠ 0) || decide (x.getD (x.length - 1) 0 ≠ (n : Int) - 1)) = false) : choiceS n x = ascB x := by
  unfold choiceS; rw [h]; rfl
theorem ascB_drop {x : List Int} {k : Nat} {a b : Int} (ha : x[k]? = some a) (hb : x[k + 1]? = some b) : ascB (x.drop k) = (decide (a < b) && ascB (x.drop (k + 1))) := by
  obtain ⟨h1, rfl⟩ := List.getElem?_eq_some_iff.1 ha
  obtain ⟨h2, rfl⟩ := List.getElem?_eq_some_iff.1 hb
  rw [List.drop_eq_getElem_cons h1, List.drop_eq_getElem_cons h2]; rfl
set_option maxRecDepth 100000 in
theorem Chosen_p (l : List (Int × Int)) (r : List Nat) (hr : ∀ j ∈ r, j < l.length) (hl : r.length ≤ 20) : PC Try.prog 26 [.sl 2 (l.map rowC), .sl 1 ((r.map (fun (n : Nat) => (n : Int))).map iC)] (.sl 2 ((chs l r).map rowC)) := by
  refine pc_of_awp Try.func26 rfl Try.ntmps26 (rs := [.tmp 4]) Try.results26 (by simp) fun w0 => ?_
  refine awp_seq ?_
  refine awp_region 1 mixed (by kernel_rfl) ?_
  first | refine rg_q (q_assign (x := .d (.sl _ _)) rfl) ?_ | refine rg_q (q_assign (x := .rs _) rfl) ?_ | refine rg_q (q_assign (x := .d (.v _)) rfl) ?_
  refine rg_nil ?_
  refine aops_nil ?_
  change Awp _ _ _ _ _
  refine awp_seq ?_
  refine awp_region 1 mixed (by kernel_rfl) ?_
  refine rg_q (q_assign_nil) ?_
  refine rg_nil ?_
  refine aops_nil ?_
  change Awp _ _ _ _ _
  refine Awp.le (le_own (k := 5) (e := 59) (sz := 2) rfl rfl) ?_
  refine awp_seq ?_
  refine awp_seq ?_
  refine awp_region 1 mixed (by kernel_rfl) ?_
  refine rg_q (q_assign (x := .d (.v _)) rfl) ?_
  refine rg_nil ?_
  refine aops_nil ?_
  change Awp _ _ _ _ _
  refine awp_block ?_
  refine awp_loopH [5, 6, 7, 8, 9, 10, 11, 12, 13, 14, 15, 16, 17, 18, 19, 20, 21, 22] [5] (α := Nat) (fun k => [(6, T.i (k : Int)), (5, .rs 5)]) (fun k => [(5, .row 59 2 ((chs l (r.take k)).map rowC))]) (fun k => k ≤ r.length) (fun k => r.length - k) 0 (Nat.zero_le _) ?_ ?_
  · exact le_head (ms := [5]) (by repeat (first | exact Out.refl _ | exact Out.head rfl rfl | (refine Out.put ?_ rfl) | (refine Out.site ?_ rfl) | (refine Out.putn ?_) | (refine Out.headIn ?_ rfl rfl rfl) | (refine Out.called ?_ rfl rfl) | (refine Out.killS ?_ rfl))) ⟨(by first | rfl | (show Site.row 59 2 (List.map rowC (chs l (r.take k)) ++ [rowC a]) = _; rw [List.take_add_one, hj, Option.toList_some]; simp [ha]; done)), (by first | rfl | (show Site.row 59 2 (List.map rowC (chs l (r.take k)) ++ [rowC a]) = _; rw [List.take_add_one, hj, Option.toList_some]; simp [ha]; done)), trivial⟩ ⟨(by first | rfl | (show Site.row 59 2 (List.map rowC (chs l (r.take k)) ++ [rowC a]) = _; rw [List.take_add_one, hj, Option.toList_some]; simp [ha]; done)), trivial⟩ rfl rfl rfl rfl
  ·
    intro k hk
    refine awp_seq ?_
    refine awp_seq ?_
    refine awp_region 4 mixed (by kernel_rfl) ?_
    refine rg_q (q_move (x := .d (.v _)) rfl) ?_
    first | refine rg_q (q_move (x := .d (.sl _ _)) rfl) ?_ | refine rg_q (q_move (x := .rs _) rfl) ?_ | refine rg_q (q_move (x := .d (.v _)) rfl) ?_
    first | refine rg_q (q_len isl25 rfl (by first | exact len_map _ _ | rfl)) ?_ | refine rg_q (q_len_rs isl25 rfl rfl) ?_ | refine rg_q (q_len_nil isl25 rfl) ?_
    refine rg_q (q_lss rfl rfl) ?_
    refine rg_nil ?_
    refine aops_nil ?_
    change Awp _ _ _ _ _
    first | refine awp_len (t := 8) rfl (fun hl8 => ?_) | skip
    (try simp only [List.length_map] at hl8)
    refine awp_cond rfl (fun hc3 => ?_) (fun hc3 => ?_)
    ·
      (try simp only [decide_eq_true_eq, decide_eq_false_iff_not, Bool.and_eq_true, Bool.or_eq_true, Bool.and_eq_false_iff, Bool.or_eq_false_iff, Bool.not_eq_true', Bool.not_eq_false', Bool.not_true, Bool.not_false, bif_and, bif_or, Bool.not_not, ne_eq, Decidable.not_not, not_true_eq_false, not_false_eq_true, Int.not_le, Int.not_lt] at hc3)
      have hlt : k < r.length := by first | omega | (simp only [List.length_map] at hc3; omega)
      obtain ⟨j, hj⟩ : ∃ j, r[k]? = some j := ⟨_, List.getElem?_eq_getElem hlt⟩
      have hjl := hr j (List.mem_of_getElem? hj)
      obtain ⟨a, ha⟩ : ∃ a, l[j]? = some a := ⟨_, List.getElem?_eq_getElem hjl⟩
      have hx : (r.map (fun (n : Nat) => (n : Int)))[k]? = some (j : Int) := by rw [List.getElem?_map, hj]; rfl
      have htl : (chs l (r.take k)).length ≤ 20 := by simp; omega
      refine awp_skip ?_
      change Awp _ _ _ _ _
      refine awp_seq ?_
      refine awp_block ?_
      refine awp_region 9 mixed (by kernel_rfl) ?_
      first | refine rg_q (q_move (x := .d (.sl _ _)) rfl) ?_ | refine rg_q (q_move (x := .rs _) rfl) ?_ | refine rg_q (q_move (x := .d (.v _)) rfl) ?_
      first | refine rg_q (q_move (x := .d (.sl _ _)) rfl) ?_ | refine rg_q (q_move (x := .rs _) rfl) ?_ | refine rg_q (q_move (x := .d (.v _)) rfl) ?_
      first | refine rg_q (q_move (x := .d (.sl _ _)) rfl) ?_ | refine rg_q (q_move (x := .rs _) rfl) ?_ | refine rg_q (q_move (x := .d (.v _)) rfl) ?_
      refine rg_q (q_move (x := .d (.v _)) rfl) ?_
      first | refine rg_q (q_indexAddr sl25 rfl rfl (by (first | omega | (simp only; omega) | (simp only [List.length_map, List.length_set]; omega))) (map_at (by (first | omega | (simp only; omega) | (simp only [List.length_map, List.length_set]; omega))) hx)) ?_ | refine rg_q (q_indexAddr sl25 rfl rfl (by (first | omega | (simp only; omega) | (simp only [List.length_map, List.length_set]; omega))) (map_at (by (first | omega | (simp only; omega) | (simp only [List.length_map, List.length_set]; omega))) ha)) ?_ | refine rg_q (q_indexAddr_rs sl25 rfl rfl rfl (by (first | omega | (simp only; omega) | (simp only [List.length_map, List.length_set]; omega))) (by (first | omega | (simp only; omega) | (simp only [List.length_map, List.length_set]; omega)))) ?_
      first | refine rg_q (q_load sz3 rfl rfl) ?_ | refine rg_q (q_load_ref sz3 rfl rfl rfl) ?_ | refine rg_q (q_load_tb (x := .d _) sz3 rfl rfl rfl) ?_ | refine rg_q (q_load_tb (x := .rs _) sz3 rfl rfl rfl) ?_
      first | refine rg_q (q_indexAddr sl22 rfl rfl (by (first | omega | (simp only; omega) | (simp only [List.length_map, List.length_set]; omega))) (map_at (by (first | omega | (simp only; omega) | (simp only [List.length_map, List.length_set]; omega))) hx)) ?_ | refine rg_q (q_indexAddr sl22 rfl rfl (by (first | omega | (simp only; omega) | (simp only [List.length_map, List.length_set]; omega))) (map_at (by (first | omega | (simp only; omega) | (simp only [List.length_map, List.length_set]; omega))) ha)) ?_ | refine rg_q (q_indexAddr_rs sl22 rfl rfl rfl (by (first | omega | (simp only; omega) | (simp only [List.length_map, List.length_set]; omega))) (by (first | omega | (simp only; omega) | (simp only [List.length_map, List.length_set]; omega)))) ?_
      first | refine rg_q (q_loadA (ds := [_, _]) sz59 rfl rfl rfl) ?_ | refine rg_q (q_load_refA (ds := [_, _]) sz59 rfl rfl rfl rfl) ?_
      refine rg_q (q_buildSlice sl22 zr59 rfl rfl (by decide) (.cons rfl (by first | exact .inl rfl | exact .inr ⟨_, rfl⟩) .nil) ⟨rfl, rfl, trivial⟩ rfl (by decide) rfl) ?_
      refine rg_nil ?_
      first | refine aops_append sl22 zr59 by59 rfl (by decide) rfl rfl rfl rfl (by simp only [List.length_map, List.length_cons, List.length_nil]; simp only [List.length_map] at htl; omega) (by simp only [List.length_map, List.length_cons, List.length_nil]; simp only [List.length_map] at htl; omega) rfl rfl ?_ | refine aops_appendR sl22 zr59 by59 rfl (by decide) rfl rfl rfl rfl rfl (by simp only [List.length_map, List.length_cons, List.length_nil]; simp only [List.length_map] at htl; omega) (by simp only [List.length_map, List.length_cons, List.length_nil]; simp only [List.length_map] at htl; omega) rfl rfl ?_
      first | refine aops_q rfl (q_assign (x := .d (.sl _ _)) rfl) ?_ | refine aops_q rfl (q_assign (x := .rs _) rfl) ?_ | refine aops_q rfl (q_assign (x := .d (.v _)) rfl) ?_
      refine aops_nil ?_
      change Awp _ _ _ _ _
      refine awp_region 3 mixed (by kernel_rfl) ?_
      refine rg_q (q_move (x := .d (.v _)) rfl) ?_
      refine rg_q (q_add rfl rfl (In64.mk (by (first | omega | (simp only; omega) | (simp only [List.length_map, List.length_set]; omega))) (by (first | omega | (simp only; omega) | (simp only [List.length_map, List.length_set]; omega))))) ?_
      refine rg_q (q_assign (x := .d (.v _)) rfl) ?_
      refine rg_nil ?_
      refine aops_nil ?_
      refine ⟨k + 1, by omega, by omega, ?_⟩
      exact le_head (ms := [5]) (by repeat (first | exact Out.refl _ | exact Out.head rfl rfl | (refine Out.put ?_ rfl) | (refine Out.site ?_ rfl) | (refine Out.putn ?_) | (refine Out.headIn ?_ rfl rfl rfl) | (refine Out.called ?_ rfl rfl) | (refine Out.killS ?_ rfl))) ⟨(by first | rfl | (show Site.row 59 2 (List.map rowC (chs l (r.take k)) ++ [rowC a]) = _; rw [List.take_add_one, hj, Option.toList_some]; simp [ha]; done)), (by first | rfl | (show Site.row 59 2 (List.map rowC (chs l (r.take k)) ++ [rowC a]) = _; rw [List.take_add_one, hj, Option.toList_some]; simp [ha]; done)), trivial⟩ ⟨(by first | rfl | (show Site.row 59 2 (List.map rowC (chs l (r.take k)) ++ [rowC a]) = _; rw [List.take_add_one, hj, Option.toList_some]; simp [ha]; done)), trivial⟩ rfl rfl rfl rfl
    ·
      (try simp only [decide_eq_true_eq, decide_eq_false_iff_not, Bool.and_eq_true, Bool.or_eq_true, Bool.and_eq_false_iff, Bool.or_eq_false_iff, Bool.not_eq_true', Bool.not_eq_false', Bool.not_true, Bool.not_false, bif_and, bif_or, Bool.not_not, ne_eq, Decidable.not_not, not_true_eq_false, not_false_eq_true, Int.not_le, Int.not_lt] at hc3)
      have hkr : r.length ≤ k := by first | omega | (simp only [List.length_map] at hc3; omega)
      refine awp_exit ?_
      change Awp _ _ _ _ _
      refine awp_seq ?_
      refine awp_region 2 mixed (by kernel_rfl) ?_
      first | refine rg_q (q_move (x := .d (.sl _ _)) rfl) ?_ | refine rg_q (q_move (x := .rs _) rfl) ?_ | refine rg_q (q_move (x := .d (.v _)) rfl) ?_
      first | refine rg_q (q_assign (x := .d (.sl _ _)) rfl) ?_ | refine rg_q (q_assign (x := .rs _) rfl) ?_ | refine rg_q (q_assign (x := .d (.v _)) rfl) ?_
      refine rg_nil ?_
      refine aops_nil ?_
      change Awp _ _ _ _ _
      refine awp_ret ?_
      refine ⟨_, (.cons (.tmp (by first | exact .d _ | exact .rs rfl | exact .ref rfl | exact .tref rfl (.cons (.d _ rfl) (.cons (.rs rfl) .nil)))) .nil), ?_⟩
      rw [List.take_of_length_le hkr]; rfl
set_option maxRecDepth 100000 in
theorem choice_p (l : List (Int × Int)) (x : List Int) (h9 : l.length ≤ 1000) : PC Try.prog 24 [.sl 2 (l.map rowC), .sl 1 (x.map iC)] (.v (.bool (choiceS l.length x))) := by
  obtain ⟨a, ha⟩ : ∃ a, x.getD 0 0 = a := ⟨_, rfl⟩
  obtain ⟨b, hb⟩ : ∃ b, x.getD (x.length - 1) 0 = b := ⟨_, rfl⟩
  have hxa : 0 < x.length → x[0]? = some a := fun h => by rw [← ha, List.getD_eq_getElem?_getD, List.getElem?_eq_getElem h]; rfl
  have hxb : 0 < x.length → x[x.length - 1]? = some b := fun h => by rw [← hb, List.getD_eq_getElem?_getD, List.getElem?_eq_getElem (by omega)]; rfl
  have hno := choice_no (n := l.length) (x := x)
  have hgo := choice_go (n := l.length) (x := x)
  rw [ha, hb] at hno hgo
  refine pc_of_awp Try.func24 rfl Try.ntmps24 (rs := [.tmp 4]) Try.results24 (by simp) fun w0 => ?_
  refine awp_seq ?_
  refine awp_region 1 mixed (by kernel_rfl) ?_
  refine rg_q (q_assign (x := .d (.v _)) rfl) ?_
  refine rg_nil ?_
  refine aops_nil ?_
  change Awp _ _ _ _ _
  refine awp_seq ?_
  refine awp_seq ?_
  refine awp_region 28 mixed (by kernel_rfl) ?_
  first | refine rg_q (q_move (x := .d (.sl _ _)) rfl) ?_ | refine rg_q (q_move (x := .rs _) rfl) ?_ | refine rg_q (q_move (x := .d (.v _)) rfl) ?_
  first | refine rg_q (q_len isl25 rfl (by first | exact len_map _ _ | rfl)) ?_ | refine rg_q (q_len_rs isl25 rfl rfl) ?_ | refine rg_q (q_len_nil isl25 rfl) ?_
  refine rg_q (q_eql rfl rfl) ?_
  refine rg_q (q_move (x := .d (.v _)) rfl) ?_
  first | refine rg_g rfl rfl (fun hG => (q_move (x := .d (.sl _ _)) rfl)) ?_ | refine rg_g rfl rfl (fun hG => (q_move (x := .rs _) rfl)) ?_ | refine rg_g rfl rfl (fun hG => (q_move (x := .d (.v _)) rfl)) ?_
  first | refine rg_g rfl rfl (fun hG => (q_len isl25 rfl (by first | exact len_map _ _ | rfl))) ?_ | refine rg_g rfl rfl (fun hG => (q_len_rs isl25 rfl rfl)) ?_ | refine rg_g rfl rfl (fun hG => (q_len_nil isl25 rfl)) ?_
  first | refine rg_g rfl rfl (fun hG => (q_move (x := .d (.sl _ _)) rfl)) ?_ | refine rg_g rfl rfl (fun hG => (q_move (x := .rs _) rfl)) ?_ | refine rg_g rfl rfl (fun hG => (q_move (x := .d (.v _)) rfl)) ?_
  first | refine rg_g rfl rfl (fun hG => (q_len isl22 rfl (by first | exact len_map _ _ | rfl))) ?_ | refine rg_g rfl rfl (fun hG => (q_len_rs isl22 rfl rfl)) ?_ | refine rg_g rfl rfl (fun hG => (q_len_nil isl22 rfl)) ?_
  refine rg_g rfl rfl (fun hG => (q_gtr rfl rfl)) ?_
  first | refine rg_pick rfl rfl rfl rfl rfl rfl ?_ | refine rg_q (q_pick rfl rfl rfl) ?_
  refine rg_q (q_move (x := .d (.v _)) rfl) ?_
  first | refine rg_g rfl rfl (fun hG => (q_move (x := .d (.sl _ _)) rfl)) ?_ | refine rg_g rfl rfl (fun hG => (q_move (x := .rs _) rfl)) ?_ | refine rg_g rfl rfl (fun hG => (q_move (x := .d (.v _)) rfl)) ?_
  first | refine rg_g rfl rfl (fun hG => (q_indexAddr sl25 rfl rfl (by (have hg0 := T.bool_inj (a := _) hG.1; (try simp only [decide_eq_true_eq, decide_eq_false_iff_not, Bool.and_eq_true, Bool.or_eq_true, Bool.and_eq_false_iff, Bool.or_eq_false_iff, Bool.not_eq_true', Bool.not_eq_false', Bool.not_true, Bool.not_false, bif_and, bif_or, Bool.not_not, ne_eq, Decidable.not_not, not_true_eq_false, not_false_eq_true, Int.not_le, Int.not_lt] at hg0); (first | omega | (simp only; omega) | (simp only [List.length_map, List.length_set]; omega)))) (map_at (k := 0) (by rfl) (hxa (by (have hg0 := T.bool_inj (a := _) hG.1; (try simp only [decide_eq_true_eq, decide_eq_false_iff_not, Bool.and_eq_true, Bool.or_eq_true, Bool.and_eq_false_iff, Bool.or_eq_false_iff, Bool.not_eq_true', Bool.not_eq_false', Bool.not_true, Bool.not_false, bif_and, bif_or, Bool.not_not, ne_eq, Decidable.not_not, not_true_eq_false, not_false_eq_true, Int.not_le, Int.not_lt] at hg0); (first | omega | (simp only; omega) | (simp only [List.length_map, List.length_set]; omega)))))))) ?_ | refine rg_g rfl rfl (fun hG => (q_indexAddr_rs sl25 rfl rfl rfl (by (have hg0 := T.bool_inj (a := _) hG.1; (try simp only [decide_eq_true_eq, decide_eq_false_iff_not, Bool.and_eq_true, Bool.or_eq_true, Bool.and_eq_false_iff, Bool.or_eq_false_iff, Bool.not_eq_true', Bool.not_eq_false', Bool.not_true, Bool.not_false, bif_and, bif_or, Bool.not_not, ne_eq, Decidable.not_not, not_true_eq_false, not_false_eq_true, Int.not_le, Int.not_lt] at hg0); (first | omega | (simp only; omega) | (simp only [List.length_map, List.length_set]; omega)))) (by (have hg0 := T.bool_inj (a := _) hG.1; (try simp only [decide_eq_true_eq, decide_eq_false_iff_not, Bool.and_eq_true, Bool.or_eq_true, Bool.and_eq_false_iff, Bool.or_eq_false_iff, Bool.not_eq_true', Bool.not_eq_false', Bool.not_true, Bool.not_false, bif_and, bif_or, Bool.not_not, ne_eq, Decidable.not_not, not_true_eq_false, not_false_eq_true, Int.not_le, Int.not_lt] at hg0); (first | omega | (simp only; omega) | (simp only [List.length_map, List.length_set]; omega)))))) ?_
  first | refine rg_g rfl rfl (fun hG => (q_load sz3 rfl rfl)) ?_ | refine rg_g rfl rfl (fun hG => (q_load_ref sz3 rfl rfl rfl)) ?_ | refine rg_g rfl rfl (fun hG => (q_load_tb (x := .d _) sz3 rfl rfl rfl)) ?_ | refine rg_g rfl rfl (fun hG => (q_load_tb (x := .rs _) sz3 rfl rfl rfl)) ?_
  refine rg_g rfl rfl (fun hG => (q_neq rfl rfl)) ?_
  first | refine rg_pick rfl rfl rfl rfl rfl rfl ?_ | refine rg_q (q_pick rfl rfl rfl) ?_
  refine rg_q (q_move (x := .d (.v _)) rfl) ?_
  first | refine rg_g rfl rfl (fun hG => (q_move (x := .d (.sl _ _)) rfl)) ?_ | refine rg_g rfl rfl (fun hG => (q_move (x := .rs _) rfl)) ?_ | refine rg_g rfl rfl (fun hG => (q_move (x := .d (.v _)) rfl)) ?_
  first | refine rg_g rfl rfl (fun hG => (q_move (x := .d (.sl _ _)) rfl)) ?_ | refine rg_g rfl rfl (fun hG => (q_move (x := .rs _) rfl)) ?_ | refine rg_g rfl rfl (fun hG => (q_move (x := .d (.v _)) rfl)) ?_
  first | refine rg_g rfl rfl (fun hG => (q_len isl25 rfl (by first | exact len_map _ _ | rfl))) ?_ | refine rg_g rfl rfl (fun hG => (q_len_rs isl25 rfl rfl)) ?_ | refine rg_g rfl rfl (fun hG => (q_len_nil isl25 rfl)) ?_
  refine rg_g rfl rfl (fun hG => (q_sub rfl rfl (In64.mk (by (have hg0 := T.bool_inj (a := _) hG.1; (try simp only [decide_eq_true_eq, decide_eq_false_iff_not, Bool.and_eq_true, Bool.or_eq_true, Bool.and_eq_false_iff, Bool.or_eq_false_iff, Bool.not_eq_true', Bool.not_eq_false', Bool.not_true, Bool.not_false, bif_and, bif_or, Bool.not_not, ne_eq, Decidable.not_not, not_true_eq_false, not_false_eq_true, Int.not_le, Int.not_lt] at hg0); (first | omega | (simp only; omega) | (simp only [List.length_map, List.length_set]; omega)))) (by (have hg0 := T.bool_inj (a := _) hG.1; (try simp only [decide_eq_true_eq, decide_eq_false_iff_not, Bool.and_eq_true, Bool.or_eq_true, Bool.and_eq_false_iff, Bool.or_eq_false_iff, Bool.not_eq_true', Bool.not_eq_false', Bool.not_true, Bool.not_false, bif_and, bif_or, Bool.not_not, ne_eq, Decidable.not_not, not_true_eq_false, not_false_eq_true, Int.not_le, Int.not_lt] at hg0); (first | omega | (simp only; omega) | (simp only [List.length_map, List.length_set]; omega))))))) ?_
  first | refine rg_g rfl rfl (fun hG => (q_indexAddr sl25 rfl rfl (by (have hg0 := T.bool_inj (a := _) hG.1; (try simp only [decide_eq_true_eq, decide_eq_false_iff_not, Bool.and_eq_true, Bool.or_eq_true, Bool.and_eq_false_iff, Bool.or_eq_false_iff, Bool.not_eq_true', Bool.not_eq_false', Bool.not_true, Bool.not_false, bif_and, bif_or, Bool.not_not, ne_eq, Decidable.not_not, not_true_eq_false, not_false_eq_true, Int.not_le, Int.not_lt] at hg0); (first | omega | (simp only; omega) | (simp only [List.length_map, List.length_set]; omega)))) (map_at (k := x.length - 1) (by (have hg0 := T.bool_inj (a := _) hG.1; (try simp only [decide_eq_true_eq, decide_eq_false_iff_not, Bool.and_eq_true, Bool.or_eq_true, Bool.and_eq_false_iff, Bool.or_eq_false_iff, Bool.not_eq_true', Bool.not_eq_false', Bool.not_true, Bool.not_false, bif_and, bif_or, Bool.not_not, ne_eq, Decidable.not_not, not_true_eq_false, not_false_eq_true, Int.not_le, Int.not_lt] at hg0); (first | omega | (simp only; omega) | (simp only [List.length_map, List.length_set]; omega)))) (hxb (by (have hg0 := T.bool_inj (a := _) hG.1; (try simp only [decide_eq_true_eq, decide_eq_false_iff_not, Bool.and_eq_true, Bool.or_eq_true, Bool.and_eq_false_iff, Bool.or_eq_false_iff, Bool.not_eq_true', Bool.not_eq_false', Bool.not_true, Bool.not_false, bif_and, bif_or, Bool.not_not, ne_eq, Decidable.not_not, not_true_eq_false, not_false_eq_true, Int.not_le, Int.not_lt] at hg0); (first | omega | (simp only; omega) | (simp only [List.length_map, List.length_set]; omega)))))))) ?_ | refine rg_g rfl rfl (fun hG => (q_indexAddr_rs sl25 rfl rfl rfl (by (have hg0 := T.bool_inj (a := _) hG.1; (try simp only [decide_eq_true_eq, decide_eq_false_iff_not, Bool.and_eq_true, Bool.or_eq_true, Bool.and_eq_false_iff, Bool.or_eq_false_iff, Bool.not_eq_true', Bool.not_eq_false', Bool.not_true, Bool.not_false, bif_and, bif_or, Bool.not_not, ne_eq, Decidable.not_not, not_true_eq_false, not_false_eq_true, Int.not_le, Int.not_lt] at hg0); (first | omega | (simp only; omega) | (simp only [List.length_map, List.length_set]; omega)))) (by (have hg0 := T.bool_inj (a := _) hG.1; (try simp only [decide_eq_true_eq, decide_eq_false_iff_not, Bool.and_eq_true, Bool.or_eq_true, Bool.and_eq_false_iff, Bool.or_eq_false_iff, Bool.not_eq_true', Bool.not_eq_false', Bool.not_true, Bool.not_false, bif_and, bif_or, Bool.not_not, ne_eq, Decidable.not_not, not_true_eq_false, not_false_eq_true, Int.not_le, Int.not_lt] at hg0); (first | omega | (simp only; omega) | (simp only [List.length_map, List.length_set]; omega)))))) ?_
  first | refine rg_g rfl rfl (fun hG => (q_load sz3 rfl rfl)) ?_ | refine rg_g rfl rfl (fun hG => (q_load_ref sz3 rfl rfl rfl)) ?_ | refine rg_g rfl rfl (fun hG => (q_load_tb (x := .d _) sz3 rfl rfl rfl)) ?_ | refine rg_g rfl rfl (fun hG => (q_load_tb (x := .rs _) sz3 rfl rfl rfl)) ?_
  first | refine rg_g rfl rfl (fun hG => (q_move (x := .d (.sl _ _)) rfl)) ?_ | refine rg_g rfl rfl (fun hG => (q_move (x := .rs _) rfl)) ?_ | refine rg_g rfl rfl (fun hG => (q_move (x := .d (.v _)) rfl)) ?_
  first | refine rg_g rfl rfl (fun hG => (q_len isl22 rfl (by first | exact len_map _ _ | rfl))) ?_ | refine rg_g rfl rfl (fun hG => (q_len_rs isl22 rfl rfl)) ?_ | refine rg_g rfl rfl (fun hG => (q_len_nil isl22 rfl)) ?_
  refine rg_g rfl rfl (fun hG => (q_sub rfl rfl (In64.mk (by (have hg0 := T.bool_inj (a := _) hG.1; (try simp only [decide_eq_true_eq, decide_eq_false_iff_not, Bool.and_eq_true, Bool.or_eq_true, Bool.and_eq_false_iff, Bool.or_eq_false_iff, Bool.not_eq_true', Bool.not_eq_false', Bool.not_true, Bool.not_false, bif_and, bif_or, Bool.not_not, ne_eq, Decidable.not_not, not_true_eq_false, not_false_eq_true, Int.not_le, Int.not_lt] at hg0); (first | omega | (simp only; omega) | (simp only [List.length_map, List.length_set]; omega)))) (by (have hg0 := T.bool_inj (a := _) hG.1; (try simp only [decide_eq_true_eq, decide_eq_false_iff_not, Bool.and_eq_true, Bool.or_eq_true, Bool.and_eq_false_iff, Bool.or_eq_false_iff, Bool.not_eq_true', Bool.not_eq_false', Bool.not_true, Bool.not_false, bif_and, bif_or, Bool.not_not, ne_eq, Decidable.not_not, not_true_eq_false, not_false_eq_true, Int.not_le, Int.not_lt] at hg0); (first | omega | (simp only; omega) | (simp only [List.length_map, List.length_set]; omega))))))) ?_
  refine rg_g rfl rfl (fun hG => (q_neq rfl rfl)) ?_
  first | refine rg_pick rfl rfl rfl rfl rfl rfl ?_ | refine rg_q (q_pick rfl rfl rfl) ?_
  refine rg_nil ?_
  refine aops_nil ?_
  change Awp _ _ _ _ _
  first | refine awp_len (t := 6) rfl (fun hl6 => ?_) | skip
  (try simp only [List.length_map] at hl6)
  refine awp_cond rfl (fun hc1 => ?_) (fun hc1 => ?_)
  ·
    (try simp only [decide_eq_true_eq, decide_eq_false_iff_not, Bool.and_eq_true, Bool.or_eq_true, Bool.and_eq_false_iff, Bool.or_eq_false_iff, Bool.not_eq_true', Bool.not_eq_false', Bool.not_true, Bool.not_false, bif_and, bif_or, Bool.not_not, ne_eq, Decidable.not_not, not_true_eq_false, not_false_eq_true, Int.not_le, Int.not_lt] at hc1)
    have hz := hno (by simp only [Bool.or_eq_true, decide_eq_true_eq]; omega)
    refine awp_seq ?_
    refine awp_region 1 mixed (by kernel_rfl) ?_
    refine rg_q (q_assign (x := .d (.v _)) rfl) ?_
    refine rg_nil ?_
    refine aops_nil ?_
    change Awp _ _ _ _ _
    refine awp_ret ?_
    refine ⟨_, (.cons (.tmp (by first | exact .d _ | exact .rs rfl | exact .ref rfl | exact .tref rfl (.cons (.d _ rfl) (.cons (.rs rfl) .nil)))) .nil), ?_⟩
    rw [hz]; rfl
  ·
    (try simp only [decide_eq_true_eq, decide_eq_false_iff_not, Bool.and_eq_true, Bool.or_eq_true, Bool.and_eq_false_iff, Bool.or_eq_false_iff, Bool.not_eq_true', Bool.not_eq_false', Bool.not_true, Bool.not_false, bif_and, bif_or, Bool.not_not, ne_eq, Decidable.not_not, not_true_eq_false, not_false_eq_true, Int.not_le, Int.not_lt] at hc1)
    have hz := hgo (by simp only [Bool.or_eq_false_iff, decide_eq_false_iff_not]; omega)
    refine awp_skip ?_
    change Awp _ _ _ _ _
    refine awp_seq ?_
    refine awp_seq ?_
    refine awp_region 1 mixed (by kernel_rfl) ?_
    refine rg_q (q_assign (x := .d (.v _)) rfl) ?_
    refine rg_nil ?_
    refine aops_nil ?_
    change Awp _ _ _ _ _
    refine awp_block ?_
    refine awp_loopH [4, 5, 34, 35, 36, 37, 38, 39, 40, 41, 42, 43, 44, 45, 46, 47, 48, 49] [] (α := Nat) (fun k => [(5, T.i (k : Int))]) (fun k => []) (fun k => 1 ≤ k ∧ k ≤ x.length ∧ ascB x = ascB (x.drop (k - 1))) (fun k => x.length - k) 1 ⟨Nat.le_refl _, by omega, rfl⟩ ?_ ?_
    · exact le_head (ms := []) (by repeat (first | exact Out.refl _ | exact Out.head rfl rfl | (refine Out.put ?_ rfl) | (refine Out.site ?_ rfl) | (refine Out.putn ?_) | (refine Out.headIn ?_ rfl rfl rfl) | (refine Out.called ?_ rfl rfl))) ⟨(by first | rfl | (simp; done)), trivial⟩ trivial rfl rfl rfl rfl
    ·
      intro k ⟨hk1, hk, hh⟩
      refine awp_seq ?_
      refine awp_seq ?_
      refine awp_region 4 mixed (by kernel_rfl) ?_
      refine rg_q (q_move (x := .d (.v _)) rfl) ?_
      first | refine rg_q (q_move (x := .d (.sl _ _)) rfl) ?_ | refine rg_q (q_move (x := .rs _) rfl) ?_ | refine rg_q (q_move (x := .d (.v _)) rfl) ?_
      first | refine rg_q (q_len isl25 rfl (by first | exact len_map _ _ | rfl)) ?_ | refine rg_q (q_len_rs isl25 rfl rfl) ?_ | refine rg_q (q_len_nil isl25 rfl) ?_
      refine rg_q (q_lss rfl rfl) ?_
      refine rg_nil ?_
      refine aops_nil ?_
      change Awp _ _ _ _ _
      first | refine awp_len (t := 35) rfl (fun hl35 => ?_) | skip
      (try simp only [List.length_map] at hl35)
      refine awp_cond rfl (fun hc4 => ?_) (fun hc4 => ?_)
      ·
        (try simp only [decide_eq_true_eq, decide_eq_false_iff_not, Bool.and_eq_true, Bool.or_eq_true, Bool.and_eq_false_iff, Bool.or_eq_false_iff, Bool.not_eq_true', Bool.not_eq_false', Bool.not_true, Bool.not_false, bif_and, bif_or, Bool.not_not, ne_eq, Decidable.not_not, not_true_eq_false, not_false_eq_true, Int.not_le, Int.not_lt] at hc4)
        obtain ⟨m, rfl⟩ : ∃ m, k = m + 1 := ⟨k - 1, by omega⟩
        obtain ⟨p, hp⟩ : ∃ p, x[m]? = some p := ⟨_, List.getElem?_eq_getElem (by omega)⟩
        obtain ⟨q, hq⟩ : ∃ q, x[m + 1]? = some q := ⟨_, List.getElem?_eq_getElem (by omega)⟩
        have hst := ascB_drop hp hq
        rw [Nat.add_sub_cancel] at hh
        refine awp_skip ?_
        change Awp _ _ _ _ _
        refine awp_seq ?_
        refine awp_block ?_
        refine awp_seq ?_
        refine awp_region 10 mixed (by kernel_rfl) ?_
        first | refine rg_q (q_move (x := .d (.sl _ _)) rfl) ?_ | refine rg_q (q_move (x := .rs _) rfl) ?_ | refine rg_q (q_move (x := .d (.v _)) rfl) ?_
        refine rg_q (q_move (x := .d (.v _)) rfl) ?_
        first | refine rg_q (q_indexAddr sl25 rfl rfl (by (first | omega | (simp only; omega) | (simp only [List.length_map, List.length_set]; omega))) (map_at (k := m + 1) (by (first | omega | (simp only; omega) | (simp only [List.length_map, List.length_set]; omega))) hq)) ?_ | refine rg_q (q_indexAddr_rs sl25 rfl rfl rfl (by (first | omega | (simp only; omega) | (simp only [List.length_map, List.length_set]; omega))) (by (first | omega | (simp only; omega) | (simp only [List.length_map, List.length_set]; omega)))) ?_
        first | refine rg_q (q_load sz3 rfl rfl) ?_ | refine rg_q (q_load_ref sz3 rfl rfl rfl) ?_ | refine rg_q (q_load_tb (x := .d _) sz3 rfl rfl rfl) ?_ | refine rg_q (q_load_tb (x := .rs _) sz3 rfl rfl rfl) ?_
        first | refine rg_q (q_move (x := .d (.sl _ _)) rfl) ?_ | refine rg_q (q_move (x := .rs _) rfl) ?_ | refine rg_q (q_move (x := .d (.v _)) rfl) ?_
        refine rg_q (q_move (x := .d (.v _)) rfl) ?_
        refine rg_q (q_sub rfl rfl (In64.mk (by (first | omega | (simp only; omega) | (simp only [List.length_map, List.length_set]; omega))) (by (first | omega | (simp only; omega) | (simp only [List.length_map, List.length_set]; omega))))) ?_
        first | refine rg_q (q_indexAddr sl25 rfl rfl (by (first | omega | (simp only; omega) | (simp only [List.length_map, List.length_set]; omega))) (map_at (k := m) (by (first | omega | (simp only; omega) | (simp only [List.length_map, List.length_set]; omega))) hp)) ?_ | refine rg_q (q_indexAddr_rs sl25 rfl rfl rfl (by (first | omega | (simp only; omega) | (simp only [List.length_map, List.length_set]; omega))) (by (first | omega | (simp only; omega) | (simp only [List.length_map, List.length_set]; omega)))) ?_
        first | refine rg_q (q_load sz3 rfl rfl) ?_ | refine rg_q (q_load_ref sz3 rfl rfl rfl) ?_ | refine rg_q (q_load_tb (x := .d _) sz3 rfl rfl rfl) ?_ | refine rg_q (q_load_tb (x := .rs _) sz3 rfl rfl rfl) ?_
        refine rg_q (q_leq rfl rfl) ?_
        refine rg_nil ?_
        refine aops_nil ?_
        change Awp _ _ _ _ _
        refine awp_cond rfl (fun hc6 => ?_) (fun hc6 => ?_)
        ·
          (try simp only [decide_eq_true_eq, decide_eq_false_iff_not, Bool.and_eq_true, Bool.or_eq_true, Bool.and_eq_false_iff, Bool.or_eq_false_iff, Bool.not_eq_true', Bool.not_eq_false', Bool.not_true, Bool.not_false, bif_and, bif_or, Bool.not_not, ne_eq, Decidable.not_not, not_true_eq_false, not_false_eq_true, Int.not_le, Int.not_lt] at hc6)
          have hv : decide (p < q) = false := decide_eq_false (by omega)
          refine awp_seq ?_
          refine awp_region 1 mixed (by kernel_rfl) ?_
          refine rg_q (q_assign (x := .d (.v _)) rfl) ?_
          refine rg_nil ?_
          refine aops_nil ?_
          change Awp _ _ _ _ _
          refine awp_ret ?_
          refine ⟨_, (.cons (.tmp (by first | exact .d _ | exact .rs rfl | exact .ref rfl | exact .tref rfl (.cons (.d _ rfl) (.cons (.rs rfl) .nil)))) .nil), ?_⟩
          rw [hz, hh, hst, hv]; rfl
        ·
          (try simp only [decide_eq_true_eq, decide_eq_false_iff_not, Bool.and_eq_true, Bool.or_eq_true, Bool.and_eq_false_iff, Bool.or_eq_false_iff, Bool.not_eq_true', Bool.not_eq_false', Bool.not_true, Bool.not_false, bif_and, bif_or, Bool.not_not, ne_eq, Decidable.not_not, not_true_eq_false, not_false_eq_true, Int.not_le, Int.not_lt] at hc6)
          have hv : decide (p < q) = true := decide_eq_true (by omega)
          refine awp_skip ?_
          change Awp _ _ _ _ _
          refine awp_region 3 mixed (by kernel_rfl) ?_
          refine rg_q (q_move (x := .d (.v _)) rfl) ?_
          refine rg_q (q_add rfl rfl (In64.mk (by (first | omega | (simp only; omega) | (simp only [List.length_map, List.length_set]; omega))) (by (first | omega | (simp only; omega) | (simp only [List.length_map, List.length_set]; omega))))) ?_
          refine rg_q (q_assign (x := .d (.v _)) rfl) ?_
          refine rg_nil ?_
          refine aops_nil ?_
          refine ⟨m + 2, ⟨by omega, by omega, by rw [hh, hst, hv, Bool.true_and]; rfl⟩, by omega, ?_⟩
          exact le_head (ms := []) (by repeat (first | exact Out.refl _ | exact Out.head rfl rfl | (refine Out.put ?_ rfl) | (refine Out.site ?_ rfl) | (refine Out.putn ?_) | (refine Out.headIn ?_ rfl rfl rfl) | (refine Out.called ?_ rfl rfl))) ⟨(by first | rfl | (simp; done)), trivial⟩ trivial rfl rfl rfl rfl
      ·
        (try simp only [decide_eq_true_eq, decide_eq_false_iff_not, Bool.and_eq_true, Bool.or_eq_true, Bool.and_eq_false_iff, Bool.or_eq_false_iff, Bool.not_eq_true', Bool.not_eq_false', Bool.not_true, Bool.not_false, bif_and, bif_or, Bool.not_not, ne_eq, Decidable.not_not, not_true_eq_false, not_false_eq_true, Int.not_le, Int.not_lt] at hc4)
        refine awp_exit ?_
        change Awp _ _ _ _ _
        refine awp_seq ?_
        refine awp_region 1 mixed (by kernel_rfl) ?_
        refine rg_q (q_assign (x := .d (.v _)) rfl) ?_
        refine rg_nil ?_
        refine aops_nil ?_
        change Awp _ _ _ _ _
        refine awp_ret ?_
        refine ⟨_, (.cons (.tmp (by first | exact .d _ | exact .rs rfl | exact .ref rfl | exact .tref rfl (.cons (.d _ rfl) (.cons (.rs rfl) .nil)))) .nil), ?_⟩
        rw [hz, hh]
        have hkx : x.length - 1 = k - 1 := by omega
        rw [List.drop_eq_getElem_cons (by omega), List.drop_of_length_le (by omega)]; rfl

theorem thinR_ok {l : List (Int × Int)} {s : Int} (hck : (ckT l).2 = 0) (hs : 0 ≤ s ∧ s ≤ 1000000) : thinR l s = ((thinL l s).map fun (n : Nat) => (n : Int), 0) := by
  unfold thinR; rw [if_neg (by simpa using hck), if_neg (by simpa using hs)]
set_option maxRecDepth 100000 in
theorem tuneThinnest_p (l : List (Int × Int)) (s : Int) (y : List Int) : PC Try.prog 4 [.sl 2 (l.map rowC), .v (.int .i64 (s)), .sl 1 (y.map iC)] (.v (.bool true)) := by
  refine pc_of_awp Try.func4 rfl Try.ntmps4 (rs := [.tmp 6]) Try.results4 (by simp) fun w0 => ?_
  refine awp_seq ?_
  refine awp_region 1 mixed (by kernel_rfl) ?_
  refine rg_q (q_assign (x := .d (.v _)) rfl) ?_
  refine rg_nil ?_
  refine aops_nil ?_
  change Awp _ _ _ _ _
  refine awp_seq ?_
  refine awp_seq ?_
  refine awp_region 2 mixed (by kernel_rfl) ?_
  first | refine rg_q (q_call en16 .nil rfl (awake_p)) ?_ | refine rg_q (q_callF en16 .nil rfl (awake_p) (by first | exact .v _ | exact D.Flat.tupF (by repeat first | exact trivial | refine ⟨.v _, ?_⟩) | exact D.Flat.aggF (by repeat first | exact trivial | refine ⟨.v _, ?_⟩))) ?_
  refine rg_q (q_not rfl) ?_
  refine rg_nil ?_
  refine aops_nil ?_
  change Awp _ _ _ _ _
  refine awp_cond rfl (fun hc1 => ?_) (fun hc1 => ?_)
  ·
    exfalso; (try simp only [decide_eq_true_eq, decide_eq_false_iff_not, Bool.and_eq_true, Bool.or_eq_true, Bool.and_eq_false_iff, Bool.or_eq_false_iff, Bool.not_eq_true', Bool.not_eq_false', Bool.not_true, Bool.not_false, bif_and, bif_or, Bool.not_not, ne_eq, Decidable.not_not, not_true_eq_false, not_false_eq_true, Int.not_le, Int.not_lt] at hc1); first | omega | simp_all
  ·
    (try simp only [decide_eq_true_eq, decide_eq_false_iff_not, Bool.and_eq_true, Bool.or_eq_true, Bool.and_eq_false_iff, Bool.or_eq_false_iff, Bool.not_eq_true', Bool.not_eq_false', Bool.not_true, Bool.not_false, bif_and, bif_or, Bool.not_not, ne_eq, Decidable.not_not, not_true_eq_false, not_false_eq_true, Int.not_le, Int.not_lt] at hc1)
    refine awp_skip ?_
    change Awp _ _ _ _ _
    refine awp_seq ?_
    refine awp_seq ?_
    refine awp_region 8 mixed (by kernel_rfl) ?_
    first | refine rg_q (q_move (x := .d (.sl _ _)) rfl) ?_ | refine rg_q (q_move (x := .rs _) rfl) ?_ | refine rg_q (q_move (x := .d (.v _)) rfl) ?_
    first | refine rg_q (q_len isl22 rfl (by first | exact len_map _ _ | rfl)) ?_ | refine rg_q (q_len_rs isl22 rfl rfl) ?_ | refine rg_q (q_len_nil isl22 rfl) ?_
    refine rg_q (q_gtr rfl rfl) ?_
    refine rg_q (q_move (x := .d (.v _)) rfl) ?_
    first | refine rg_g rfl rfl (fun hG => (q_move (x := .d (.sl _ _)) rfl)) ?_ | refine rg_g rfl rfl (fun hG => (q_move (x := .rs _) rfl)) ?_ | refine rg_g rfl rfl (fun hG => (q_move (x := .d (.v _)) rfl)) ?_
    first | refine rg_g rfl rfl (fun hG => (q_len isl25 rfl (by first | exact len_map _ _ | rfl))) ?_ | refine rg_g rfl rfl (fun hG => (q_len_rs isl25 rfl rfl)) ?_ | refine rg_g rfl rfl (fun hG => (q_len_nil isl25 rfl)) ?_
    refine rg_g rfl rfl (fun hG => (q_gtr rfl rfl)) ?_
    first | refine rg_pick rfl rfl rfl rfl rfl rfl ?_ | refine rg_q (q_pick rfl rfl rfl) ?_
    refine rg_nil ?_
    refine aops_nil ?_
    change Awp _ _ _ _ _
    first | refine awp_len (t := 13) rfl (fun hl13 => ?_) | skip
    (try simp only [List.length_map] at hl13)
    refine awp_cond rfl (fun hc3 => ?_) (fun hc3 => ?_)
    ·
      (try simp only [decide_eq_true_eq, decide_eq_false_iff_not, Bool.and_eq_true, Bool.or_eq_true, Bool.and_eq_false_iff, Bool.or_eq_false_iff, Bool.not_eq_true', Bool.not_eq_false', Bool.not_true, Bool.not_false, bif_and, bif_or, Bool.not_not, ne_eq, Decidable.not_not, not_true_eq_false, not_false_eq_true, Int.not_le, Int.not_lt] at hc3)
      refine awp_seq ?_
      refine awp_region 1 mixed (by kernel_rfl) ?_
      refine rg_q (q_assign (x := .d (.v _)) rfl) ?_
      refine rg_nil ?_
      refine aops_nil ?_
      change Awp _ _ _ _ _
      refine awp_ret ?_
      refine ⟨_, (.cons (.tmp (by first | exact .d _ | exact .rs rfl | exact .ref rfl | exact .tref rfl (.cons (.d _ rfl) (.cons (.rs rfl) .nil)))) .nil), ?_⟩
      rfl
    ·
      (try simp only [decide_eq_true_eq, decide_eq_false_iff_not, Bool.and_eq_true, Bool.or_eq_true, Bool.and_eq_false_iff, Bool.or_eq_false_iff, Bool.not_eq_true', Bool.not_eq_false', Bool.not_true, Bool.not_false, bif_and, bif_or, Bool.not_not, ne_eq, Decidable.not_not, not_true_eq_false, not_false_eq_true, Int.not_le, Int.not_lt] at hc3)
      have hl9 : l.length ≤ 9 := by omega
      have hy9 : y.length ≤ 9 := by omega
      refine awp_skip ?_
      change Awp _ _ _ _ _
      refine awp_seq ?_
      refine awp_seq ?_
      refine awp_region 7 mixed (by kernel_rfl) ?_
      first | refine rg_q (q_move (x := .d (.sl _ _)) rfl) ?_ | refine rg_q (q_move (x := .rs _) rfl) ?_ | refine rg_q (q_move (x := .d (.v _)) rfl) ?_
      first | refine rg_q (q_call en20 (.cons rfl .nil) rfl (rcheckTable_p _)) ?_ | refine rg_q (q_callF en20 (.cons (by first | exact .d _ | exact .rs rfl | exact .ref rfl | exact .nil _ | exact .tref rfl (by repeat (first | exact .nil | refine .cons (.d _ rfl) ?_ | refine .cons (.rs rfl) ?_))) .nil) rfl (rcheckTable_p _) (by first | exact .v _ | exact D.Flat.tupF (by repeat first | exact trivial | refine ⟨.v _, ?_⟩) | exact D.Flat.aggF (by repeat first | exact trivial | refine ⟨.v _, ?_⟩))) ?_
      refine rg_q (q_move (x := .d (.tup _)) rfl) ?_
      refine rg_q (q_extract rfl rfl) ?_
      refine rg_q (q_extract rfl rfl) ?_
      refine rg_q (q_assign (x := .d (.v _)) rfl) ?_
      refine rg_q (q_assign (x := .d (.v _)) rfl) ?_
      refine rg_nil ?_
      refine aops_nil ?_
      change Awp _ _ _ _ _
      refine awp_seq ?_
      refine awp_region 7 mixed (by kernel_rfl) ?_
      refine rg_q (q_move (x := .d (.v _)) rfl) ?_
      refine rg_q (q_neq rfl rfl) ?_
      refine rg_q (q_move (x := .d (.v _)) rfl) ?_
      refine rg_g rfl rfl (fun hG => (q_move (x := .d (.v _)) rfl)) ?_
      first | refine rg_g rfl rfl (fun hG => (q_call en21 (.cons rfl (.cons rfl (.cons rfl .nil))) rfl (Within_p _ _ _))) ?_ | refine rg_g rfl rfl (fun hG => (q_callF en21 (.cons (by first | exact .d _ | exact .rs rfl | exact .ref rfl | exact .nil _ | exact .tref rfl (by repeat (first | exact .nil | refine .cons (.d _ rfl) ?_ | refine .cons (.rs rfl) ?_))) (.cons (by first | exact .d _ | exact .rs rfl | exact .ref rfl | exact .nil _ | exact .tref rfl (by repeat (first | exact .nil | refine .cons (.d _ rfl) ?_ | refine .cons (.rs rfl) ?_))) (.cons (by first | exact .d _ | exact .rs rfl | exact .ref rfl | exact .nil _ | exact .tref rfl (by repeat (first | exact .nil | refine .cons (.d _ rfl) ?_ | refine .cons (.rs rfl) ?_))) .nil))) rfl (Within_p _ _ _) (by first | exact .v _ | exact D.Flat.tupF (by repeat first | exact trivial | refine ⟨.v _, ?_⟩) | exact D.Flat.aggF (by repeat first | exact trivial | refine ⟨.v _, ?_⟩)))) ?_
      refine rg_g rfl rfl (fun hG => (q_not rfl)) ?_
      first | refine rg_pick rfl rfl rfl rfl rfl rfl ?_ | refine rg_q (q_pick rfl rfl rfl) ?_
      refine rg_nil ?_
      refine aops_nil ?_
      change Awp _ _ _ _ _
      refine awp_cond rfl (fun hc6 => ?_) (fun hc6 => ?_)
      ·
        (try simp only [decide_eq_true_eq, decide_eq_false_iff_not, Bool.and_eq_true, Bool.or_eq_true, Bool.and_eq_false_iff, Bool.or_eq_false_iff, Bool.not_eq_true', Bool.not_eq_false', Bool.not_true, Bool.not_false, bif_and, bif_or, Bool.not_not, ne_eq, Decidable.not_not, not_true_eq_false, not_false_eq_true, Int.not_le, Int.not_lt] at hc6)
        refine awp_seq ?_
        refine awp_region 1 mixed (by kernel_rfl) ?_
        refine rg_q (q_assign (x := .d (.v _)) rfl) ?_
        refine rg_nil ?_
        refine aops_nil ?_
        change Awp _ _ _ _ _
        refine awp_ret ?_
        refine ⟨_, (.cons (.tmp (by first | exact .d _ | exact .rs rfl | exact .ref rfl | exact .tref rfl (.cons (.d _ rfl) (.cons (.rs rfl) .nil)))) .nil), ?_⟩
        rfl
      ·
        (try simp only [decide_eq_true_eq, decide_eq_false_iff_not, Bool.and_eq_true, Bool.or_eq_true, Bool.and_eq_false_iff, Bool.or_eq_false_iff, Bool.not_eq_true', Bool.not_eq_false', Bool.not_true, Bool.not_false, bif_and, bif_or, Bool.not_not, ne_eq, Decidable.not_not, not_true_eq_false, not_false_eq_true, Int.not_le, Int.not_lt] at hc6)
        have hck : (ckT l).2 = 0 := hc6.1
        have hs : 0 ≤ s ∧ s ≤ 1000000 := by have := hc6.2; simp [inR] at this; exact this
        have hT := ckT_tab hck
        have hX := Thinned_p l s
        rw [thinR_ok hck hs] at hX
        simp only at hX
        have hW := (thin_way l s hT.pos).1
        have hP := hW.pick hT
        have hcx := thin_choice s hT
        have hcp := choice_p l ((thinL l s).map (fun (n : Nat) => (n : Int))) (by omega)
        rw [hcx] at hcp
        have hcq := choice_p l y (by omega)
        have hCh := Chosen_p l (thinL l s) (fun j hj => by have := hP.le j hj; have := hT.pos; omega) (by have := hP.few; omega)
        have hNr := Near_p l (chs l (thinL l s)) s (hP.dep hT) (by rw [tab_ckT (hP.tab hT)]) hs
        rw [hW.near hT hs.1] at hNr
        have hlx : ((thinL l s).map (fun (n : Nat) => (n : Int))).length = (thinL l s).length := by simp
        obtain ⟨r, hyr⟩ : ∃ r : List Nat, choiceS l.length y = true → y = r.map (fun (n : Nat) => (n : Int)) ∧ Pick l r := by
          by_cases hcy : choiceS l.length y = true
          · obtain ⟨r, h1, h2⟩ := choice_pick hT hcy
            exact ⟨r, fun _ => ⟨h1, h2⟩⟩
          · exact ⟨[], fun h => absurd h hcy⟩
        have hCy : choiceS l.length y = true → PC Try.prog 26 [.sl 2 (l.map rowC), .sl 1 (y.map iC)] (.sl 2 ((chs l r).map rowC)) := fun h => by
          obtain ⟨h1, h2⟩ := hyr h
          have := Chosen_p l r (fun j hj => by have := h2.le j hj; have := hT.pos; omega) (by have := h2.few; omega)
          rw [← h1] at this; exact this
        have hNy : choiceS l.length y = true → PC Try.prog 25 [.sl 2 (l.map rowC), .sl 2 ((chs l r).map rowC), .v (.int .i64 s)] (.v (.bool (nearS l (chs l r) s))) := fun h =>
          Near_p l (chs l r) s ((hyr h).2.dep hT) (by rw [tab_ckT ((hyr h).2.tab hT)]) hs
        have hfin : choiceS l.length y = true → nearS l (chs l r) s = true → (thinL l s).length ≤ y.length := fun h1 h2 => by
          obtain ⟨e, hp⟩ := hyr h1
          have := thin_least hT hp h2
          rw [e, List.length_map]; exact this
        refine awp_skip ?_
        change Awp _ _ _ _ _
        refine awp_seq ?_
        refine awp_region 9 mixed (by kernel_rfl) ?_
        first | refine rg_q (q_move (x := .d (.sl _ _)) rfl) ?_ | refine rg_q (q_move (x := .rs _) rfl) ?_ | refine rg_q (q_move (x := .d (.v _)) rfl) ?_
        first | refine rg_q (q_call en19 (.cons rfl .nil) rfl (copyTable_p _ (by omega))) ?_ | refine rg_q (q_callF en19 (.cons (by first | exact .d _ | exact .rs rfl | exact .ref rfl | exact .nil _ | exact .tref rfl (by repeat (first | exact .nil | refine .cons (.d _ rfl) ?_ | refine .cons (.rs rfl) ?_))) .nil) rfl (copyTable_p _ (by omega)) (by first | exact .v _ | exact D.Flat.tupF (by repeat first | exact trivial | refine ⟨.v _, ?_⟩) | exact D.Flat.aggF (by repeat first | exact trivial | refine ⟨.v _, ?_⟩))) ?_
        refine rg_q (q_move (x := .d (.v _)) rfl) ?_
        first | refine rg_q (q_call en18 (.cons rfl (.cons rfl .nil)) rfl (hX)) ?_ | refine rg_q (q_callF en18 (.cons (by first | exact .d _ | exact .rs rfl | exact .ref rfl | exact .nil _ | exact .tref rfl (by repeat (first | exact .nil | refine .cons (.d _ rfl) ?_ | refine .cons (.rs rfl) ?_))) (.cons (by first | exact .d _ | exact .rs rfl | exact .ref rfl | exact .nil _ | exact .tref rfl (by repeat (first | exact .nil | refine .cons (.d _ rfl) ?_ | refine .cons (.rs rfl) ?_))) .nil)) rfl (hX) (by first | exact .v _ | exact D.Flat.tupF (by repeat first | exact trivial | refine ⟨.v _, ?_⟩) | exact D.Flat.aggF (by repeat first | exact trivial | refine ⟨.v _, ?_⟩))) ?_
        refine rg_q (q_move (x := .d (.tup _)) rfl) ?_
        refine rg_q (q_extract rfl rfl) ?_
        refine rg_q (q_extract rfl rfl) ?_
        first | refine rg_q (q_assign (x := .d (.sl _ _)) rfl) ?_ | refine rg_q (q_assign (x := .rs _) rfl) ?_ | refine rg_q (q_assign (x := .d (.v _)) rfl) ?_
        refine rg_q (q_assign (x := .d (.v _)) rfl) ?_
        refine rg_nil ?_
        refine aops_nil ?_
        change Awp _ _ _ _ _
        refine awp_seq ?_
        refine awp_seq ?_
        refine awp_region 17 mixed (by kernel_rfl) ?_
        refine rg_q (q_move (x := .d (.v _)) rfl) ?_
        refine rg_q (q_neq rfl rfl) ?_
        refine rg_q (q_move (x := .d (.v _)) rfl) ?_
        first | refine rg_g rfl rfl (fun hG => (q_move (x := .d (.sl _ _)) rfl)) ?_ | refine rg_g rfl rfl (fun hG => (q_move (x := .rs _) rfl)) ?_ | refine rg_g rfl rfl (fun hG => (q_move (x := .d (.v _)) rfl)) ?_
        first | refine rg_g rfl rfl (fun hG => (q_move (x := .d (.sl _ _)) rfl)) ?_ | refine rg_g rfl rfl (fun hG => (q_move (x := .rs _) rfl)) ?_ | refine rg_g rfl rfl (fun hG => (q_move (x := .d (.v _)) rfl)) ?_
        first | refine rg_g rfl rfl (fun hG => (q_call en24 (.cons rfl (.cons rfl .nil)) rfl (hcp))) ?_ | refine rg_g rfl rfl (fun hG => (q_callF en24 (.cons (by first | exact .d _ | exact .rs rfl | exact .ref rfl | exact .nil _ | exact .tref rfl (by repeat (first | exact .nil | refine .cons (.d _ rfl) ?_ | refine .cons (.rs rfl) ?_))) (.cons (by first | exact .d _ | exact .rs rfl | exact .ref rfl | exact .nil _ | exact .tref rfl (by repeat (first | exact .nil | refine .cons (.d _ rfl) ?_ | refine .cons (.rs rfl) ?_))) .nil)) rfl (hcp) (by first | exact .v _ | exact D.Flat.tupF (by repeat first | exact trivial | refine ⟨.v _, ?_⟩) | exact D.Flat.aggF (by repeat first | exact trivial | refine ⟨.v _, ?_⟩)))) ?_
        refine rg_g rfl rfl (fun hG => (q_not rfl)) ?_
        first | refine rg_pick rfl rfl rfl rfl rfl rfl ?_ | refine rg_q (q_pick rfl rfl rfl) ?_
        refine rg_q (q_move (x := .d (.v _)) rfl) ?_
        first | refine rg_g rfl rfl (fun hG => (q_move (x := .d (.sl _ _)) rfl)) ?_ | refine rg_g rfl rfl (fun hG => (q_move (x := .rs _) rfl)) ?_ | refine rg_g rfl rfl (fun hG => (q_move (x := .d (.v _)) rfl)) ?_
        first | refine rg_g rfl rfl (fun hG => (q_move (x := .d (.sl _ _)) rfl)) ?_ | refine rg_g rfl rfl (fun hG => (q_move (x := .rs _) rfl)) ?_ | refine rg_g rfl rfl (fun hG => (q_move (x := .d (.v _)) rfl)) ?_
        first | refine rg_g rfl rfl (fun hG => (q_move (x := .d (.sl _ _)) rfl)) ?_ | refine rg_g rfl rfl (fun hG => (q_move (x := .rs _) rfl)) ?_ | refine rg_g rfl rfl (fun hG => (q_move (x := .d (.v _)) rfl)) ?_
        first | refine rg_g rfl rfl (fun hG => (q_call en26 (.cons rfl (.cons rfl .nil)) rfl (hCh))) ?_ | refine rg_g rfl rfl (fun hG => (q_callF en26 (.cons (by first | exact .d _ | exact .rs rfl | exact .ref rfl | exact .nil _ | exact .tref rfl (by repeat (first | exact .nil | refine .cons (.d _ rfl) ?_ | refine .cons (.rs rfl) ?_))) (.cons (by first | exact .d _ | exact .rs rfl | exact .ref rfl | exact .nil _ | exact .tref rfl (by repeat (first | exact .nil | refine .cons (.d _ rfl) ?_ | refine .cons (.rs rfl) ?_))) .nil)) rfl (hCh) (by first | exact .v _ | exact D.Flat.tupF (by repeat first | exact trivial | refine ⟨.v _, ?_⟩) | exact D.Flat.aggF (by repeat first | exact trivial | refine ⟨.v _, ?_⟩)))) ?_
        refine rg_g rfl rfl (fun hG => (q_move (x := .d (.v _)) rfl)) ?_
        first | refine rg_g rfl rfl (fun hG => (q_call en25 (.cons rfl (.cons rfl (.cons rfl .nil))) rfl (hNr))) ?_ | refine rg_g rfl rfl (fun hG => (q_callF en25 (.cons (by first | exact .d _ | exact .rs rfl | exact .ref rfl | exact .nil _ | exact .tref rfl (by repeat (first | exact .nil | refine .cons (.d _ rfl) ?_ | refine .cons (.rs rfl) ?_))) (.cons (by first | exact .d _ | exact .rs rfl | exact .ref rfl | exact .nil _ | exact .tref rfl (by repeat (first | exact .nil | refine .cons (.d _ rfl) ?_ | refine .cons (.rs rfl) ?_))) (.cons (by first | exact .d _ | exact .rs rfl | exact .ref rfl | exact .nil _ | exact .tref rfl (by repeat (first | exact .nil | refine .cons (.d _ rfl) ?_ | refine .cons (.rs rfl) ?_))) .nil))) rfl (hNr) (by first | exact .v _ | exact D.Flat.tupF (by repeat first | exact trivial | refine ⟨.v _, ?_⟩) | exact D.Flat.aggF (by repeat first | exact trivial | refine ⟨.v _, ?_⟩)))) ?_
        refine rg_g rfl rfl (fun hG => (q_not rfl)) ?_
        first | refine rg_pick rfl rfl rfl rfl rfl rfl ?_ | refine rg_q (q_pick rfl rfl rfl) ?_
        refine rg_nil ?_
        refine aops_nil ?_
        change Awp _ _ _ _ _
        refine awp_cond rfl (fun hc9 => ?_) (fun hc9 => ?_)
        ·
          exfalso; (try simp only [decide_eq_true_eq, decide_eq_false_iff_not, Bool.and_eq_true, Bool.or_eq_true, Bool.and_eq_false_iff, Bool.or_eq_false_iff, Bool.not_eq_true', Bool.not_eq_false', Bool.not_true, Bool.not_false, bif_and, bif_or, Bool.not_not, ne_eq, Decidable.not_not, not_true_eq_false, not_false_eq_true, Int.not_le, Int.not_lt] at hc9); first | omega | simp_all
        ·
          (try simp only [decide_eq_true_eq, decide_eq_false_iff_not, Bool.and_eq_true, Bool.or_eq_true, Bool.and_eq_false_iff, Bool.or_eq_false_iff, Bool.not_eq_true', Bool.not_eq_false', Bool.not_true, Bool.not_false, bif_and, bif_or, Bool.not_not, ne_eq, Decidable.not_not, not_true_eq_false, not_false_eq_true, Int.not_le, Int.not_lt] at hc9)
          refine awp_skip ?_
          change Awp _ _ _ _ _
          refine awp_seq ?_
          refine awp_region 21 mixed (by kernel_rfl) ?_
          first | refine rg_q (q_move (x := .d (.sl _ _)) rfl) ?_ | refine rg_q (q_move (x := .rs _) rfl) ?_ | refine rg_q (q_move (x := .d (.v _)) rfl) ?_
          first | refine rg_q (q_move (x := .d (.sl _ _)) rfl) ?_ | refine rg_q (q_move (x := .rs _) rfl) ?_ | refine rg_q (q_move (x := .d (.v _)) rfl) ?_
          first | refine rg_q (q_call en24 (.cons rfl (.cons rfl .nil)) rfl (hcq)) ?_ | refine rg_q (q_callF en24 (.cons (by first | exact .d _ | exact .rs rfl | exact .ref rfl | exact .nil _ | exact .tref rfl (by repeat (first | exact .nil | refine .cons (.d _ rfl) ?_ | refine .cons (.rs rfl) ?_))) (.cons (by first | exact .d _ | exact .rs rfl | exact .ref rfl | exact .nil _ | exact .tref rfl (by repeat (first | exact .nil | refine .cons (.d _ rfl) ?_ | refine .cons (.rs rfl) ?_))) .nil)) rfl (hcq) (by first | exact .v _ | exact D.Flat.tupF (by repeat first | exact trivial | refine ⟨.v _, ?_⟩) | exact D.Flat.aggF (by repeat first | exact trivial | refine ⟨.v _, ?_⟩))) ?_
          refine rg_q (q_not rfl) ?_
          refine rg_q (q_move (x := .d (.v _)) rfl) ?_
          first | refine rg_g rfl rfl (fun hG => (q_move (x := .d (.sl _ _)) rfl)) ?_ | refine rg_g rfl rfl (fun hG => (q_move (x := .rs _) rfl)) ?_ | refine rg_g rfl rfl (fun hG => (q_move (x := .d (.v _)) rfl)) ?_
          first | refine rg_g rfl rfl (fun hG => (q_move (x := .d (.sl _ _)) rfl)) ?_ | refine rg_g rfl rfl (fun hG => (q_move (x := .rs _) rfl)) ?_ | refine rg_g rfl rfl (fun hG => (q_move (x := .d (.v _)) rfl)) ?_
          first | refine rg_g rfl rfl (fun hG => (q_move (x := .d (.sl _ _)) rfl)) ?_ | refine rg_g rfl rfl (fun hG => (q_move (x := .rs _) rfl)) ?_ | refine rg_g rfl rfl (fun hG => (q_move (x := .d (.v _)) rfl)) ?_
          first | refine rg_g rfl rfl (fun hG => (q_call en26 (.cons rfl (.cons rfl .nil)) rfl (hCy (by have hg := T.bool_inj (a := _) hG.1; simpa using hg)))) ?_ | refine rg_g rfl rfl (fun hG => (q_callF en26 (.cons (by first | exact .d _ | exact .rs rfl | exact .ref rfl | exact .nil _ | exact .tref rfl (by repeat (first | exact .nil | refine .cons (.d _ rfl) ?_ | refine .cons (.rs rfl) ?_))) (.cons (by first | exact .d _ | exact .rs rfl | exact .ref rfl | exact .nil _ | exact .tref rfl (by repeat (first | exact .nil | refine .cons (.d _ rfl) ?_ | refine .cons (.rs rfl) ?_))) .nil)) rfl (hCy (by have hg := T.bool_inj (a := _) hG.1; simpa using hg)) (by first | exact .v _ | exact D.Flat.tupF (by repeat first | exact trivial | refine ⟨.v _, ?_⟩) | exact D.Flat.aggF (by repeat first | exact trivial | refine ⟨.v _, ?_⟩)))) ?_
          refine rg_g rfl rfl (fun hG => (q_move (x := .d (.v _)) rfl)) ?_
          first | refine rg_g rfl rfl (fun hG => (q_call en25 (.cons rfl (.cons rfl (.cons rfl .nil))) rfl (hNy (by have hg := T.bool_inj (a := _) hG.1; simpa using hg)))) ?_ | refine rg_g rfl rfl (fun hG => (q_callF en25 (.cons (by first | exact .d _ | exact .rs rfl | exact .ref rfl | exact .nil _ | exact .tref rfl (by repeat (first | exact .nil | refine .cons (.d _ rfl) ?_ | refine .cons (.rs rfl) ?_))) (.cons (by first | exact .d _ | exact .rs rfl | exact .ref rfl | exact .nil _ | exact .tref rfl (by repeat (first | exact .nil | refine .cons (.d _ rfl) ?_ | refine .cons (.rs rfl) ?_))) (.cons (by first | exact .d _ | exact .rs rfl | exact .ref rfl | exact .nil _ | exact .tref rfl (by repeat (first | exact .nil | refine .cons (.d _ rfl) ?_ | refine .cons (.rs rfl) ?_))) .nil))) rfl (hNy (by have hg := T.bool_inj (a := _) hG.1; simpa using hg)) (by first | exact .v _ | exact D.Flat.tupF (by repeat first | exact trivial | refine ⟨.v _, ?_⟩) | exact D.Flat.aggF (by repeat first | exact trivial | refine ⟨.v _, ?_⟩)))) ?_
          refine rg_g rfl rfl (fun hG => (q_not rfl)) ?_
          first | refine rg_pick rfl rfl rfl rfl rfl rfl ?_ | refine rg_q (q_pick rfl rfl rfl) ?_
          refine rg_q (q_move (x := .d (.v _)) rfl) ?_
          first | refine rg_g rfl rfl (fun hG => (q_move (x := .d (.sl _ _)) rfl)) ?_ | refine rg_g rfl rfl (fun hG => (q_move (x := .rs _) rfl)) ?_ | refine rg_g rfl rfl (fun hG => (q_move (x := .d (.v _)) rfl)) ?_
          first | refine rg_g rfl rfl (fun hG => (q_len isl25 rfl (by first | exact len_map _ _ | rfl))) ?_ | refine rg_g rfl rfl (fun hG => (q_len_rs isl25 rfl rfl)) ?_ | refine rg_g rfl rfl (fun hG => (q_len_nil isl25 rfl)) ?_
          first | refine rg_g rfl rfl (fun hG => (q_move (x := .d (.sl _ _)) rfl)) ?_ | refine rg_g rfl rfl (fun hG => (q_move (x := .rs _) rfl)) ?_ | refine rg_g rfl rfl (fun hG => (q_move (x := .d (.v _)) rfl)) ?_
          first | refine rg_g rfl rfl (fun hG => (q_len isl25 rfl (by first | exact len_map _ _ | rfl))) ?_ | refine rg_g rfl rfl (fun hG => (q_len_rs isl25 rfl rfl)) ?_ | refine rg_g rfl rfl (fun hG => (q_len_nil isl25 rfl)) ?_
          refine rg_g rfl rfl (fun hG => (q_geq rfl rfl)) ?_
          first | refine rg_pick rfl rfl rfl rfl rfl rfl ?_ | refine rg_q (q_pick rfl rfl rfl) ?_
          refine rg_q (q_assign (x := .d (.v _)) rfl) ?_
          refine rg_nil ?_
          refine aops_nil ?_
          change Awp _ _ _ _ _
          refine awp_ret ?_
          refine ⟨_, (.cons (.tmp (by first | exact .d _ | exact .rs rfl | exact .ref rfl | exact .tref rfl (.cons (.d _ rfl) (.cons (.rs rfl) .nil)))) .nil), ?_⟩
          have hv : ∀ (c n : Bool) (p q : Int), (c = true → n = true → q ≤ p) → (bif (bif !c then true else !n) then true else decide (q ≤ p)) = true := fun c n p q h => by
            cases c <;> cases n <;> simp at h ⊢; exact h
          show D.v (.bool true) = D.v (.bool (bif (bif !choiceS l.length y then true else !nearS l (chs l r) s) then true else decide ((_ : Int) ≤ _)))
          rw [hv _ _ _ _ (fun h1 h2 => by have := hfin h1 h2; (try simp only [List.length_map]); omega)]
end Go.Proofs.Ytgdcidbpadhkpaa.Am.M
