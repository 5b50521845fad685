/- Contracts over the abstract machine: until when a step is valid. Conditions: none. -/
import Derived.Test.YtgdcidbpadhkpaaC15
set_option linter.unusedVariables false
set_option linter.unusedSimpArgs false
namespace Go.Proofs.Ytgdcidbpadhkpaa.Am.M
open Go

def untilR (l : List Stp) (ev : List Evt) (step : Int) : Int × Int :=
  if inR 0 step ((l.length : Int) - 1) = false then (0, 6) else
  if ev.length = 0 ∨ validS l (bookOf l ev) step.toNat (ev.getD (ev.length - 1) zeroE).minute = false then (0, 12) else ((untilS l (bookOf l ev) step.toNat).1, 0)
theorem untilOf_ok {l : List Stp} {ev : List Evt} {step : Int} (h : (followS l ev).2.2 = 0) : untilOfS l ev step = untilR l ev step := by
  obtain ⟨h1, _⟩ := follow_book h
  unfold untilOfS untilR
  rw [if_neg (by simpa using h), h1]; rfl
theorem untilOf_bad {l : List Stp} {ev : List Evt} {step : Int} (h : (followS l ev).2.2 ≠ 0) : untilOfS l ev step = (0, (followS l ev).2.2) := by
  unfold untilOfS; rw [if_pos h]
theorem accS_zero (l : List Stp) (L : List Lst) (s : Stp) (y : Lst) (ns : List Int) : accS l L s y (ns.take 0) = (y.minute + s.lasts, y.don && y.kept) := rfl
set_option maxRecDepth 100000 in
theorem rUntilOf_p (l : List Stp) (ev : List Evt) (step : Int) (hr : RightS l) (hl : ev.length ≤ 1000) (hev : ∀ e ∈ ev, EvOk e) : PC Try.prog 49 [.sl 4 (l.map stepC), .sl 3 (ev.map evC), .v (.int .i64 (step))] (.tup [.v (.int .i64 ((untilR l ev step).1)), .v (.int .i64 ((untilR l ev step).2))]) := by
  have hfew := hr.few
  have hLlen := bookOf_len l ev
  obtain ⟨z, hz⟩ : ∃ z, untilR l ev step = z := ⟨_, rfl⟩
  rw [hz]
  unfold untilR at hz
  have hca0 : ∀ (i : Nat) (s : Stp) (y : Lst), l[i]? = some s → (bookOf l ev)[i]? = some y → _ := fun i s y h1 h2 => last_case (ev := ev) h1 h2
  obtain ⟨y, hy⟩ : ∃ y, 0 < ev.length → ev[ev.length - 1]? = some y := by
    by_cases h0 : 0 < ev.length
    · exact ⟨ev[ev.length - 1], fun _ => List.getElem?_eq_getElem (by omega)⟩
    · exact ⟨zeroE, fun h => absurd h h0⟩
  have hyd : 0 < ev.length → ev.getD (ev.length - 1) zeroE = y := fun h => getD_at (hy h)
  have hva := rValidAt_p l ev y.minute hr hl hev
  generalize bookOf l ev = B at *
  refine pc_of_awp Try.func49 rfl Try.ntmps49 (rs := [.tmp 6, .tmp 7]) Try.results49 (by simp) fun w0 => ?_
  refine awp_seq ?_
  refine awp_region 2 mixed (by kernel_rfl) ?_
  refine rg_q (q_assign (x := .d (.v _)) rfl) ?_
  refine rg_q (q_assign (x := .d (.v _)) rfl) ?_
  refine rg_nil ?_
  refine aops_nil ?_
  change Awp _ _ _ _ _
  refine awp_seq ?_
  refine awp_seq ?_
  refine awp_region 6 mixed (by kernel_rfl) ?_
  refine rg_q (q_move (x := .d (.v _)) rfl) ?_
  first | refine rg_q (q_move (x := .d (.sl _ _)) rfl) ?_ | refine rg_q (q_move (x := .rs _) rfl) ?_ | refine rg_q (q_move (x := .d (.v _)) rfl) ?_
  first | refine rg_q (q_len isl40 rfl (by first | exact len_map _ _ | rfl)) ?_ | refine rg_q (q_len_rs isl40 rfl rfl) ?_ | refine rg_q (q_len_nil isl40 rfl) ?_
  refine rg_q (q_sub rfl rfl (In64.mk (by (first | omega | (simp only; omega) | (simp only [List.length_map, List.length_set, List.length_append, List.length_take, List.length_range]; omega))) (by (first | omega | (simp only; omega) | (simp only [List.length_map, List.length_set, List.length_append, List.length_take, List.length_range]; omega))))) ?_
  first | refine rg_q (q_call en21 (.cons rfl (.cons rfl (.cons rfl .nil))) rfl (Within_p _ _ _)) ?_ | refine rg_q (q_callF en21 (.cons (by first | exact .d _ | exact .rs rfl | exact .ref rfl | exact .nil _ | exact .tref rfl (by repeat (first | exact .nil | refine .cons (.d _ rfl) ?_ | refine .cons (.rs rfl) ?_))) (.cons (by first | exact .d _ | exact .rs rfl | exact .ref rfl | exact .nil _ | exact .tref rfl (by repeat (first | exact .nil | refine .cons (.d _ rfl) ?_ | refine .cons (.rs rfl) ?_))) (.cons (by first | exact .d _ | exact .rs rfl | exact .ref rfl | exact .nil _ | exact .tref rfl (by repeat (first | exact .nil | refine .cons (.d _ rfl) ?_ | refine .cons (.rs rfl) ?_))) .nil))) rfl (Within_p _ _ _) (by first | exact .v _ | exact D.Flat.tupF (by repeat first | exact trivial | refine ⟨.v _, ?_⟩) | exact D.Flat.aggF (by repeat first | exact trivial | refine ⟨.v _, ?_⟩))) ?_
  refine rg_q (q_not rfl) ?_
  refine rg_nil ?_
  refine aops_nil ?_
  change Awp _ _ _ _ _
  first | refine awp_len (t := 13) rfl (fun hl13 => ?_) | skip
  (try simp only [List.length_map] at hl13)
  refine awp_cond rfl (fun hc1 => ?_) (fun hc1 => ?_)
  ·
    (try simp only [decide_eq_true_eq, decide_eq_false_iff_not, Bool.and_eq_true, Bool.or_eq_true, Bool.and_eq_false_iff, Bool.or_eq_false_iff, Bool.not_eq_true', Bool.not_eq_false', Bool.not_true, Bool.not_false, bif_and, bif_or, Bool.not_not, ne_eq, Decidable.not_not, not_true_eq_false, not_false_eq_true, Int.not_le, Int.not_lt] at hc1)
    rw [if_pos hc1] at hz
    refine awp_seq ?_
    refine awp_region 2 mixed (by kernel_rfl) ?_
    refine rg_q (q_assign (x := .d (.v _)) rfl) ?_
    refine rg_q (q_assign (x := .d (.v _)) rfl) ?_
    refine rg_nil ?_
    refine aops_nil ?_
    change Awp _ _ _ _ _
    refine awp_ret ?_
    refine ⟨_, (.cons (.tmp (by first | exact .d _ | exact .rs rfl | exact .ref rfl | exact .tref rfl (.cons (.d _ rfl) (.cons (.rs rfl) .nil)))) (.cons (.tmp (by first | exact .d _ | exact .rs rfl | exact .ref rfl | exact .tref rfl (.cons (.d _ rfl) (.cons (.rs rfl) .nil)))) .nil)), ?_⟩
    rw [← hz]; rfl
  ·
    (try simp only [decide_eq_true_eq, decide_eq_false_iff_not, Bool.and_eq_true, Bool.or_eq_true, Bool.and_eq_false_iff, Bool.or_eq_false_iff, Bool.not_eq_true', Bool.not_eq_false', Bool.not_true, Bool.not_false, bif_and, bif_or, Bool.not_not, ne_eq, Decidable.not_not, not_true_eq_false, not_false_eq_true, Int.not_le, Int.not_lt] at hc1)
    rw [if_neg (by simpa using hc1)] at hz
    simp [inR] at hc1
    obtain ⟨m, rfl⟩ : ∃ m : Nat, step = (m : Int) := ⟨step.toNat, by omega⟩
    rw [show ((m : Int)).toNat = m from rfl] at hz
    have hvm := validL_at (l := l) (L := B) (m := y.minute) (i := m) (by omega)
    have hvl := validL_len l B y.minute
    refine awp_skip ?_
    change Awp _ _ _ _ _
    refine awp_seq ?_
    refine awp_seq ?_
    refine awp_region 19 mixed (by kernel_rfl) ?_
    first | refine rg_q (q_move (x := .d (.sl _ _)) rfl) ?_ | refine rg_q (q_move (x := .rs _) rfl) ?_ | refine rg_q (q_move (x := .d (.v _)) rfl) ?_
    first | refine rg_q (q_len isl41 rfl (by first | exact len_map _ _ | rfl)) ?_ | refine rg_q (q_len_rs isl41 rfl rfl) ?_ | refine rg_q (q_len_nil isl41 rfl) ?_
    refine rg_q (q_eql rfl rfl) ?_
    refine rg_q (q_move (x := .d (.v _)) rfl) ?_
    first | refine rg_g rfl rfl (fun hG => (q_move (x := .d (.sl _ _)) rfl)) ?_ | refine rg_g rfl rfl (fun hG => (q_move (x := .rs _) rfl)) ?_ | refine rg_g rfl rfl (fun hG => (q_move (x := .d (.v _)) rfl)) ?_
    first | refine rg_g rfl rfl (fun hG => (q_move (x := .d (.sl _ _)) rfl)) ?_ | refine rg_g rfl rfl (fun hG => (q_move (x := .rs _) rfl)) ?_ | refine rg_g rfl rfl (fun hG => (q_move (x := .d (.v _)) rfl)) ?_
    first | refine rg_g rfl rfl (fun hG => (q_move (x := .d (.sl _ _)) rfl)) ?_ | refine rg_g rfl rfl (fun hG => (q_move (x := .rs _) rfl)) ?_ | refine rg_g rfl rfl (fun hG => (q_move (x := .d (.v _)) rfl)) ?_
    first | refine rg_g rfl rfl (fun hG => (q_move (x := .d (.sl _ _)) rfl)) ?_ | refine rg_g rfl rfl (fun hG => (q_move (x := .rs _) rfl)) ?_ | refine rg_g rfl rfl (fun hG => (q_move (x := .d (.v _)) rfl)) ?_
    first | refine rg_g rfl rfl (fun hG => (q_len isl41 rfl (by first | exact len_map _ _ | rfl))) ?_ | refine rg_g rfl rfl (fun hG => (q_len_rs isl41 rfl rfl)) ?_ | refine rg_g rfl rfl (fun hG => (q_len_nil isl41 rfl)) ?_
    refine rg_g rfl rfl (fun hG => (q_sub rfl rfl (In64.mk (by (have hg0 := T.bool_inj (a := _) hG.1; (try simp only [decide_eq_true_eq, decide_eq_false_iff_not, Bool.and_eq_true, Bool.or_eq_true, Bool.and_eq_false_iff, Bool.or_eq_false_iff, Bool.not_eq_true', Bool.not_eq_false', Bool.not_true, Bool.not_false, bif_and, bif_or, Bool.not_not, ne_eq, Decidable.not_not, not_true_eq_false, not_false_eq_true, Int.not_le, Int.not_lt] at hg0); (first | omega | (simp only; omega) | (simp only [List.length_map, List.length_set, List.length_append, List.length_take, List.length_range]; omega)))) (by (have hg0 := T.bool_inj (a := _) hG.1; (try simp only [decide_eq_true_eq, decide_eq_false_iff_not, Bool.and_eq_true, Bool.or_eq_true, Bool.and_eq_false_iff, Bool.or_eq_false_iff, Bool.not_eq_true', Bool.not_eq_false', Bool.not_true, Bool.not_false, bif_and, bif_or, Bool.not_not, ne_eq, Decidable.not_not, not_true_eq_false, not_false_eq_true, Int.not_le, Int.not_lt] at hg0); (first | omega | (simp only; omega) | (simp only [List.length_map, List.length_set, List.length_append, List.length_take, List.length_range]; omega))))))) ?_
    first | refine rg_g rfl rfl (fun hG => (q_indexAddr sl41 rfl rfl (by (have hg0 := T.bool_inj (a := _) hG.1; (try simp only [decide_eq_true_eq, decide_eq_false_iff_not, Bool.and_eq_true, Bool.or_eq_true, Bool.and_eq_false_iff, Bool.or_eq_false_iff, Bool.not_eq_true', Bool.not_eq_false', Bool.not_true, Bool.not_false, bif_and, bif_or, Bool.not_not, ne_eq, Decidable.not_not, not_true_eq_false, not_false_eq_true, Int.not_le, Int.not_lt] at hg0); (first | omega | (simp only; omega) | (simp only [List.length_map, List.length_set, List.length_append, List.length_take, List.length_range]; omega)))) (map_at (k := ev.length - 1) (by (have hg0 := T.bool_inj (a := _) hG.1; (try simp only [decide_eq_true_eq, decide_eq_false_iff_not, Bool.and_eq_true, Bool.or_eq_true, Bool.and_eq_false_iff, Bool.or_eq_false_iff, Bool.not_eq_true', Bool.not_eq_false', Bool.not_true, Bool.not_false, bif_and, bif_or, Bool.not_not, ne_eq, Decidable.not_not, not_true_eq_false, not_false_eq_true, Int.not_le, Int.not_lt] at hg0); (first | omega | (simp only; omega) | (simp only [List.length_map, List.length_set, List.length_append, List.length_take, List.length_range]; omega)))) (hy (by (have hg0 := T.bool_inj (a := _) hG.1; (try simp only [decide_eq_true_eq, decide_eq_false_iff_not, Bool.and_eq_true, Bool.or_eq_true, Bool.and_eq_false_iff, Bool.or_eq_false_iff, Bool.not_eq_true', Bool.not_eq_false', Bool.not_true, Bool.not_false, bif_and, bif_or, Bool.not_not, ne_eq, Decidable.not_not, not_true_eq_false, not_false_eq_true, Int.not_le, Int.not_lt] at hg0); (first | omega | (simp only; omega) | (simp only [List.length_map, List.length_set, List.length_append, List.length_take, List.length_range]; omega)))))))) ?_ | refine rg_g rfl rfl (fun hG => (q_indexAddr_rs sl41 rfl rfl rfl (by (have hg0 := T.bool_inj (a := _) hG.1; (try simp only [decide_eq_true_eq, decide_eq_false_iff_not, Bool.and_eq_true, Bool.or_eq_true, Bool.and_eq_false_iff, Bool.or_eq_false_iff, Bool.not_eq_true', Bool.not_eq_false', Bool.not_true, Bool.not_false, bif_and, bif_or, Bool.not_not, ne_eq, Decidable.not_not, not_true_eq_false, not_false_eq_true, Int.not_le, Int.not_lt] at hg0); (first | omega | (simp only; omega) | (simp only [List.length_map, List.length_set, List.length_append, List.length_take, List.length_range]; omega)))) (by (have hg0 := T.bool_inj (a := _) hG.1; (try simp only [decide_eq_true_eq, decide_eq_false_iff_not, Bool.and_eq_true, Bool.or_eq_true, Bool.and_eq_false_iff, Bool.or_eq_false_iff, Bool.not_eq_true', Bool.not_eq_false', Bool.not_true, Bool.not_false, bif_and, bif_or, Bool.not_not, ne_eq, Decidable.not_not, not_true_eq_false, not_false_eq_true, Int.not_le, Int.not_lt] at hg0); (first | omega | (simp only; omega) | (simp only [List.length_map, List.length_set, List.length_append, List.length_take, List.length_range]; omega)))))) ?_
    first | refine rg_g rfl rfl (fun hG => (q_fieldAddr fld90_0 rfl)) ?_ | refine rg_g rfl rfl (fun hG => (q_fieldAddr_ref fld90_0 rfl)) ?_
    first | refine rg_g rfl rfl (fun hG => (q_load sz3 rfl rfl)) ?_ | refine rg_g rfl rfl (fun hG => (q_load_ref sz3 rfl rfl rfl)) ?_ | refine rg_g rfl rfl (fun hG => (q_load_tb (x := .d _) sz3 rfl rfl rfl)) ?_ | refine rg_g rfl rfl (fun hG => (q_load_tb (x := .rs _) sz3 rfl rfl rfl)) ?_
    first | refine rg_g rfl rfl (fun hG => (q_call en54 (.cons rfl (.cons rfl (.cons rfl .nil))) rfl (hva))) ?_ | refine rg_g rfl rfl (fun hG => (q_callF en54 (.cons (by first | exact .d _ | exact .rs rfl | exact .ref rfl | exact .nil _ | exact .tref rfl (by repeat (first | exact .nil | refine .cons (.d _ rfl) ?_ | refine .cons (.rs rfl) ?_))) (.cons (by first | exact .d _ | exact .rs rfl | exact .ref rfl | exact .nil _ | exact .tref rfl (by repeat (first | exact .nil | refine .cons (.d _ rfl) ?_ | refine .cons (.rs rfl) ?_))) (.cons (by first | exact .d _ | exact .rs rfl | exact .ref rfl | exact .nil _ | exact .tref rfl (by repeat (first | exact .nil | refine .cons (.d _ rfl) ?_ | refine .cons (.rs rfl) ?_))) .nil))) rfl (hva) (by first | exact .v _ | exact D.Flat.tupF (by repeat first | exact trivial | refine ⟨.v _, ?_⟩) | exact D.Flat.aggF (by repeat first | exact trivial | refine ⟨.v _, ?_⟩)))) ?_
    refine rg_g rfl rfl (fun hG => (q_move (x := .d (.v _)) rfl)) ?_
    first | refine rg_g rfl rfl (fun hG => (q_indexAddr sl77 rfl rfl (by (have hg0 := T.bool_inj (a := _) hG.1; (try simp only [decide_eq_true_eq, decide_eq_false_iff_not, Bool.and_eq_true, Bool.or_eq_true, Bool.and_eq_false_iff, Bool.or_eq_false_iff, Bool.not_eq_true', Bool.not_eq_false', Bool.not_true, Bool.not_false, bif_and, bif_or, Bool.not_not, ne_eq, Decidable.not_not, not_true_eq_false, not_false_eq_true, Int.not_le, Int.not_lt] at hg0); (first | omega | (simp only; omega) | (simp only [List.length_map, List.length_set, List.length_append, List.length_take, List.length_range]; omega)))) (map_at (by (have hg0 := T.bool_inj (a := _) hG.1; (try simp only [decide_eq_true_eq, decide_eq_false_iff_not, Bool.and_eq_true, Bool.or_eq_true, Bool.and_eq_false_iff, Bool.or_eq_false_iff, Bool.not_eq_true', Bool.not_eq_false', Bool.not_true, Bool.not_false, bif_and, bif_or, Bool.not_not, ne_eq, Decidable.not_not, not_true_eq_false, not_false_eq_true, Int.not_le, Int.not_lt] at hg0); (first | omega | (simp only; omega) | (simp only [List.length_map, List.length_set, List.length_append, List.length_take, List.length_range]; omega)))) hs))) ?_ | refine rg_g rfl rfl (fun hG => (q_indexAddr sl77 rfl rfl (by (have hg0 := T.bool_inj (a := _) hG.1; (try simp only [decide_eq_true_eq, decide_eq_false_iff_not, Bool.and_eq_true, Bool.or_eq_true, Bool.and_eq_false_iff, Bool.or_eq_false_iff, Bool.not_eq_true', Bool.not_eq_false', Bool.not_true, Bool.not_false, bif_and, bif_or, Bool.not_not, ne_eq, Decidable.not_not, not_true_eq_false, not_false_eq_true, Int.not_le, Int.not_lt] at hg0); (first | omega | (simp only; omega) | (simp only [List.length_map, List.length_set, List.length_append, List.length_take, List.length_range]; omega)))) (map_at (by (have hg0 := T.bool_inj (a := _) hG.1; (try simp only [decide_eq_true_eq, decide_eq_false_iff_not, Bool.and_eq_true, Bool.or_eq_true, Bool.and_eq_false_iff, Bool.or_eq_false_iff, Bool.not_eq_true', Bool.not_eq_false', Bool.not_true, Bool.not_false, bif_and, bif_or, Bool.not_not, ne_eq, Decidable.not_not, not_true_eq_false, not_false_eq_true, Int.not_le, Int.not_lt] at hg0); (first | omega | (simp only; omega) | (simp only [List.length_map, List.length_set, List.length_append, List.length_take, List.length_range]; omega)))) hn))) ?_ | refine rg_g rfl rfl (fun hG => (q_indexAddr sl77 rfl rfl (by (have hg0 := T.bool_inj (a := _) hG.1; (try simp only [decide_eq_true_eq, decide_eq_false_iff_not, Bool.and_eq_true, Bool.or_eq_true, Bool.and_eq_false_iff, Bool.or_eq_false_iff, Bool.not_eq_true', Bool.not_eq_false', Bool.not_true, Bool.not_false, bif_and, bif_or, Bool.not_not, ne_eq, Decidable.not_not, not_true_eq_false, not_false_eq_true, Int.not_le, Int.not_lt] at hg0); (first | omega | (simp only; omega) | (simp only [List.length_map, List.length_set, List.length_append, List.length_take, List.length_range]; omega)))) (map_at (by (have hg0 := T.bool_inj (a := _) hG.1; (try simp only [decide_eq_true_eq, decide_eq_false_iff_not, Bool.and_eq_true, Bool.or_eq_true, Bool.and_eq_false_iff, Bool.or_eq_false_iff, Bool.not_eq_true', Bool.not_eq_false', Bool.not_true, Bool.not_false, bif_and, bif_or, Bool.not_not, ne_eq, Decidable.not_not, not_true_eq_false, not_false_eq_true, Int.not_le, Int.not_lt] at hg0); (first | omega | (simp only; omega) | (simp only [List.length_map, List.length_set, List.length_append, List.length_take, List.length_range]; omega)))) hxa))) ?_ | refine rg_g rfl rfl (fun hG => (q_indexAddr sl77 rfl rfl (by (have hg0 := T.bool_inj (a := _) hG.1; (try simp only [decide_eq_true_eq, decide_eq_false_iff_not, Bool.and_eq_true, Bool.or_eq_true, Bool.and_eq_false_iff, Bool.or_eq_false_iff, Bool.not_eq_true', Bool.not_eq_false', Bool.not_true, Bool.not_false, bif_and, bif_or, Bool.not_not, ne_eq, Decidable.not_not, not_true_eq_false, not_false_eq_true, Int.not_le, Int.not_lt] at hg0); (first | omega | (simp only; omega) | (simp only [List.length_map, List.length_set, List.length_append, List.length_take, List.length_range]; omega)))) (map_at (by (have hg0 := T.bool_inj (a := _) hG.1; (try simp only [decide_eq_true_eq, decide_eq_false_iff_not, Bool.and_eq_true, Bool.or_eq_true, Bool.and_eq_false_iff, Bool.or_eq_false_iff, Bool.not_eq_true', Bool.not_eq_false', Bool.not_true, Bool.not_false, bif_and, bif_or, Bool.not_not, ne_eq, Decidable.not_not, not_true_eq_false, not_false_eq_true, Int.not_le, Int.not_lt] at hg0); (first | omega | (simp only; omega) | (simp only [List.length_map, List.length_set, List.length_append, List.length_take, List.length_range]; omega)))) hvm))) ?_ | refine rg_g rfl rfl (fun hG => (q_indexAddr_rs sl77 rfl rfl rfl (by (have hg0 := T.bool_inj (a := _) hG.1; (try simp only [decide_eq_true_eq, decide_eq_false_iff_not, Bool.and_eq_true, Bool.or_eq_true, Bool.and_eq_false_iff, Bool.or_eq_false_iff, Bool.not_eq_true', Bool.not_eq_false', Bool.not_true, Bool.not_false, bif_and, bif_or, Bool.not_not, ne_eq, Decidable.not_not, not_true_eq_false, not_false_eq_true, Int.not_le, Int.not_lt] at hg0); (first | omega | (simp only; omega) | (simp only [List.length_map, List.length_set, List.length_append, List.length_take, List.length_range]; omega)))) (by (have hg0 := T.bool_inj (a := _) hG.1; (try simp only [decide_eq_true_eq, decide_eq_false_iff_not, Bool.and_eq_true, Bool.or_eq_true, Bool.and_eq_false_iff, Bool.or_eq_false_iff, Bool.not_eq_true', Bool.not_eq_false', Bool.not_true, Bool.not_false, bif_and, bif_or, Bool.not_not, ne_eq, Decidable.not_not, not_true_eq_false, not_false_eq_true, Int.not_le, Int.not_lt] at hg0); (first | omega | (simp only; omega) | (simp only [List.length_map, List.length_set, List.length_append, List.length_take, List.length_range]; omega)))))) ?_
    first | refine rg_g rfl rfl (fun hG => (q_load sz4 rfl rfl)) ?_ | refine rg_g rfl rfl (fun hG => (q_load_ref sz4 rfl rfl rfl)) ?_ | refine rg_g rfl rfl (fun hG => (q_load_tb (x := .d _) sz4 rfl rfl rfl)) ?_ | refine rg_g rfl rfl (fun hG => (q_load_tb (x := .rs _) sz4 rfl rfl rfl)) ?_
    refine rg_g rfl rfl (fun hG => (q_not rfl)) ?_
    first | refine rg_pick rfl rfl rfl rfl rfl rfl ?_ | refine rg_q (q_pick rfl rfl rfl) ?_
    refine rg_nil ?_
    refine aops_nil ?_
    change Awp _ _ _ _ _
    first | refine awp_len (t := 18) rfl (fun hl18 => ?_) | skip
    (try simp only [List.length_map] at hl18)
    refine awp_cond rfl (fun hc3 => ?_) (fun hc3 => ?_)
    ·
      (try simp only [decide_eq_true_eq, decide_eq_false_iff_not, Bool.and_eq_true, Bool.or_eq_true, Bool.and_eq_false_iff, Bool.or_eq_false_iff, Bool.not_eq_true', Bool.not_eq_false', Bool.not_true, Bool.not_false, bif_and, bif_or, Bool.not_not, ne_eq, Decidable.not_not, not_true_eq_false, not_false_eq_true, Int.not_le, Int.not_lt] at hc3)
      rw [if_pos (by
        rcases hc3 with h | h
        · left; omega
        · by_cases h0 : 0 < ev.length
          · right; rw [hyd h0]; exact h
          · left; omega)] at hz
      refine awp_seq ?_
      refine awp_region 2 mixed (by kernel_rfl) ?_
      refine rg_q (q_assign (x := .d (.v _)) rfl) ?_
      refine rg_q (q_assign (x := .d (.v _)) rfl) ?_
      refine rg_nil ?_
      refine aops_nil ?_
      change Awp _ _ _ _ _
      refine awp_ret ?_
      refine ⟨_, (.cons (.tmp (by first | exact .d _ | exact .rs rfl | exact .ref rfl | exact .tref rfl (.cons (.d _ rfl) (.cons (.rs rfl) .nil)))) (.cons (.tmp (by first | exact .d _ | exact .rs rfl | exact .ref rfl | exact .tref rfl (.cons (.d _ rfl) (.cons (.rs rfl) .nil)))) .nil)), ?_⟩
      rw [← hz]; rfl
    ·
      (try simp only [decide_eq_true_eq, decide_eq_false_iff_not, Bool.and_eq_true, Bool.or_eq_true, Bool.and_eq_false_iff, Bool.or_eq_false_iff, Bool.not_eq_true', Bool.not_eq_false', Bool.not_true, Bool.not_false, bif_and, bif_or, Bool.not_not, ne_eq, Decidable.not_not, not_true_eq_false, not_false_eq_true, Int.not_le, Int.not_lt] at hc3)
      rw [if_neg (by
        rintro (h | h)
        · omega
        · rw [hyd (by omega), hc3.2] at h; cases h)] at hz
      have hok : (untilS l B m).2 = true := by
        have := hc3.2
        unfold validS at this
        rw [Bool.and_eq_true] at this
        exact this.1
      refine awp_skip ?_
      change Awp _ _ _ _ _
      refine awp_seq ?_
      refine awp_region 2 mixed (by kernel_rfl) ?_
      refine rg_q (q_move (x := .d (.v _)) rfl) ?_
      refine rg_q (q_add rfl rfl (In64.mk (by (first | omega | (simp only; omega) | (simp only [List.length_map, List.length_set, List.length_append, List.length_take, List.length_range]; omega))) (by (first | omega | (simp only; omega) | (simp only [List.length_map, List.length_set, List.length_append, List.length_take, List.length_range]; omega))))) ?_
      refine rg_nil ?_
      refine aops_make (m := m + 1) sl25 zr3 by3 rfl rfl rfl rfl (by omega) (by omega) rfl rfl ?_
      first | refine aops_q rfl (q_assign (x := .d (.sl _ _)) rfl) ?_ | refine aops_q rfl (q_assign (x := .rs _) rfl) ?_ | refine aops_q rfl (q_assign (x := .d (.v _)) rfl) ?_
      refine aops_nil ?_
      change Awp _ _ _ _ _
      refine awp_seq ?_
      refine awp_seq ?_
      refine awp_region 1 mixed (by kernel_rfl) ?_
      refine rg_q (q_assign (x := .d (.v _)) rfl) ?_
      refine rg_nil ?_
      refine aops_nil ?_
      change Awp _ _ _ _ _
      refine awp_block ?_
      refine awp_loopH [9, 10, 11, 40, 41, 42, 43, 44, 45, 46, 47, 48, 49, 50, 51, 52, 53, 54, 55, 56, 57, 58, 59, 60, 61, 62, 63, 64, 65, 66, 67, 68, 69, 70, 71, 72, 73, 74, 75, 76, 77, 78, 79, 80, 81, 82, 83, 84, 85, 86, 87, 88, 89, 90, 91, 92, 93, 94, 95] [39] (α := Nat × List Int) (fun p => [(9, T.i (p.1 : Int))]) (fun p => [(39, .row 3 1 (p.2.map iC))]) (fun p => p.1 ≤ m + 1 ∧ p.2.length = m + 1 ∧ ∀ i, i < p.1 → ∃ v : Int, p.2[i]? = some v ∧ -1 ≤ v ∧ v ≤ 101000000 ∧ ((untilS l B i).2 = true → v = (untilS l B i).1)) (fun p => m + 1 - p.1) (0, List.replicate (m + 1) 0) ⟨Nat.zero_le _, by simp, fun i hi => by simp only at hi; omega⟩ ?_ ?_
      · exact le_head (ms := [39]) (by repeat (first | exact Out.refl _ | exact Out.head rfl rfl | (refine Out.put ?_ rfl) | (refine Out.site ?_ rfl) | (refine Out.putn ?_) | (refine Out.headIn ?_ rfl rfl rfl) | (refine Out.called ?_ rfl rfl))) ⟨(by first | rfl | (show Site.row 3 1 (List.replicate (m + 1) [D.v (.int .i64 0)]) = _; simp [iC]; done)), trivial⟩ ⟨(by first | rfl | (show Site.row 3 1 (List.replicate (m + 1) [D.v (.int .i64 0)]) = _; simp [iC]; done)), trivial⟩ rfl rfl rfl rfl
      ·
        intro ⟨k, out⟩ ⟨hk, hol, ho⟩
        simp only at hk hol ho
        refine awp_seq ?_
        refine awp_seq ?_
        refine awp_region 3 mixed (by kernel_rfl) ?_
        refine rg_q (q_move (x := .d (.v _)) rfl) ?_
        refine rg_q (q_move (x := .d (.v _)) rfl) ?_
        refine rg_q (q_leq rfl rfl) ?_
        refine rg_nil ?_
        refine aops_nil ?_
        change Awp _ _ _ _ _
        refine awp_cond rfl (fun hc7 => ?_) (fun hc7 => ?_)
        ·
          (try simp only [decide_eq_true_eq, decide_eq_false_iff_not, Bool.and_eq_true, Bool.or_eq_true, Bool.and_eq_false_iff, Bool.or_eq_false_iff, Bool.not_eq_true', Bool.not_eq_false', Bool.not_true, Bool.not_false, bif_and, bif_or, Bool.not_not, ne_eq, Decidable.not_not, not_true_eq_false, not_false_eq_true, Int.not_le, Int.not_lt] at hc7)
          have hkl : k < l.length := by omega
          obtain ⟨s, hs⟩ : ∃ s, l[k]? = some s := ⟨_, List.getElem?_eq_getElem hkl⟩
          obtain ⟨y0, hy0⟩ : ∃ y, B[k]? = some y := ⟨_, List.getElem?_eq_getElem (by omega)⟩
          obtain ⟨d1, d2, d3, d4, hse⟩ := hr.each k s hs
          have hlp := last_p ev (k : Int) hl
          have hca := hca0 k s y0 hs hy0
          have hue := untilS_eq hr hs hy0
          obtain ⟨ok, hok1⟩ : ∃ v, out[k]? = some v := ⟨_, List.getElem?_eq_getElem (by omega)⟩
          have hok2 : (out.set k (-1))[k]? = some (-1) := List.getElem?_set_self (by omega)
          generalize lastR ev (k : Int) = r at *
          refine awp_skip ?_
          change Awp _ _ _ _ _
          refine awp_seq ?_
          refine awp_block ?_
          refine awp_seq ?_
          refine awp_region 3 mixed (by kernel_rfl) ?_
          first | refine rg_q (q_move (x := .d (.sl _ _)) rfl) ?_ | refine rg_q (q_move (x := .rs _) rfl) ?_ | refine rg_q (q_move (x := .d (.v _)) rfl) ?_
          refine rg_q (q_move (x := .d (.v _)) rfl) ?_
          first | refine rg_q (q_indexAddr sl25 rfl rfl (by (first | omega | (simp only; omega) | (simp only [List.length_map, List.length_set, List.length_append, List.length_take, List.length_range]; omega))) (map_at (by (first | omega | (simp only; omega) | (simp only [List.length_map, List.length_set, List.length_append, List.length_take, List.length_range]; omega))) hs)) ?_ | refine rg_q (q_indexAddr sl25 rfl rfl (by (first | omega | (simp only; omega) | (simp only [List.length_map, List.length_set, List.length_append, List.length_take, List.length_range]; omega))) (map_at (by (first | omega | (simp only; omega) | (simp only [List.length_map, List.length_set, List.length_append, List.length_take, List.length_range]; omega))) hn)) ?_ | refine rg_q (q_indexAddr sl25 rfl rfl (by (first | omega | (simp only; omega) | (simp only [List.length_map, List.length_set, List.length_append, List.length_take, List.length_range]; omega))) (map_at (by (first | omega | (simp only; omega) | (simp only [List.length_map, List.length_set, List.length_append, List.length_take, List.length_range]; omega))) hxa)) ?_ | refine rg_q (q_indexAddr sl25 rfl rfl (by (first | omega | (simp only; omega) | (simp only [List.length_map, List.length_set, List.length_append, List.length_take, List.length_range]; omega))) (map_at (by (first | omega | (simp only; omega) | (simp only [List.length_map, List.length_set, List.length_append, List.length_take, List.length_range]; omega))) hvm)) ?_ | refine rg_q (q_indexAddr_rs sl25 rfl rfl rfl (by (first | omega | (simp only; omega) | (simp only [List.length_map, List.length_set, List.length_append, List.length_take, List.length_range]; omega))) (by (first | omega | (simp only; omega) | (simp only [List.length_map, List.length_set, List.length_append, List.length_take, List.length_range]; omega)))) ?_
          refine rg_nil ?_
          refine aops_store_row sz3 rfl rfl (by first | exact .inl rfl | exact .inr ⟨_, rfl⟩) rfl rfl (i := k) (j := 0) (es' := (out.set k (-1)).map iC) (by omega) (map_get hok1) (by decide) (set_map iC _ _ _ rfl) ?_
          refine aops_nil ?_
          change Awp _ _ _ _ _
          refine awp_seq ?_
          refine awp_seq ?_
          refine awp_region 4 mixed (by kernel_rfl) ?_
          first | refine rg_q (q_move (x := .d (.sl _ _)) rfl) ?_ | refine rg_q (q_move (x := .rs _) rfl) ?_ | refine rg_q (q_move (x := .d (.v _)) rfl) ?_
          refine rg_q (q_move (x := .d (.v _)) rfl) ?_
          first | refine rg_q (q_call en102 (.cons rfl (.cons rfl .nil)) rfl (hlp)) ?_ | refine rg_q (q_callF en102 (.cons (by first | exact .d _ | exact .rs rfl | exact .ref rfl | exact .nil _ | exact .tref rfl (by repeat (first | exact .nil | refine .cons (.d _ rfl) ?_ | refine .cons (.rs rfl) ?_))) (.cons (by first | exact .d _ | exact .rs rfl | exact .ref rfl | exact .nil _ | exact .tref rfl (by repeat (first | exact .nil | refine .cons (.d _ rfl) ?_ | refine .cons (.rs rfl) ?_))) .nil)) rfl (hlp) (by first | exact .v _ | exact D.Flat.tupF (by repeat first | exact trivial | refine ⟨.v _, ?_⟩) | exact D.Flat.aggF (by repeat first | exact trivial | refine ⟨.v _, ?_⟩))) ?_
          refine rg_q (q_assign (x := .d (.v _)) rfl) ?_
          refine rg_nil ?_
          refine aops_nil ?_
          change Awp _ _ _ _ _
          refine awp_seq ?_
          refine awp_region 2 mixed (by kernel_rfl) ?_
          refine rg_q (q_move (x := .d (.v _)) rfl) ?_
          refine rg_q (q_geq rfl rfl) ?_
          refine rg_nil ?_
          refine aops_nil ?_
          change Awp _ _ _ _ _
          refine awp_cond rfl (fun hc11 => ?_) (fun hc11 => ?_)
          ·
            (try simp only [decide_eq_true_eq, decide_eq_false_iff_not, Bool.and_eq_true, Bool.or_eq_true, Bool.and_eq_false_iff, Bool.or_eq_false_iff, Bool.not_eq_true', Bool.not_eq_false', Bool.not_true, Bool.not_false, bif_and, bif_or, Bool.not_not, ne_eq, Decidable.not_not, not_true_eq_false, not_false_eq_true, Int.not_le, Int.not_lt] at hc11)
            obtain ⟨a, x, rfl, hxa, hd, hmin, hwa, hke⟩ := hca.resolve_left (fun h => by omega)
            obtain ⟨w1, w2, w3, w4⟩ := hev x (List.mem_of_getElem? hxa)
            obtain ⟨c0, hc0⟩ : ∃ c : Int, x.minute + s.lasts = c := ⟨_, rfl⟩
            have hbase : (accS l B s y0 (s.needs.take 0)).2 = true → c0 = (accS l B s y0 (s.needs.take 0)).1 := fun _ => by rw [accS_zero, ← hc0, hmin]
            refine awp_region 14 mixed (by kernel_rfl) ?_
            first | refine rg_q (q_move (x := .d (.sl _ _)) rfl) ?_ | refine rg_q (q_move (x := .rs _) rfl) ?_ | refine rg_q (q_move (x := .d (.v _)) rfl) ?_
            refine rg_q (q_move (x := .d (.v _)) rfl) ?_
            first | refine rg_q (q_move (x := .d (.sl _ _)) rfl) ?_ | refine rg_q (q_move (x := .rs _) rfl) ?_ | refine rg_q (q_move (x := .d (.v _)) rfl) ?_
            refine rg_q (q_move (x := .d (.v _)) rfl) ?_
            first | refine rg_q (q_indexAddr sl41 rfl rfl (by (first | omega | (simp only; omega) | (simp only [List.length_map, List.length_set, List.length_append, List.length_take, List.length_range]; omega))) (map_at (by (first | omega | (simp only; omega) | (simp only [List.length_map, List.length_set, List.length_append, List.length_take, List.length_range]; omega))) hs)) ?_ | refine rg_q (q_indexAddr sl41 rfl rfl (by (first | omega | (simp only; omega) | (simp only [List.length_map, List.length_set, List.length_append, List.length_take, List.length_range]; omega))) (map_at (by (first | omega | (simp only; omega) | (simp only [List.length_map, List.length_set, List.length_append, List.length_take, List.length_range]; omega))) hn)) ?_ | refine rg_q (q_indexAddr sl41 rfl rfl (by (first | omega | (simp only; omega) | (simp only [List.length_map, List.length_set, List.length_append, List.length_take, List.length_range]; omega))) (map_at (by (first | omega | (simp only; omega) | (simp only [List.length_map, List.length_set, List.length_append, List.length_take, List.length_range]; omega))) hxa)) ?_ | refine rg_q (q_indexAddr sl41 rfl rfl (by (first | omega | (simp only; omega) | (simp only [List.length_map, List.length_set, List.length_append, List.length_take, List.length_range]; omega))) (map_at (by (first | omega | (simp only; omega) | (simp only [List.length_map, List.length_set, List.length_append, List.length_take, List.length_range]; omega))) hvm)) ?_ | refine rg_q (q_indexAddr_rs sl41 rfl rfl rfl (by (first | omega | (simp only; omega) | (simp only [List.length_map, List.length_set, List.length_append, List.length_take, List.length_range]; omega))) (by (first | omega | (simp only; omega) | (simp only [List.length_map, List.length_set, List.length_append, List.length_take, List.length_range]; omega)))) ?_
            first | refine rg_q (q_fieldAddr fld90_0 rfl) ?_ | refine rg_q (q_fieldAddr_ref fld90_0 rfl) ?_
            first | refine rg_q (q_load sz3 rfl rfl) ?_ | refine rg_q (q_load_ref sz3 rfl rfl rfl) ?_ | refine rg_q (q_load_tb (x := .d _) sz3 rfl rfl rfl) ?_ | refine rg_q (q_load_tb (x := .rs _) sz3 rfl rfl rfl) ?_
            first | refine rg_q (q_move (x := .d (.sl _ _)) rfl) ?_ | refine rg_q (q_move (x := .rs _) rfl) ?_ | refine rg_q (q_move (x := .d (.v _)) rfl) ?_
            refine rg_q (q_move (x := .d (.v _)) rfl) ?_
            first | refine rg_q (q_indexAddr sl40 rfl rfl (by (first | omega | (simp only; omega) | (simp only [List.length_map, List.length_set, List.length_append, List.length_take, List.length_range]; omega))) (map_at (by (first | omega | (simp only; omega) | (simp only [List.length_map, List.length_set, List.length_append, List.length_take, List.length_range]; omega))) hs)) ?_ | refine rg_q (q_indexAddr sl40 rfl rfl (by (first | omega | (simp only; omega) | (simp only [List.length_map, List.length_set, List.length_append, List.length_take, List.length_range]; omega))) (map_at (by (first | omega | (simp only; omega) | (simp only [List.length_map, List.length_set, List.length_append, List.length_take, List.length_range]; omega))) hn)) ?_ | refine rg_q (q_indexAddr sl40 rfl rfl (by (first | omega | (simp only; omega) | (simp only [List.length_map, List.length_set, List.length_append, List.length_take, List.length_range]; omega))) (map_at (by (first | omega | (simp only; omega) | (simp only [List.length_map, List.length_set, List.length_append, List.length_take, List.length_range]; omega))) hxa)) ?_ | refine rg_q (q_indexAddr sl40 rfl rfl (by (first | omega | (simp only; omega) | (simp only [List.length_map, List.length_set, List.length_append, List.length_take, List.length_range]; omega))) (map_at (by (first | omega | (simp only; omega) | (simp only [List.length_map, List.length_set, List.length_append, List.length_take, List.length_range]; omega))) hvm)) ?_ | refine rg_q (q_indexAddr_rs sl40 rfl rfl rfl (by (first | omega | (simp only; omega) | (simp only [List.length_map, List.length_set, List.length_append, List.length_take, List.length_range]; omega))) (by (first | omega | (simp only; omega) | (simp only [List.length_map, List.length_set, List.length_append, List.length_take, List.length_range]; omega)))) ?_
            first | refine rg_q (q_fieldAddr fld87_1 rfl) ?_ | refine rg_q (q_fieldAddr_ref fld87_1 rfl) ?_
            first | refine rg_q (q_load sz3 rfl rfl) ?_ | refine rg_q (q_load_ref sz3 rfl rfl rfl) ?_ | refine rg_q (q_load_tb (x := .d _) sz3 rfl rfl rfl) ?_ | refine rg_q (q_load_tb (x := .rs _) sz3 rfl rfl rfl) ?_
            refine rg_q (q_add rfl rfl (In64.mk (by (first | omega | (simp only; omega) | (simp only [List.length_map, List.length_set, List.length_append, List.length_take, List.length_range]; omega))) (by (first | omega | (simp only; omega) | (simp only [List.length_map, List.length_set, List.length_append, List.length_take, List.length_range]; omega))))) ?_
            first | refine rg_q (q_indexAddr sl25 rfl rfl (by (first | omega | (simp only; omega) | (simp only [List.length_map, List.length_set, List.length_append, List.length_take, List.length_range]; omega))) (map_at (by (first | omega | (simp only; omega) | (simp only [List.length_map, List.length_set, List.length_append, List.length_take, List.length_range]; omega))) hs)) ?_ | refine rg_q (q_indexAddr sl25 rfl rfl (by (first | omega | (simp only; omega) | (simp only [List.length_map, List.length_set, List.length_append, List.length_take, List.length_range]; omega))) (map_at (by (first | omega | (simp only; omega) | (simp only [List.length_map, List.length_set, List.length_append, List.length_take, List.length_range]; omega))) hn)) ?_ | refine rg_q (q_indexAddr sl25 rfl rfl (by (first | omega | (simp only; omega) | (simp only [List.length_map, List.length_set, List.length_append, List.length_take, List.length_range]; omega))) (map_at (by (first | omega | (simp only; omega) | (simp only [List.length_map, List.length_set, List.length_append, List.length_take, List.length_range]; omega))) hxa)) ?_ | refine rg_q (q_indexAddr sl25 rfl rfl (by (first | omega | (simp only; omega) | (simp only [List.length_map, List.length_set, List.length_append, List.length_take, List.length_range]; omega))) (map_at (by (first | omega | (simp only; omega) | (simp only [List.length_map, List.length_set, List.length_append, List.length_take, List.length_range]; omega))) hvm)) ?_ | refine rg_q (q_indexAddr_rs sl25 rfl rfl rfl (by (first | omega | (simp only; omega) | (simp only [List.length_map, List.length_set, List.length_append, List.length_take, List.length_range]; omega))) (by (first | omega | (simp only; omega) | (simp only [List.length_map, List.length_set, List.length_append, List.length_take, List.length_range]; omega)))) ?_
            refine rg_nil ?_
            refine aops_store_row sz3 rfl rfl (by first | exact .inl rfl | exact .inr ⟨_, rfl⟩) rfl rfl (i := k) (j := 0) (es' := (out.set k c0).map iC) (by omega) (map_get hok2) (by decide) ((set_map iC _ _ c0 (by rw [← hc0]; rfl)).trans (by rw [List.set_set])) ?_
            refine aops_nil ?_
            change Awp _ _ _ _ _
            refine awp_seq ?_
            refine awp_region 1 mixed (by kernel_rfl) ?_
            refine rg_q (q_assign (x := .d (.v _)) rfl) ?_
            refine rg_nil ?_
            refine aops_nil ?_
            change Awp _ _ _ _ _
            refine awp_block ?_
            refine awp_loopH [11, 67, 68, 69, 70, 71, 72, 73, 74, 75, 76, 77, 78, 79, 80, 81, 82, 83, 84, 85, 86, 87, 88, 89, 90, 91, 92, 93, 94, 95] [39] (α := Nat × Int) (fun p => [(11, T.i (p.1 : Int))]) (fun p => [(39, .row 3 1 ((out.set k p.2).map iC))]) (fun p => p.1 ≤ s.needs.length ∧ -1 ≤ p.2 ∧ p.2 ≤ 101000000 ∧ ((accS l B s y0 (s.needs.take p.1)).2 = true → p.2 = (accS l B s y0 (s.needs.take p.1)).1)) (fun p => s.needs.length - p.1) (0, c0) ⟨Nat.zero_le _, by simp only; omega, by simp only; omega, hbase⟩ ?_ ?_
            · exact le_head (ms := [39]) (by repeat (first | exact Out.refl _ | exact Out.head rfl rfl | (refine Out.put ?_ rfl) | (refine Out.site ?_ rfl) | (refine Out.putn ?_) | (refine Out.headIn ?_ rfl rfl rfl) | (refine Out.called ?_ rfl rfl))) ⟨(by first | rfl | (show Site.row 3 1 (List.map iC (out.set k (-1))) = _; rw [hc0]; done)), trivial⟩ ⟨(by first | rfl | (show Site.row 3 1 (List.map iC (out.set k (-1))) = _; rw [hc0]; done)), trivial⟩ rfl rfl rfl rfl
            ·
              intro ⟨j, cur⟩ ⟨hj, hcu1, hcu2, hcur⟩
              simp only at hj hcu1 hcu2 hcur
              refine awp_seq ?_
              refine awp_seq ?_
              refine awp_region 8 mixed (by kernel_rfl) ?_
              refine rg_q (q_move (x := .d (.v _)) rfl) ?_
              first | refine rg_q (q_move (x := .d (.sl _ _)) rfl) ?_ | refine rg_q (q_move (x := .rs _) rfl) ?_ | refine rg_q (q_move (x := .d (.v _)) rfl) ?_
              refine rg_q (q_move (x := .d (.v _)) rfl) ?_
              first | refine rg_q (q_indexAddr sl40 rfl rfl (by (first | omega | (simp only; omega) | (simp only [List.length_map, List.length_set, List.length_append, List.length_take, List.length_range]; omega))) (map_at (by (first | omega | (simp only; omega) | (simp only [List.length_map, List.length_set, List.length_append, List.length_take, List.length_range]; omega))) hs)) ?_ | refine rg_q (q_indexAddr sl40 rfl rfl (by (first | omega | (simp only; omega) | (simp only [List.length_map, List.length_set, List.length_append, List.length_take, List.length_range]; omega))) (map_at (by (first | omega | (simp only; omega) | (simp only [List.length_map, List.length_set, List.length_append, List.length_take, List.length_range]; omega))) hn)) ?_ | refine rg_q (q_indexAddr sl40 rfl rfl (by (first | omega | (simp only; omega) | (simp only [List.length_map, List.length_set, List.length_append, List.length_take, List.length_range]; omega))) (map_at (by (first | omega | (simp only; omega) | (simp only [List.length_map, List.length_set, List.length_append, List.length_take, List.length_range]; omega))) hxa)) ?_ | refine rg_q (q_indexAddr sl40 rfl rfl (by (first | omega | (simp only; omega) | (simp only [List.length_map, List.length_set, List.length_append, List.length_take, List.length_range]; omega))) (map_at (by (first | omega | (simp only; omega) | (simp only [List.length_map, List.length_set, List.length_append, List.length_take, List.length_range]; omega))) hvm)) ?_ | refine rg_q (q_indexAddr_rs sl40 rfl rfl rfl (by (first | omega | (simp only; omega) | (simp only [List.length_map, List.length_set, List.length_append, List.length_take, List.length_range]; omega))) (by (first | omega | (simp only; omega) | (simp only [List.length_map, List.length_set, List.length_append, List.length_take, List.length_range]; omega)))) ?_
              first | refine rg_q (q_fieldAddr fld87_3 rfl) ?_ | refine rg_q (q_fieldAddr_ref fld87_3 rfl) ?_
              first | refine rg_q (q_load sz25 rfl rfl) ?_ | refine rg_q (q_load_ref sz25 rfl rfl rfl) ?_ | refine rg_q (q_load_tb (x := .d _) sz25 rfl rfl rfl) ?_ | refine rg_q (q_load_tb (x := .rs _) sz25 rfl rfl rfl) ?_
              first | refine rg_q (q_len isl25 rfl (by first | exact len_map _ _ | rfl)) ?_ | refine rg_q (q_len_rs isl25 rfl rfl) ?_ | refine rg_q (q_len_nil isl25 rfl) ?_
              refine rg_q (q_lss rfl rfl) ?_
              refine rg_nil ?_
              refine aops_nil ?_
              change Awp _ _ _ _ _
              first | refine awp_len (t := 72) rfl (fun hl72 => ?_) | skip
              (try simp only [List.length_map] at hl72)
              refine awp_cond rfl (fun hc14 => ?_) (fun hc14 => ?_)
              ·
                (try simp only [decide_eq_true_eq, decide_eq_false_iff_not, Bool.and_eq_true, Bool.or_eq_true, Bool.and_eq_false_iff, Bool.or_eq_false_iff, Bool.not_eq_true', Bool.not_eq_false', Bool.not_true, Bool.not_false, bif_and, bif_or, Bool.not_not, ne_eq, Decidable.not_not, not_true_eq_false, not_false_eq_true, Int.not_le, Int.not_lt] at hc14)
                have hjlt : j < s.needs.length := by first | omega | (simp only [List.length_map] at hc14; omega)
                obtain ⟨z2, hn⟩ : ∃ z, s.needs[j]? = some z := ⟨_, List.getElem?_eq_getElem hjlt⟩
                obtain ⟨hz1, hz2⟩ := hse z2 (List.mem_of_getElem? hn)
                obtain ⟨q, rfl⟩ : ∃ q : Nat, z2 = (q : Int) := ⟨z2.toNat, by omega⟩
                obtain ⟨v, hv1, hv2, hv3, hv4⟩ := ho q (by omega)
                have hvq : (out.set k cur)[q]? = some v := by rw [List.getElem?_set_ne (by omega)]; exact hv1
                have hvk : (out.set k cur)[k]? = some cur := List.getElem?_set_self (by omega)
                have hnx : (accS l B s y0 (s.needs.take (j + 1))).2 = true → min cur v = (accS l B s y0 (s.needs.take (j + 1))).1 := fun h => by
                  rw [accS_next l B s y0 j _ hn] at h ⊢
                  simp only [Bool.and_eq_true] at h
                  rw [hcur h.1, hv4 h.2]; rfl
                refine awp_skip ?_
                change Awp _ _ _ _ _
                refine awp_seq ?_
                refine awp_block ?_
                refine awp_region 19 mixed (by kernel_rfl) ?_
                first | refine rg_q (q_move (x := .d (.sl _ _)) rfl) ?_ | refine rg_q (q_move (x := .rs _) rfl) ?_ | refine rg_q (q_move (x := .d (.v _)) rfl) ?_
                refine rg_q (q_move (x := .d (.v _)) rfl) ?_
                first | refine rg_q (q_move (x := .d (.sl _ _)) rfl) ?_ | refine rg_q (q_move (x := .rs _) rfl) ?_ | refine rg_q (q_move (x := .d (.v _)) rfl) ?_
                refine rg_q (q_move (x := .d (.v _)) rfl) ?_
                first | refine rg_q (q_indexAddr sl25 rfl rfl (by (first | omega | (simp only; omega) | (simp only [List.length_map, List.length_set, List.length_append, List.length_take, List.length_range]; omega))) (map_at (by (first | omega | (simp only; omega) | (simp only [List.length_map, List.length_set, List.length_append, List.length_take, List.length_range]; omega))) hs)) ?_ | refine rg_q (q_indexAddr sl25 rfl rfl (by (first | omega | (simp only; omega) | (simp only [List.length_map, List.length_set, List.length_append, List.length_take, List.length_range]; omega))) (map_at (by (first | omega | (simp only; omega) | (simp only [List.length_map, List.length_set, List.length_append, List.length_take, List.length_range]; omega))) hn)) ?_ | refine rg_q (q_indexAddr sl25 rfl rfl (by (first | omega | (simp only; omega) | (simp only [List.length_map, List.length_set, List.length_append, List.length_take, List.length_range]; omega))) (map_at (by (first | omega | (simp only; omega) | (simp only [List.length_map, List.length_set, List.length_append, List.length_take, List.length_range]; omega))) hxa)) ?_ | refine rg_q (q_indexAddr sl25 rfl rfl (by (first | omega | (simp only; omega) | (simp only [List.length_map, List.length_set, List.length_append, List.length_take, List.length_range]; omega))) (map_at (by (first | omega | (simp only; omega) | (simp only [List.length_map, List.length_set, List.length_append, List.length_take, List.length_range]; omega))) hvm)) ?_ | refine rg_q (q_indexAddr_rs sl25 rfl rfl rfl (by (first | omega | (simp only; omega) | (simp only [List.length_map, List.length_set, List.length_append, List.length_take, List.length_range]; omega))) (by (first | omega | (simp only; omega) | (simp only [List.length_map, List.length_set, List.length_append, List.length_take, List.length_range]; omega)))) ?_
                first | refine rg_q (q_load_row sz3 rfl rfl (i := k) (j := 0) (by omega) (map_get hvk) rfl) ?_ | refine rg_q (q_load sz3 rfl rfl) ?_ | refine rg_q (q_load_ref sz3 rfl rfl rfl) ?_ | refine rg_q (q_load_tb (x := .d _) sz3 rfl rfl rfl) ?_ | refine rg_q (q_load_tb (x := .rs _) sz3 rfl rfl rfl) ?_
                first | refine rg_q (q_move (x := .d (.sl _ _)) rfl) ?_ | refine rg_q (q_move (x := .rs _) rfl) ?_ | refine rg_q (q_move (x := .d (.v _)) rfl) ?_
                first | refine rg_q (q_move (x := .d (.sl _ _)) rfl) ?_ | refine rg_q (q_move (x := .rs _) rfl) ?_ | refine rg_q (q_move (x := .d (.v _)) rfl) ?_
                refine rg_q (q_move (x := .d (.v _)) rfl) ?_
                first | refine rg_q (q_indexAddr sl40 rfl rfl (by (first | omega | (simp only; omega) | (simp only [List.length_map, List.length_set, List.length_append, List.length_take, List.length_range]; omega))) (map_at (by (first | omega | (simp only; omega) | (simp only [List.length_map, List.length_set, List.length_append, List.length_take, List.length_range]; omega))) hs)) ?_ | refine rg_q (q_indexAddr sl40 rfl rfl (by (first | omega | (simp only; omega) | (simp only [List.length_map, List.length_set, List.length_append, List.length_take, List.length_range]; omega))) (map_at (by (first | omega | (simp only; omega) | (simp only [List.length_map, List.length_set, List.length_append, List.length_take, List.length_range]; omega))) hn)) ?_ | refine rg_q (q_indexAddr sl40 rfl rfl (by (first | omega | (simp only; omega) | (simp only [List.length_map, List.length_set, List.length_append, List.length_take, List.length_range]; omega))) (map_at (by (first | omega | (simp only; omega) | (simp only [List.length_map, List.length_set, List.length_append, List.length_take, List.length_range]; omega))) hxa)) ?_ | refine rg_q (q_indexAddr sl40 rfl rfl (by (first | omega | (simp only; omega) | (simp only [List.length_map, List.length_set, List.length_append, List.length_take, List.length_range]; omega))) (map_at (by (first | omega | (simp only; omega) | (simp only [List.length_map, List.length_set, List.length_append, List.length_take, List.length_range]; omega))) hvm)) ?_ | refine rg_q (q_indexAddr_rs sl40 rfl rfl rfl (by (first | omega | (simp only; omega) | (simp only [List.length_map, List.length_set, List.length_append, List.length_take, List.length_range]; omega))) (by (first | omega | (simp only; omega) | (simp only [List.length_map, List.length_set, List.length_append, List.length_take, List.length_range]; omega)))) ?_
                first | refine rg_q (q_fieldAddr fld87_3 rfl) ?_ | refine rg_q (q_fieldAddr_ref fld87_3 rfl) ?_
                first | refine rg_q (q_load sz25 rfl rfl) ?_ | refine rg_q (q_load_ref sz25 rfl rfl rfl) ?_ | refine rg_q (q_load_tb (x := .d _) sz25 rfl rfl rfl) ?_ | refine rg_q (q_load_tb (x := .rs _) sz25 rfl rfl rfl) ?_
                refine rg_q (q_move (x := .d (.v _)) rfl) ?_
                first | refine rg_q (q_indexAddr sl25 rfl rfl (by (first | omega | (simp only; omega) | (simp only [List.length_map, List.length_set, List.length_append, List.length_take, List.length_range]; omega))) (map_at (by (first | omega | (simp only; omega) | (simp only [List.length_map, List.length_set, List.length_append, List.length_take, List.length_range]; omega))) hs)) ?_ | refine rg_q (q_indexAddr sl25 rfl rfl (by (first | omega | (simp only; omega) | (simp only [List.length_map, List.length_set, List.length_append, List.length_take, List.length_range]; omega))) (map_at (by (first | omega | (simp only; omega) | (simp only [List.length_map, List.length_set, List.length_append, List.length_take, List.length_range]; omega))) hn)) ?_ | refine rg_q (q_indexAddr sl25 rfl rfl (by (first | omega | (simp only; omega) | (simp only [List.length_map, List.length_set, List.length_append, List.length_take, List.length_range]; omega))) (map_at (by (first | omega | (simp only; omega) | (simp only [List.length_map, List.length_set, List.length_append, List.length_take, List.length_range]; omega))) hxa)) ?_ | refine rg_q (q_indexAddr sl25 rfl rfl (by (first | omega | (simp only; omega) | (simp only [List.length_map, List.length_set, List.length_append, List.length_take, List.length_range]; omega))) (map_at (by (first | omega | (simp only; omega) | (simp only [List.length_map, List.length_set, List.length_append, List.length_take, List.length_range]; omega))) hvm)) ?_ | refine rg_q (q_indexAddr_rs sl25 rfl rfl rfl (by (first | omega | (simp only; omega) | (simp only [List.length_map, List.length_set, List.length_append, List.length_take, List.length_range]; omega))) (by (first | omega | (simp only; omega) | (simp only [List.length_map, List.length_set, List.length_append, List.length_take, List.length_range]; omega)))) ?_
                first | refine rg_q (q_load sz3 rfl rfl) ?_ | refine rg_q (q_load_ref sz3 rfl rfl rfl) ?_ | refine rg_q (q_load_tb (x := .d _) sz3 rfl rfl rfl) ?_ | refine rg_q (q_load_tb (x := .rs _) sz3 rfl rfl rfl) ?_
                first | refine rg_q (q_indexAddr sl25 rfl rfl (by (first | omega | (simp only; omega) | (simp only [List.length_map, List.length_set, List.length_append, List.length_take, List.length_range]; omega))) (map_at (by (first | omega | (simp only; omega) | (simp only [List.length_map, List.length_set, List.length_append, List.length_take, List.length_range]; omega))) hs)) ?_ | refine rg_q (q_indexAddr sl25 rfl rfl (by (first | omega | (simp only; omega) | (simp only [List.length_map, List.length_set, List.length_append, List.length_take, List.length_range]; omega))) (map_at (by (first | omega | (simp only; omega) | (simp only [List.length_map, List.length_set, List.length_append, List.length_take, List.length_range]; omega))) hn)) ?_ | refine rg_q (q_indexAddr sl25 rfl rfl (by (first | omega | (simp only; omega) | (simp only [List.length_map, List.length_set, List.length_append, List.length_take, List.length_range]; omega))) (map_at (by (first | omega | (simp only; omega) | (simp only [List.length_map, List.length_set, List.length_append, List.length_take, List.length_range]; omega))) hxa)) ?_ | refine rg_q (q_indexAddr sl25 rfl rfl (by (first | omega | (simp only; omega) | (simp only [List.length_map, List.length_set, List.length_append, List.length_take, List.length_range]; omega))) (map_at (by (first | omega | (simp only; omega) | (simp only [List.length_map, List.length_set, List.length_append, List.length_take, List.length_range]; omega))) hvm)) ?_ | refine rg_q (q_indexAddr_rs sl25 rfl rfl rfl (by (first | omega | (simp only; omega) | (simp only [List.length_map, List.length_set, List.length_append, List.length_take, List.length_range]; omega))) (by (first | omega | (simp only; omega) | (simp only [List.length_map, List.length_set, List.length_append, List.length_take, List.length_range]; omega)))) ?_
                first | refine rg_q (q_load_row sz3 rfl rfl (i := q) (j := 0) (by omega) (map_get hvq) rfl) ?_ | refine rg_q (q_load sz3 rfl rfl) ?_ | refine rg_q (q_load_ref sz3 rfl rfl rfl) ?_ | refine rg_q (q_load_tb (x := .d _) sz3 rfl rfl rfl) ?_ | refine rg_q (q_load_tb (x := .rs _) sz3 rfl rfl rfl) ?_
                refine rg_q (q_min rfl rfl) ?_
                first | refine rg_q (q_indexAddr sl25 rfl rfl (by (first | omega | (simp only; omega) | (simp only [List.length_map, List.length_set, List.length_append, List.length_take, List.length_range]; omega))) (map_at (by (first | omega | (simp only; omega) | (simp only [List.length_map, List.length_set, List.length_append, List.length_take, List.length_range]; omega))) hs)) ?_ | refine rg_q (q_indexAddr sl25 rfl rfl (by (first | omega | (simp only; omega) | (simp only [List.length_map, List.length_set, List.length_append, List.length_take, List.length_range]; omega))) (map_at (by (first | omega | (simp only; omega) | (simp only [List.length_map, List.length_set, List.length_append, List.length_take, List.length_range]; omega))) hn)) ?_ | refine rg_q (q_indexAddr sl25 rfl rfl (by (first | omega | (simp only; omega) | (simp only [List.length_map, List.length_set, List.length_append, List.length_take, List.length_range]; omega))) (map_at (by (first | omega | (simp only; omega) | (simp only [List.length_map, List.length_set, List.length_append, List.length_take, List.length_range]; omega))) hxa)) ?_ | refine rg_q (q_indexAddr sl25 rfl rfl (by (first | omega | (simp only; omega) | (simp only [List.length_map, List.length_set, List.length_append, List.length_take, List.length_range]; omega))) (map_at (by (first | omega | (simp only; omega) | (simp only [List.length_map, List.length_set, List.length_append, List.length_take, List.length_range]; omega))) hvm)) ?_ | refine rg_q (q_indexAddr_rs sl25 rfl rfl rfl (by (first | omega | (simp only; omega) | (simp only [List.length_map, List.length_set, List.length_append, List.length_take, List.length_range]; omega))) (by (first | omega | (simp only; omega) | (simp only [List.length_map, List.length_set, List.length_append, List.length_take, List.length_range]; omega)))) ?_
                refine rg_nil ?_
                refine aops_store_row sz3 rfl rfl (by first | exact .inl rfl | exact .inr ⟨_, rfl⟩) rfl rfl (i := k) (j := 0) (es' := (out.set k (min cur v)).map iC) (by omega) (map_get hvk) (by decide) ((set_map iC _ _ (min cur v) rfl).trans (by rw [List.set_set])) ?_
                refine aops_nil ?_
                change Awp _ _ _ _ _
                refine awp_region 3 mixed (by kernel_rfl) ?_
                refine rg_q (q_move (x := .d (.v _)) rfl) ?_
                refine rg_q (q_add rfl rfl (In64.mk (by (first | omega | (simp only; omega) | (simp only [List.length_map, List.length_set, List.length_append, List.length_take, List.length_range]; omega))) (by (first | omega | (simp only; omega) | (simp only [List.length_map, List.length_set, List.length_append, List.length_take, List.length_range]; omega))))) ?_
                refine rg_q (q_assign (x := .d (.v _)) rfl) ?_
                refine rg_nil ?_
                refine aops_nil ?_
                refine ⟨(j + 1, min cur v), ⟨by simp only; omega, by simp only; omega, by simp only; omega, hnx⟩, by simp only; omega, ?_⟩
                exact le_head (ms := [39]) (by repeat (first | exact Out.refl _ | exact Out.head rfl rfl | (refine Out.put ?_ rfl) | (refine Out.site ?_ rfl) | (refine Out.putn ?_) | (refine Out.headIn ?_ rfl rfl rfl) | (refine Out.called ?_ rfl rfl))) ⟨(by first | rfl | (show Site.row 3 1 (List.map iC (out.set k (-1))) = _; rw [hc0]; done)), trivial⟩ ⟨(by first | rfl | (show Site.row 3 1 (List.map iC (out.set k (-1))) = _; rw [hc0]; done)), trivial⟩ rfl rfl rfl rfl
              ·
                (try simp only [decide_eq_true_eq, decide_eq_false_iff_not, Bool.and_eq_true, Bool.or_eq_true, Bool.and_eq_false_iff, Bool.or_eq_false_iff, Bool.not_eq_true', Bool.not_eq_false', Bool.not_true, Bool.not_false, bif_and, bif_or, Bool.not_not, ne_eq, Decidable.not_not, not_true_eq_false, not_false_eq_true, Int.not_le, Int.not_lt] at hc14)
                have hjn : s.needs.length ≤ j := by first | omega | (simp only [List.length_map] at hc14; omega)
                rw [List.take_of_length_le hjn, ← hue] at hcur
                refine awp_exit ?_
                change Awp _ _ _ _ _
                refine awp_region 3 mixed (by kernel_rfl) ?_
                refine rg_q (q_move (x := .d (.v _)) rfl) ?_
                refine rg_q (q_add rfl rfl (In64.mk (by (first | omega | (simp only; omega) | (simp only [List.length_map, List.length_set, List.length_append, List.length_take, List.length_range]; omega))) (by (first | omega | (simp only; omega) | (simp only [List.length_map, List.length_set, List.length_append, List.length_take, List.length_range]; omega))))) ?_
                refine rg_q (q_assign (x := .d (.v _)) rfl) ?_
                refine rg_nil ?_
                refine aops_nil ?_
                refine ⟨(k + 1, out.set k cur), ⟨by simp only; omega, by simp [hol], (fun i hi => if e : i = k then ⟨cur, by subst e; exact List.getElem?_set_self (by omega), hcu1, hcu2, by subst e; exact hcur⟩ else (by simp only at hi; obtain ⟨v, a1, a2⟩ := ho i (by omega); exact ⟨v, by simp only; rw [List.getElem?_set_ne (Ne.symm e)]; exact a1, a2⟩))⟩, by simp only; omega, ?_⟩
                exact le_head (ms := [39]) (by repeat (first | exact Out.refl _ | exact Out.head rfl rfl | (refine Out.put ?_ rfl) | (refine Out.site ?_ rfl) | (refine Out.putn ?_) | (refine Out.headIn ?_ rfl rfl rfl) | (refine Out.called ?_ rfl rfl))) ⟨(by first | rfl | (show Site.row 3 1 (List.replicate (m + 1) [D.v (.int .i64 0)]) = _; simp [iC]; done)), trivial⟩ ⟨(by first | rfl | (show Site.row 3 1 (List.replicate (m + 1) [D.v (.int .i64 0)]) = _; simp [iC]; done)), trivial⟩ rfl rfl rfl rfl
          ·
            (try simp only [decide_eq_true_eq, decide_eq_false_iff_not, Bool.and_eq_true, Bool.or_eq_true, Bool.and_eq_false_iff, Bool.or_eq_false_iff, Bool.not_eq_true', Bool.not_eq_false', Bool.not_true, Bool.not_false, bif_and, bif_or, Bool.not_not, ne_eq, Decidable.not_not, not_true_eq_false, not_false_eq_true, Int.not_le, Int.not_lt] at hc11)
            have hd : y0.don = false := by
              rcases hca with ⟨_, h⟩ | ⟨a, x, h, _⟩
              · exact h
              · omega
            obtain ⟨c0, hc0⟩ : ∃ c : Int, (-1) = c := ⟨_, rfl⟩
            have hbase : (accS l B s y0 (s.needs.take 0)).2 = true → c0 = (accS l B s y0 (s.needs.take 0)).1 := fun h => by rw [accS_zero, hd] at h; cases h
            refine awp_skip ?_
            change Awp _ _ _ _ _
            refine awp_seq ?_
            refine awp_region 1 mixed (by kernel_rfl) ?_
            refine rg_q (q_assign (x := .d (.v _)) rfl) ?_
            refine rg_nil ?_
            refine aops_nil ?_
            change Awp _ _ _ _ _
            refine awp_block ?_
            refine awp_loopH [11, 67, 68, 69, 70, 71, 72, 73, 74, 75, 76, 77, 78, 79, 80, 81, 82, 83, 84, 85, 86, 87, 88, 89, 90, 91, 92, 93, 94, 95] [39] (α := Nat × Int) (fun p => [(11, T.i (p.1 : Int))]) (fun p => [(39, .row 3 1 ((out.set k p.2).map iC))]) (fun p => p.1 ≤ s.needs.length ∧ -1 ≤ p.2 ∧ p.2 ≤ 101000000 ∧ ((accS l B s y0 (s.needs.take p.1)).2 = true → p.2 = (accS l B s y0 (s.needs.take p.1)).1)) (fun p => s.needs.length - p.1) (0, c0) ⟨Nat.zero_le _, by simp only; omega, by simp only; omega, hbase⟩ ?_ ?_
            · exact le_head (ms := [39]) (by repeat (first | exact Out.refl _ | exact Out.head rfl rfl | (refine Out.put ?_ rfl) | (refine Out.site ?_ rfl) | (refine Out.putn ?_) | (refine Out.headIn ?_ rfl rfl rfl) | (refine Out.called ?_ rfl rfl))) ⟨(by first | rfl | (show Site.row 3 1 (List.map iC (out.set k (-1))) = _; rw [hc0]; done)), trivial⟩ ⟨(by first | rfl | (show Site.row 3 1 (List.map iC (out.set k (-1))) = _; rw [hc0]; done)), trivial⟩ rfl rfl rfl rfl
            ·
              intro ⟨j, cur⟩ ⟨hj, hcu1, hcu2, hcur⟩
              simp only at hj hcu1 hcu2 hcur
              refine awp_seq ?_
              refine awp_seq ?_
              refine awp_region 8 mixed (by kernel_rfl) ?_
              refine rg_q (q_move (x := .d (.v _)) rfl) ?_
              first | refine rg_q (q_move (x := .d (.sl _ _)) rfl) ?_ | refine rg_q (q_move (x := .rs _) rfl) ?_ | refine rg_q (q_move (x := .d (.v _)) rfl) ?_
              refine rg_q (q_move (x := .d (.v _)) rfl) ?_
              first | refine rg_q (q_indexAddr sl40 rfl rfl (by (first | omega | (simp only; omega) | (simp only [List.length_map, List.length_set, List.length_append, List.length_take, List.length_range]; omega))) (map_at (by (first | omega | (simp only; omega) | (simp only [List.length_map, List.length_set, List.length_append, List.length_take, List.length_range]; omega))) hs)) ?_ | refine rg_q (q_indexAddr sl40 rfl rfl (by (first | omega | (simp only; omega) | (simp only [List.length_map, List.length_set, List.length_append, List.length_take, List.length_range]; omega))) (map_at (by (first | omega | (simp only; omega) | (simp only [List.length_map, List.length_set, List.length_append, List.length_take, List.length_range]; omega))) hn)) ?_ | refine rg_q (q_indexAddr sl40 rfl rfl (by (first | omega | (simp only; omega) | (simp only [List.length_map, List.length_set, List.length_append, List.length_take, List.length_range]; omega))) (map_at (by (first | omega | (simp only; omega) | (simp only [List.length_map, List.length_set, List.length_append, List.length_take, List.length_range]; omega))) hxa)) ?_ | refine rg_q (q_indexAddr sl40 rfl rfl (by (first | omega | (simp only; omega) | (simp only [List.length_map, List.length_set, List.length_append, List.length_take, List.length_range]; omega))) (map_at (by (first | omega | (simp only; omega) | (simp only [List.length_map, List.length_set, List.length_append, List.length_take, List.length_range]; omega))) hvm)) ?_ | refine rg_q (q_indexAddr_rs sl40 rfl rfl rfl (by (first | omega | (simp only; omega) | (simp only [List.length_map, List.length_set, List.length_append, List.length_take, List.length_range]; omega))) (by (first | omega | (simp only; omega) | (simp only [List.length_map, List.length_set, List.length_append, List.length_take, List.length_range]; omega)))) ?_
              first | refine rg_q (q_fieldAddr fld87_3 rfl) ?_ | refine rg_q (q_fieldAddr_ref fld87_3 rfl) ?_
              first | refine rg_q (q_load sz25 rfl rfl) ?_ | refine rg_q (q_load_ref sz25 rfl rfl rfl) ?_ | refine rg_q (q_load_tb (x := .d _) sz25 rfl rfl rfl) ?_ | refine rg_q (q_load_tb (x := .rs _) sz25 rfl rfl rfl) ?_
              first | refine rg_q (q_len isl25 rfl (by first | exact len_map _ _ | rfl)) ?_ | refine rg_q (q_len_rs isl25 rfl rfl) ?_ | refine rg_q (q_len_nil isl25 rfl) ?_
              refine rg_q (q_lss rfl rfl) ?_
              refine rg_nil ?_
              refine aops_nil ?_
              change Awp _ _ _ _ _
              first | refine awp_len (t := 72) rfl (fun hl72 => ?_) | skip
              (try simp only [List.length_map] at hl72)
              refine awp_cond rfl (fun hc14 => ?_) (fun hc14 => ?_)
              ·
                (try simp only [decide_eq_true_eq, decide_eq_false_iff_not, Bool.and_eq_true, Bool.or_eq_true, Bool.and_eq_false_iff, Bool.or_eq_false_iff, Bool.not_eq_true', Bool.not_eq_false', Bool.not_true, Bool.not_false, bif_and, bif_or, Bool.not_not, ne_eq, Decidable.not_not, not_true_eq_false, not_false_eq_true, Int.not_le, Int.not_lt] at hc14)
                have hjlt : j < s.needs.length := by first | omega | (simp only [List.length_map] at hc14; omega)
                obtain ⟨z2, hn⟩ : ∃ z, s.needs[j]? = some z := ⟨_, List.getElem?_eq_getElem hjlt⟩
                obtain ⟨hz1, hz2⟩ := hse z2 (List.mem_of_getElem? hn)
                obtain ⟨q, rfl⟩ : ∃ q : Nat, z2 = (q : Int) := ⟨z2.toNat, by omega⟩
                obtain ⟨v, hv1, hv2, hv3, hv4⟩ := ho q (by omega)
                have hvq : (out.set k cur)[q]? = some v := by rw [List.getElem?_set_ne (by omega)]; exact hv1
                have hvk : (out.set k cur)[k]? = some cur := List.getElem?_set_self (by omega)
                have hnx : (accS l B s y0 (s.needs.take (j + 1))).2 = true → min cur v = (accS l B s y0 (s.needs.take (j + 1))).1 := fun h => by
                  rw [accS_next l B s y0 j _ hn] at h ⊢
                  simp only [Bool.and_eq_true] at h
                  rw [hcur h.1, hv4 h.2]; rfl
                refine awp_skip ?_
                change Awp _ _ _ _ _
                refine awp_seq ?_
                refine awp_block ?_
                refine awp_region 19 mixed (by kernel_rfl) ?_
                first | refine rg_q (q_move (x := .d (.sl _ _)) rfl) ?_ | refine rg_q (q_move (x := .rs _) rfl) ?_ | refine rg_q (q_move (x := .d (.v _)) rfl) ?_
                refine rg_q (q_move (x := .d (.v _)) rfl) ?_
                first | refine rg_q (q_move (x := .d (.sl _ _)) rfl) ?_ | refine rg_q (q_move (x := .rs _) rfl) ?_ | refine rg_q (q_move (x := .d (.v _)) rfl) ?_
                refine rg_q (q_move (x := .d (.v _)) rfl) ?_
                first | refine rg_q (q_indexAddr sl25 rfl rfl (by (first | omega | (simp only; omega) | (simp only [List.length_map, List.length_set, List.length_append, List.length_take, List.length_range]; omega))) (map_at (by (first | omega | (simp only; omega) | (simp only [List.length_map, List.length_set, List.length_append, List.length_take, List.length_range]; omega))) hs)) ?_ | refine rg_q (q_indexAddr sl25 rfl rfl (by (first | omega | (simp only; omega) | (simp only [List.length_map, List.length_set, List.length_append, List.length_take, List.length_range]; omega))) (map_at (by (first | omega | (simp only; omega) | (simp only [List.length_map, List.length_set, List.length_append, List.length_take, List.length_range]; omega))) hn)) ?_ | refine rg_q (q_indexAddr sl25 rfl rfl (by (first | omega | (simp only; omega) | (simp only [List.length_map, List.length_set, List.length_append, List.length_take, List.length_range]; omega))) (map_at (by (first | omega | (simp only; omega) | (simp only [List.length_map, List.length_set, List.length_append, List.length_take, List.length_range]; omega))) hxa)) ?_ | refine rg_q (q_indexAddr sl25 rfl rfl (by (first | omega | (simp only; omega) | (simp only [List.length_map, List.length_set, List.length_append, List.length_take, List.length_range]; omega))) (map_at (by (first | omega | (simp only; omega) | (simp only [List.length_map, List.length_set, List.length_append, List.length_take, List.length_range]; omega))) hvm)) ?_ | refine rg_q (q_indexAddr_rs sl25 rfl rfl rfl (by (first | omega | (simp only; omega) | (simp only [List.length_map, List.length_set, List.length_append, List.length_take, List.length_range]; omega))) (by (first | omega | (simp only; omega) | (simp only [List.length_map, List.length_set, List.length_append, List.length_take, List.length_range]; omega)))) ?_
                first | refine rg_q (q_load_row sz3 rfl rfl (i := k) (j := 0) (by omega) (map_get hvk) rfl) ?_ | refine rg_q (q_load sz3 rfl rfl) ?_ | refine rg_q (q_load_ref sz3 rfl rfl rfl) ?_ | refine rg_q (q_load_tb (x := .d _) sz3 rfl rfl rfl) ?_ | refine rg_q (q_load_tb (x := .rs _) sz3 rfl rfl rfl) ?_
                first | refine rg_q (q_move (x := .d (.sl _ _)) rfl) ?_ | refine rg_q (q_move (x := .rs _) rfl) ?_ | refine rg_q (q_move (x := .d (.v _)) rfl) ?_
                first | refine rg_q (q_move (x := .d (.sl _ _)) rfl) ?_ | refine rg_q (q_move (x := .rs _) rfl) ?_ | refine rg_q (q_move (x := .d (.v _)) rfl) ?_
                refine rg_q (q_move (x := .d (.v _)) rfl) ?_
                first | refine rg_q (q_indexAddr sl40 rfl rfl (by (first | omega | (simp only; omega) | (simp only [List.length_map, List.length_set, List.length_append, List.length_take, List.length_range]; omega))) (map_at (by (first | omega | (simp only; omega) | (simp only [List.length_map, List.length_set, List.length_append, List.length_take, List.length_range]; omega))) hs)) ?_ | refine rg_q (q_indexAddr sl40 rfl rfl (by (first | omega | (simp only; omega) | (simp only [List.length_map, List.length_set, List.length_append, List.length_take, List.length_range]; omega))) (map_at (by (first | omega | (simp only; omega) | (simp only [List.length_map, List.length_set, List.length_append, List.length_take, List.length_range]; omega))) hn)) ?_ | refine rg_q (q_indexAddr sl40 rfl rfl (by (first | omega | (simp only; omega) | (simp only [List.length_map, List.length_set, List.length_append, List.length_take, List.length_range]; omega))) (map_at (by (first | omega | (simp only; omega) | (simp only [List.length_map, List.length_set, List.length_append, List.length_take, List.length_range]; omega))) hxa)) ?_ | refine rg_q (q_indexAddr sl40 rfl rfl (by (first | omega | (simp only; omega) | (simp only [List.length_map, List.length_set, List.length_append, List.length_take, List.length_range]; omega))) (map_at (by (first | omega | (simp only; omega) | (simp only [List.length_map, List.length_set, List.length_append, List.length_take, List.length_range]; omega))) hvm)) ?_ | refine rg_q (q_indexAddr_rs sl40 rfl rfl rfl (by (first | omega | (simp only; omega) | (simp only [List.length_map, List.length_set, List.length_append, List.length_take, List.length_range]; omega))) (by (first | omega | (simp only; omega) | (simp only [List.length_map, List.length_set, List.length_append, List.length_take, List.length_range]; omega)))) ?_
                first | refine rg_q (q_fieldAddr fld87_3 rfl) ?_ | refine rg_q (q_fieldAddr_ref fld87_3 rfl) ?_
                first | refine rg_q (q_load sz25 rfl rfl) ?_ | refine rg_q (q_load_ref sz25 rfl rfl rfl) ?_ | refine rg_q (q_load_tb (x := .d _) sz25 rfl rfl rfl) ?_ | refine rg_q (q_load_tb (x := .rs _) sz25 rfl rfl rfl) ?_
                refine rg_q (q_move (x := .d (.v _)) rfl) ?_
                first | refine rg_q (q_indexAddr sl25 rfl rfl (by (first | omega | (simp only; omega) | (simp only [List.length_map, List.length_set, List.length_append, List.length_take, List.length_range]; omega))) (map_at (by (first | omega | (simp only; omega) | (simp only [List.length_map, List.length_set, List.length_append, List.length_take, List.length_range]; omega))) hs)) ?_ | refine rg_q (q_indexAddr sl25 rfl rfl (by (first | omega | (simp only; omega) | (simp only [List.length_map, List.length_set, List.length_append, List.length_take, List.length_range]; omega))) (map_at (by (first | omega | (simp only; omega) | (simp only [List.length_map, List.length_set, List.length_append, List.length_take, List.length_range]; omega))) hn)) ?_ | refine rg_q (q_indexAddr sl25 rfl rfl (by (first | omega | (simp only; omega) | (simp only [List.length_map, List.length_set, List.length_append, List.length_take, List.length_range]; omega))) (map_at (by (first | omega | (simp only; omega) | (simp only [List.length_map, List.length_set, List.length_append, List.length_take, List.length_range]; omega))) hxa)) ?_ | refine rg_q (q_indexAddr sl25 rfl rfl (by (first | omega | (simp only; omega) | (simp only [List.length_map, List.length_set, List.length_append, List.length_take, List.length_range]; omega))) (map_at (by (first | omega | (simp only; omega) | (simp only [List.length_map, List.length_set, List.length_append, List.length_take, List.length_range]; omega))) hvm)) ?_ | refine rg_q (q_indexAddr_rs sl25 rfl rfl rfl (by (first | omega | (simp only; omega) | (simp only [List.length_map, List.length_set, List.length_append, List.length_take, List.length_range]; omega))) (by (first | omega | (simp only; omega) | (simp only [List.length_map, List.length_set, List.length_append, List.length_take, List.length_range]; omega)))) ?_
                first | refine rg_q (q_load sz3 rfl rfl) ?_ | refine rg_q (q_load_ref sz3 rfl rfl rfl) ?_ | refine rg_q (q_load_tb (x := .d _) sz3 rfl rfl rfl) ?_ | refine rg_q (q_load_tb (x := .rs _) sz3 rfl rfl rfl) ?_
                first | refine rg_q (q_indexAddr sl25 rfl rfl (by (first | omega | (simp only; omega) | (simp only [List.length_map, List.length_set, List.length_append, List.length_take, List.length_range]; omega))) (map_at (by (first | omega | (simp only; omega) | (simp only [List.length_map, List.length_set, List.length_append, List.length_take, List.length_range]; omega))) hs)) ?_ | refine rg_q (q_indexAddr sl25 rfl rfl (by (first | omega | (simp only; omega) | (simp only [List.length_map, List.length_set, List.length_append, List.length_take, List.length_range]; omega))) (map_at (by (first | omega | (simp only; omega) | (simp only [List.length_map, List.length_set, List.length_append, List.length_take, List.length_range]; omega))) hn)) ?_ | refine rg_q (q_indexAddr sl25 rfl rfl (by (first | omega | (simp only; omega) | (simp only [List.length_map, List.length_set, List.length_append, List.length_take, List.length_range]; omega))) (map_at (by (first | omega | (simp only; omega) | (simp only [List.length_map, List.length_set, List.length_append, List.length_take, List.length_range]; omega))) hxa)) ?_ | refine rg_q (q_indexAddr sl25 rfl rfl (by (first | omega | (simp only; omega) | (simp only [List.length_map, List.length_set, List.length_append, List.length_take, List.length_range]; omega))) (map_at (by (first | omega | (simp only; omega) | (simp only [List.length_map, List.length_set, List.length_append, List.length_take, List.length_range]; omega))) hvm)) ?_ | refine rg_q (q_indexAddr_rs sl25 rfl rfl rfl (by (first | omega | (simp only; omega) | (simp only [List.length_map, List.length_set, List.length_append, List.length_take, List.length_range]; omega))) (by (first | omega | (simp only; omega) | (simp only [List.length_map, List.length_set, List.length_append, List.length_take, List.length_range]; omega)))) ?_
                first | refine rg_q (q_load_row sz3 rfl rfl (i := q) (j := 0) (by omega) (map_get hvq) rfl) ?_ | refine rg_q (q_load sz3 rfl rfl) ?_ | refine rg_q (q_load_ref sz3 rfl rfl rfl) ?_ | refine rg_q (q_load_tb (x := .d _) sz3 rfl rfl rfl) ?_ | refine rg_q (q_load_tb (x := .rs _) sz3 rfl rfl rfl) ?_
                refine rg_q (q_min rfl rfl) ?_
                first | refine rg_q (q_indexAddr sl25 rfl rfl (by (first | omega | (simp only; omega) | (simp only [List.length_map, List.length_set, List.length_append, List.length_take, List.length_range]; omega))) (map_at (by (first | omega | (simp only; omega) | (simp only [List.length_map, List.length_set, List.length_append, List.length_take, List.length_range]; omega))) hs)) ?_ | refine rg_q (q_indexAddr sl25 rfl rfl (by (first | omega | (simp only; omega) | (simp only [List.length_map, List.length_set, List.length_append, List.length_take, List.length_range]; omega))) (map_at (by (first | omega | (simp only; omega) | (simp only [List.length_map, List.length_set, List.length_append, List.length_take, List.length_range]; omega))) hn)) ?_ | refine rg_q (q_indexAddr sl25 rfl rfl (by (first | omega | (simp only; omega) | (simp only [List.length_map, List.length_set, List.length_append, List.length_take, List.length_range]; omega))) (map_at (by (first | omega | (simp only; omega) | (simp only [List.length_map, List.length_set, List.length_append, List.length_take, List.length_range]; omega))) hxa)) ?_ | refine rg_q (q_indexAddr sl25 rfl rfl (by (first | omega | (simp only; omega) | (simp only [List.length_map, List.length_set, List.length_append, List.length_take, List.length_range]; omega))) (map_at (by (first | omega | (simp only; omega) | (simp only [List.length_map, List.length_set, List.length_append, List.length_take, List.length_range]; omega))) hvm)) ?_ | refine rg_q (q_indexAddr_rs sl25 rfl rfl rfl (by (first | omega | (simp only; omega) | (simp only [List.length_map, List.length_set, List.length_append, List.length_take, List.length_range]; omega))) (by (first | omega | (simp only; omega) | (simp only [List.length_map, List.length_set, List.length_append, List.length_take, List.length_range]; omega)))) ?_
                refine rg_nil ?_
                refine aops_store_row sz3 rfl rfl (by first | exact .inl rfl | exact .inr ⟨_, rfl⟩) rfl rfl (i := k) (j := 0) (es' := (out.set k (min cur v)).map iC) (by omega) (map_get hvk) (by decide) ((set_map iC _ _ (min cur v) rfl).trans (by rw [List.set_set])) ?_
                refine aops_nil ?_
                change Awp _ _ _ _ _
                refine awp_region 3 mixed (by kernel_rfl) ?_
                refine rg_q (q_move (x := .d (.v _)) rfl) ?_
                refine rg_q (q_add rfl rfl (In64.mk (by (first | omega | (simp only; omega) | (simp only [List.length_map, List.length_set, List.length_append, List.length_take, List.length_range]; omega))) (by (first | omega | (simp only; omega) | (simp only [List.length_map, List.length_set, List.length_append, List.length_take, List.length_range]; omega))))) ?_
                refine rg_q (q_assign (x := .d (.v _)) rfl) ?_
                refine rg_nil ?_
                refine aops_nil ?_
                refine ⟨(j + 1, min cur v), ⟨by simp only; omega, by simp only; omega, by simp only; omega, hnx⟩, by simp only; omega, ?_⟩
                exact le_head (ms := [39]) (by repeat (first | exact Out.refl _ | exact Out.head rfl rfl | (refine Out.put ?_ rfl) | (refine Out.site ?_ rfl) | (refine Out.putn ?_) | (refine Out.headIn ?_ rfl rfl rfl) | (refine Out.called ?_ rfl rfl))) ⟨(by first | rfl | (show Site.row 3 1 (List.map iC (out.set k (-1))) = _; rw [hc0]; done)), trivial⟩ ⟨(by first | rfl | (show Site.row 3 1 (List.map iC (out.set k (-1))) = _; rw [hc0]; done)), trivial⟩ rfl rfl rfl rfl
              ·
                (try simp only [decide_eq_true_eq, decide_eq_false_iff_not, Bool.and_eq_true, Bool.or_eq_true, Bool.and_eq_false_iff, Bool.or_eq_false_iff, Bool.not_eq_true', Bool.not_eq_false', Bool.not_true, Bool.not_false, bif_and, bif_or, Bool.not_not, ne_eq, Decidable.not_not, not_true_eq_false, not_false_eq_true, Int.not_le, Int.not_lt] at hc14)
                have hjn : s.needs.length ≤ j := by first | omega | (simp only [List.length_map] at hc14; omega)
                rw [List.take_of_length_le hjn, ← hue] at hcur
                refine awp_exit ?_
                change Awp _ _ _ _ _
                refine awp_region 3 mixed (by kernel_rfl) ?_
                refine rg_q (q_move (x := .d (.v _)) rfl) ?_
                refine rg_q (q_add rfl rfl (In64.mk (by (first | omega | (simp only; omega) | (simp only [List.length_map, List.length_set, List.length_append, List.length_take, List.length_range]; omega))) (by (first | omega | (simp only; omega) | (simp only [List.length_map, List.length_set, List.length_append, List.length_take, List.length_range]; omega))))) ?_
                refine rg_q (q_assign (x := .d (.v _)) rfl) ?_
                refine rg_nil ?_
                refine aops_nil ?_
                refine ⟨(k + 1, out.set k cur), ⟨by simp only; omega, by simp [hol], (fun i hi => if e : i = k then ⟨cur, by subst e; exact List.getElem?_set_self (by omega), hcu1, hcu2, by subst e; exact hcur⟩ else (by simp only at hi; obtain ⟨v, a1, a2⟩ := ho i (by omega); exact ⟨v, by simp only; rw [List.getElem?_set_ne (Ne.symm e)]; exact a1, a2⟩))⟩, by simp only; omega, ?_⟩
                exact le_head (ms := [39]) (by repeat (first | exact Out.refl _ | exact Out.head rfl rfl | (refine Out.put ?_ rfl) | (refine Out.site ?_ rfl) | (refine Out.putn ?_) | (refine Out.headIn ?_ rfl rfl rfl) | (refine Out.called ?_ rfl rfl))) ⟨(by first | rfl | (show Site.row 3 1 (List.replicate (m + 1) [D.v (.int .i64 0)]) = _; simp [iC]; done)), trivial⟩ ⟨(by first | rfl | (show Site.row 3 1 (List.replicate (m + 1) [D.v (.int .i64 0)]) = _; simp [iC]; done)), trivial⟩ rfl rfl rfl rfl
        ·
          (try simp only [decide_eq_true_eq, decide_eq_false_iff_not, Bool.and_eq_true, Bool.or_eq_true, Bool.and_eq_false_iff, Bool.or_eq_false_iff, Bool.not_eq_true', Bool.not_eq_false', Bool.not_true, Bool.not_false, bif_and, bif_or, Bool.not_not, ne_eq, Decidable.not_not, not_true_eq_false, not_false_eq_true, Int.not_le, Int.not_lt] at hc7)
          have hkm : k = m + 1 := by omega
          obtain ⟨v, hv1, hv2, hv3, hv4⟩ := ho m (by omega)
          have hvu := hv4 hok
          refine awp_exit ?_
          change Awp _ _ _ _ _
          refine awp_seq ?_
          refine awp_region 6 mixed (by kernel_rfl) ?_
          first | refine rg_q (q_move (x := .d (.sl _ _)) rfl) ?_ | refine rg_q (q_move (x := .rs _) rfl) ?_ | refine rg_q (q_move (x := .d (.v _)) rfl) ?_
          refine rg_q (q_move (x := .d (.v _)) rfl) ?_
          first | refine rg_q (q_indexAddr sl25 rfl rfl (by (first | omega | (simp only; omega) | (simp only [List.length_map, List.length_set, List.length_append, List.length_take, List.length_range]; omega))) (map_at (by (first | omega | (simp only; omega) | (simp only [List.length_map, List.length_set, List.length_append, List.length_take, List.length_range]; omega))) hs)) ?_ | refine rg_q (q_indexAddr sl25 rfl rfl (by (first | omega | (simp only; omega) | (simp only [List.length_map, List.length_set, List.length_append, List.length_take, List.length_range]; omega))) (map_at (by (first | omega | (simp only; omega) | (simp only [List.length_map, List.length_set, List.length_append, List.length_take, List.length_range]; omega))) hn)) ?_ | refine rg_q (q_indexAddr sl25 rfl rfl (by (first | omega | (simp only; omega) | (simp only [List.length_map, List.length_set, List.length_append, List.length_take, List.length_range]; omega))) (map_at (by (first | omega | (simp only; omega) | (simp only [List.length_map, List.length_set, List.length_append, List.length_take, List.length_range]; omega))) hxa)) ?_ | refine rg_q (q_indexAddr sl25 rfl rfl (by (first | omega | (simp only; omega) | (simp only [List.length_map, List.length_set, List.length_append, List.length_take, List.length_range]; omega))) (map_at (by (first | omega | (simp only; omega) | (simp only [List.length_map, List.length_set, List.length_append, List.length_take, List.length_range]; omega))) hvm)) ?_ | refine rg_q (q_indexAddr_rs sl25 rfl rfl rfl (by (first | omega | (simp only; omega) | (simp only [List.length_map, List.length_set, List.length_append, List.length_take, List.length_range]; omega))) (by (first | omega | (simp only; omega) | (simp only [List.length_map, List.length_set, List.length_append, List.length_take, List.length_range]; omega)))) ?_
          first | refine rg_q (q_load_row sz3 rfl rfl (i := m) (j := 0) (by omega) (map_get hv1) rfl) ?_ | refine rg_q (q_load sz3 rfl rfl) ?_ | refine rg_q (q_load_ref sz3 rfl rfl rfl) ?_ | refine rg_q (q_load_tb (x := .d _) sz3 rfl rfl rfl) ?_ | refine rg_q (q_load_tb (x := .rs _) sz3 rfl rfl rfl) ?_
          refine rg_q (q_assign (x := .d (.v _)) rfl) ?_
          refine rg_q (q_assign (x := .d (.v _)) rfl) ?_
          refine rg_nil ?_
          refine aops_nil ?_
          change Awp _ _ _ _ _
          refine awp_ret ?_
          refine ⟨_, (.cons (.tmp (by first | exact .d _ | exact .rs rfl | exact .ref rfl | exact .tref rfl (.cons (.d _ rfl) (.cons (.rs rfl) .nil)))) (.cons (.tmp (by first | exact .d _ | exact .rs rfl | exact .ref rfl | exact .tref rfl (.cons (.d _ rfl) (.cons (.rs rfl) .nil)))) .nil)), ?_⟩
          rw [← hz, hvu]; rfl
end Go.Proofs.Ytgdcidbpadhkpaa.Am.M
