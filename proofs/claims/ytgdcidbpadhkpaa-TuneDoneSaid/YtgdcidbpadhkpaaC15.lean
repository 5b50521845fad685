/- Contracts over the abstract machine: questions about events. Conditions: none. -/
import Derived.Test.YtgdcidbpadhkpaaC14
import Derived.Test.YtgdcidbpadhkpaaAmC
set_option linter.unusedVariables false
set_option linter.unusedSimpArgs false
-- mini
namespace Go.Proofs.Ytgdcidbpadhkpaa.Am.M
open Go

def minE (ev : List Evt) (m : Int) : Int := if inR 0 m 100000000 = false then 2 else if 0 < ev.length ∧ m < (ev.getD (ev.length - 1) zeroE).minute then 9 else 0
def atE (l : List Stp) (ev : List Evt) (m : Int) : Int := if (followS l ev).2.2 ≠ 0 then (followS l ev).2.2 else minE ev m
theorem atE_ok {l : List Stp} {ev : List Evt} {m : Int} (h : atE l ev m = 0) : (followS l ev).2.2 = 0 ∧ minE ev m = 0 := by
  unfold atE at h
  split at h
  · rename_i hc; exact absurd h hc
  · rename_i hc; exact ⟨by simpa using hc, h⟩
def todoTo (l : List Stp) (L : List Lst) (m : Int) (k : Nat) : List Int := ((List.range k).filter fun i => !validS l L i m).map fun (n : Nat) => (n : Int)
theorem todo_next {l : List Stp} {L : List Lst} {m : Int} {k : Nat} : todoTo l L m (k + 1) = if validS l L k m = true then todoTo l L m k else todoTo l L m k ++ [(k : Int)] := by
  unfold todoTo
  rw [List.range_succ, List.filter_append, List.map_append]
  by_cases h : validS l L k m = true
  · rw [if_pos h]; simp [h]
  · rw [if_neg h]
    have : validS l L k m = false := by simpa using h
    simp [this]
theorem todo_len {l : List Stp} {L : List Lst} {m : Int} {k : Nat} : (todoTo l L m k).length ≤ k := by
  unfold todoTo
  rw [List.length_map]
  have := List.length_filter_le (fun i => !validS l L i m) (List.range k)
  simpa using this
theorem validL_next {l : List Stp} {L : List Lst} {m : Int} {k : Nat} (hk : k < l.length) : (validL l L m).take (k + 1) = (validL l L m).take k ++ [validS l L k m] := by
  rw [List.take_add_one, validL_at hk]; rfl
theorem validL_len (l : List Stp) (L : List Lst) (m : Int) : (validL l L m).length = l.length := by simp [validL]
set_option maxRecDepth 100000 in
theorem at_p (l : List Stp) (hs : ∀ s ∈ l, SzOk s.nm) (ev : List Evt) (m : Int) : PC Try.prog 103 [.sl 4 (l.map stepC), .sl 3 (ev.map evC), .v (.int .i64 (m))] (.tup [bookR l (if atE l ev m = 0 then some (bookOf l ev) else none), .v (.int .i64 (atE l ev m))]) := by
  have hfo := follow_p l hs ev
  have hF := follow_book (l := l) (ev := ev)
  obtain ⟨z, hz⟩ : ∃ z, atE l ev m = z := ⟨_, rfl⟩
  have hz0 := hz
  rw [hz]
  unfold atE at hz
  generalize followS l ev = F at hfo hF hz
  obtain ⟨fo, fi, fe⟩ := F
  simp only at hfo hF hz
  obtain ⟨y, hy⟩ : ∃ y, 0 < ev.length → ev[ev.length - 1]? = some y := by
    by_cases h0 : 0 < ev.length
    · exact ⟨ev[ev.length - 1], fun _ => List.getElem?_eq_getElem (by omega)⟩
    · exact ⟨zeroE, fun h => absurd h h0⟩
  have hyd : 0 < ev.length → ev.getD (ev.length - 1) zeroE = y := fun h => getD_at (hy h)
  refine pc_of_awp Try.func103 rfl Try.ntmps103 (rs := [.tmp 6, .tmp 7]) Try.results103 (by simp) fun w0 => ?_
  refine awp_seq ?_
  refine awp_region 2 mixed (by kernel_rfl) ?_
  refine rg_q (q_assign (x := .d (.v _)) rfl) ?_
  refine rg_q (q_assign (x := .d (.v _)) rfl) ?_
  refine rg_nil ?_
  refine aops_nil ?_
  change Awp _ _ _ _ _
  refine awp_seq ?_
  refine awp_region 10 mixed (by kernel_rfl) ?_
  refine rg_q (q_move (x := .d (.sl _ _)) rfl) ?_
  refine rg_q (q_move (x := .d (.sl _ _)) rfl) ?_
  refine rg_q (q_call en81 (.cons rfl (.cons rfl .nil)) rfl (hfo)) ?_
  refine rg_q (q_move (x := .d (.tup _)) rfl) ?_
  refine rg_q (q_extract rfl rfl) ?_
  refine rg_q (q_extract rfl rfl) ?_
  refine rg_q (q_extract rfl rfl) ?_
  refine rg_q (q_assign (x := .d _) rfl) ?_
  refine rg_q (q_assign (x := .d (.v _)) rfl) ?_
  refine rg_q (q_assign (x := .d (.v _)) rfl) ?_
  refine rg_nil ?_
  refine aops_nil ?_
  change Awp _ _ _ _ _
  refine awp_seq ?_
  refine awp_block ?_
  refine awp_seq ?_
  refine awp_region 3 mixed (by kernel_rfl) ?_
  refine rg_q (q_move (x := .d (.v _)) rfl) ?_
  refine rg_q (q_neq rfl rfl) ?_
  refine rg_q (q_assign (x := .d (.v _)) rfl) ?_
  refine rg_nil ?_
  refine aops_nil ?_
  change Awp _ _ _ _ _
  refine awp_cond rfl (fun hc2 => ?_) (fun hc2 => ?_)
  ·
    (try simp only [decide_eq_true_eq, decide_eq_false_iff_not, Bool.and_eq_true, Bool.or_eq_true, Bool.and_eq_false_iff, Bool.or_eq_false_iff, Bool.not_eq_true', Bool.not_eq_false', Bool.not_true, Bool.not_false, bif_and, bif_or, Bool.not_not, ne_eq, Decidable.not_not, not_true_eq_false, not_false_eq_true, Int.not_le, Int.not_lt] at hc2)
    rw [if_pos hc2] at hz
    have hzn : ¬ z = 0 := by rw [← hz]; exact hc2
    rw [if_neg hzn]
    refine awp_seq ?_
    refine awp_region 3 mixed (by kernel_rfl) ?_
    refine rg_q (q_move (x := .d (.v _)) rfl) ?_
    refine rg_q (q_assign (x := .d (.v _)) rfl) ?_
    refine rg_q (q_assign (x := .d (.v _)) rfl) ?_
    refine rg_nil ?_
    refine aops_nil ?_
    change Awp _ _ _ _ _
    refine awp_ret ?_
    refine ⟨_, (.cons (.tmp (by exact .d _)) (.cons (.tmp (by exact .d _)) .nil)), ?_⟩
    rw [← hz]; rfl
  ·
    (try simp only [decide_eq_true_eq, decide_eq_false_iff_not, Bool.and_eq_true, Bool.or_eq_true, Bool.and_eq_false_iff, Bool.or_eq_false_iff, Bool.not_eq_true', Bool.not_eq_false', Bool.not_true, Bool.not_false, bif_and, bif_or, Bool.not_not, ne_eq, Decidable.not_not, not_true_eq_false, not_false_eq_true, Int.not_le, Int.not_lt] at hc2)
    rw [if_neg (by simpa using hc2)] at hz
    obtain ⟨hL, -, -, -⟩ := hF hc2
    simp only [Prod.mk.injEq] at hL
    obtain ⟨rfl, rfl, rfl⟩ := hL
    unfold minE at hz
    refine awp_seq ?_
    refine awp_region 4 mixed (by kernel_rfl) ?_
    refine rg_q (q_move (x := .d (.v _)) rfl) ?_
    refine rg_q (q_call en73 (.cons rfl (.cons rfl (.cons rfl .nil))) rfl (within_p _ _ _)) ?_
    refine rg_q (q_not rfl) ?_
    refine rg_q (q_assign (x := .d (.v _)) rfl) ?_
    refine rg_nil ?_
    refine aops_nil ?_
    change Awp _ _ _ _ _
    refine awp_cond rfl (fun hc4 => ?_) (fun hc4 => ?_)
    ·
      (try simp only [decide_eq_true_eq, decide_eq_false_iff_not, Bool.and_eq_true, Bool.or_eq_true, Bool.and_eq_false_iff, Bool.or_eq_false_iff, Bool.not_eq_true', Bool.not_eq_false', Bool.not_true, Bool.not_false, bif_and, bif_or, Bool.not_not, ne_eq, Decidable.not_not, not_true_eq_false, not_false_eq_true, Int.not_le, Int.not_lt] at hc4)
      rw [if_pos hc4] at hz
      have hzn : ¬ z = 0 := by omega
      rw [if_neg hzn]
      refine awp_seq ?_
      refine awp_region 2 mixed (by kernel_rfl) ?_
      refine rg_q (q_assign (x := .d (.v _)) rfl) ?_
      refine rg_q (q_assign (x := .d (.v _)) rfl) ?_
      refine rg_nil ?_
      refine aops_nil ?_
      change Awp _ _ _ _ _
      refine awp_ret ?_
      refine ⟨_, (.cons (.tmp (by exact .d _)) (.cons (.tmp (by exact .d _)) .nil)), ?_⟩
      rw [← hz]; rfl
    ·
      (try simp only [decide_eq_true_eq, decide_eq_false_iff_not, Bool.and_eq_true, Bool.or_eq_true, Bool.and_eq_false_iff, Bool.or_eq_false_iff, Bool.not_eq_true', Bool.not_eq_false', Bool.not_true, Bool.not_false, bif_and, bif_or, Bool.not_not, ne_eq, Decidable.not_not, not_true_eq_false, not_false_eq_true, Int.not_le, Int.not_lt] at hc4)
      rw [if_neg (by simpa using hc4)] at hz
      refine awp_seq ?_
      refine awp_region 15 mixed (by kernel_rfl) ?_
      refine rg_q (q_move (x := .d (.sl _ _)) rfl) ?_
      refine rg_q (q_len isl41 rfl (by exact len_map _ _)) ?_
      refine rg_q (q_gtr rfl rfl) ?_
      refine rg_q (q_move (x := .d (.v _)) rfl) ?_
      refine rg_g rfl rfl (fun hG => (q_move (x := .d (.v _)) rfl)) ?_
      refine rg_g rfl rfl (fun hG => (q_move (x := .d (.sl _ _)) rfl)) ?_
      refine rg_g rfl rfl (fun hG => (q_move (x := .d (.sl _ _)) rfl)) ?_
      refine rg_g rfl rfl (fun hG => (q_len isl41 rfl (by exact len_map _ _))) ?_
      refine rg_g rfl rfl (fun hG => (q_sub rfl rfl (In64.mk (by (have hg0 := T.bool_inj (a := _) hG.1; (try simp only [decide_eq_true_eq, decide_eq_false_iff_not, Bool.and_eq_true, Bool.or_eq_true, Bool.and_eq_false_iff, Bool.or_eq_false_iff, Bool.not_eq_true', Bool.not_eq_false', Bool.not_true, Bool.not_false, bif_and, bif_or, Bool.not_not, ne_eq, Decidable.not_not, not_true_eq_false, not_false_eq_true, Int.not_le, Int.not_lt] at hg0); (omega))) (by (have hg0 := T.bool_inj (a := _) hG.1; (try simp only [decide_eq_true_eq, decide_eq_false_iff_not, Bool.and_eq_true, Bool.or_eq_true, Bool.and_eq_false_iff, Bool.or_eq_false_iff, Bool.not_eq_true', Bool.not_eq_false', Bool.not_true, Bool.not_false, bif_and, bif_or, Bool.not_not, ne_eq, Decidable.not_not, not_true_eq_false, not_false_eq_true, Int.not_le, Int.not_lt] at hg0); (omega)))))) ?_
      refine rg_g rfl rfl (fun hG => (q_indexAddr sl41 rfl rfl (by (have hg0 := T.bool_inj (a := _) hG.1; (try simp only [decide_eq_true_eq, decide_eq_false_iff_not, Bool.and_eq_true, Bool.or_eq_true, Bool.and_eq_false_iff, Bool.or_eq_false_iff, Bool.not_eq_true', Bool.not_eq_false', Bool.not_true, Bool.not_false, bif_and, bif_or, Bool.not_not, ne_eq, Decidable.not_not, not_true_eq_false, not_false_eq_true, Int.not_le, Int.not_lt] at hg0); (omega))) (map_at (k := ev.length - 1) (by (have hg0 := T.bool_inj (a := _) hG.1; (try simp only [decide_eq_true_eq, decide_eq_false_iff_not, Bool.and_eq_true, Bool.or_eq_true, Bool.and_eq_false_iff, Bool.or_eq_false_iff, Bool.not_eq_true', Bool.not_eq_false', Bool.not_true, Bool.not_false, bif_and, bif_or, Bool.not_not, ne_eq, Decidable.not_not, not_true_eq_false, not_false_eq_true, Int.not_le, Int.not_lt] at hg0); (omega))) (hy (by (have hg0 := T.bool_inj (a := _) hG.1; (try simp only [decide_eq_true_eq, decide_eq_false_iff_not, Bool.and_eq_true, Bool.or_eq_true, Bool.and_eq_false_iff, Bool.or_eq_false_iff, Bool.not_eq_true', Bool.not_eq_false', Bool.not_true, Bool.not_false, bif_and, bif_or, Bool.not_not, ne_eq, Decidable.not_not, not_true_eq_false, not_false_eq_true, Int.not_le, Int.not_lt] at hg0); (omega))))))) ?_
      refine rg_g rfl rfl (fun hG => (q_fieldAddr fld90_0 rfl)) ?_
      refine rg_g rfl rfl (fun hG => (q_load sz3 rfl rfl)) ?_
      refine rg_g rfl rfl (fun hG => (q_lss rfl rfl)) ?_
      refine rg_pick rfl rfl rfl rfl rfl rfl ?_
      refine rg_q (q_assign (x := .d (.v _)) rfl) ?_
      refine rg_nil ?_
      refine aops_nil ?_
      change Awp _ _ _ _ _
      refine awp_len (t := 27) rfl (fun hl27 => ?_)
      (try simp only [List.length_map] at hl27)
      refine awp_cond rfl (fun hc6 => ?_) (fun hc6 => ?_)
      ·
        (try simp only [decide_eq_true_eq, decide_eq_false_iff_not, Bool.and_eq_true, Bool.or_eq_true, Bool.and_eq_false_iff, Bool.or_eq_false_iff, Bool.not_eq_true', Bool.not_eq_false', Bool.not_true, Bool.not_false, bif_and, bif_or, Bool.not_not, ne_eq, Decidable.not_not, not_true_eq_false, not_false_eq_true, Int.not_le, Int.not_lt] at hc6)
        rw [if_pos ⟨by omega, by rw [hyd (by omega)]; exact hc6.2⟩] at hz
        have hzn : ¬ z = 0 := by omega
        rw [if_neg hzn]
        refine awp_seq ?_
        refine awp_region 2 mixed (by kernel_rfl) ?_
        refine rg_q (q_assign (x := .d (.v _)) rfl) ?_
        refine rg_q (q_assign (x := .d (.v _)) rfl) ?_
        refine rg_nil ?_
        refine aops_nil ?_
        change Awp _ _ _ _ _
        refine awp_ret ?_
        refine ⟨_, (.cons (.tmp (by exact .d _)) (.cons (.tmp (by exact .d _)) .nil)), ?_⟩
        rw [← hz]; rfl
      ·
        (try simp only [decide_eq_true_eq, decide_eq_false_iff_not, Bool.and_eq_true, Bool.or_eq_true, Bool.and_eq_false_iff, Bool.or_eq_false_iff, Bool.not_eq_true', Bool.not_eq_false', Bool.not_true, Bool.not_false, bif_and, bif_or, Bool.not_not, ne_eq, Decidable.not_not, not_true_eq_false, not_false_eq_true, Int.not_le, Int.not_lt] at hc6)
        rw [if_neg (by
          rintro ⟨h1, h2⟩
          rw [hyd h1] at h2
          omega)] at hz
        rw [if_pos hz.symm]
        refine awp_skip ?_
        change Awp _ _ _ _ _
        refine awp_seq ?_
        refine awp_region 3 mixed (by kernel_rfl) ?_
        refine rg_q (q_move (x := .d (.pt _ _)) rfl) ?_
        refine rg_q (q_assign (x := .d (.pt _ _)) rfl) ?_
        refine rg_q (q_assign (x := .d (.v _)) rfl) ?_
        refine rg_nil ?_
        refine aops_nil ?_
        change Awp _ _ _ _ _
        refine awp_ret ?_
        refine ⟨_, (.cons (.tmp (by exact .d _)) (.cons (.tmp (by exact .d _)) .nil)), ?_⟩
        rw [← hz]; rfl
set_option maxRecDepth 100000 in
theorem ValidAt_p (l : List Stp) (hs : ∀ s ∈ l, SzOk s.nm) (ev : List Evt) (m : Int) : PC Try.prog 50 [.sl 4 (l.map stepC), .sl 3 (ev.map evC), .v (.int .i64 (m))] (.tup [.sl 1 ((if atE l ev m = 0 then validL l (bookOf l ev) m else []).map bC), .v (.int .i64 (atE l ev m))]) := by
  have hat := at_p l hs ev m
  obtain ⟨z, hz⟩ : ∃ z, atE l ev m = z := ⟨_, rfl⟩
  have hok : z = 0 → RightS l ∧ (∀ e ∈ ev, EvOk e) := fun h => by
    obtain ⟨h1, _⟩ := atE_ok (hz.trans h)
    obtain ⟨_, h2, h3, _⟩ := follow_book h1
    exact ⟨h2, fun e he => (h3 e he).1⟩
  rw [hz] at hat ⊢
  refine pc_of_awp Try.func50 rfl Try.ntmps50 (rs := [.tmp 6, .tmp 7]) Try.results50 (by simp) fun w0 => ?_
  refine awp_seq ?_
  refine awp_region 2 mixed (by kernel_rfl) ?_
  refine rg_q (q_assign (x := .d (.sl _ _)) rfl) ?_
  refine rg_q (q_assign (x := .d (.v _)) rfl) ?_
  refine rg_nil ?_
  refine aops_nil ?_
  change Awp _ _ _ _ _
  refine awp_seq ?_
  refine awp_region 9 mixed (by kernel_rfl) ?_
  refine rg_q (q_move (x := .d (.sl _ _)) rfl) ?_
  refine rg_q (q_move (x := .d (.sl _ _)) rfl) ?_
  refine rg_q (q_move (x := .d (.v _)) rfl) ?_
  refine rg_q (q_call en103 (.cons rfl (.cons rfl (.cons rfl .nil))) rfl (hat)) ?_
  refine rg_q (q_move (x := .d (.tup _)) rfl) ?_
  refine rg_q (q_extract rfl rfl) ?_
  refine rg_q (q_extract rfl rfl) ?_
  refine rg_q (q_assign (x := .d _) rfl) ?_
  refine rg_q (q_assign (x := .d (.v _)) rfl) ?_
  refine rg_nil ?_
  refine aops_nil ?_
  change Awp _ _ _ _ _
  refine awp_seq ?_
  refine awp_seq ?_
  refine awp_region 2 mixed (by kernel_rfl) ?_
  refine rg_q (q_move (x := .d (.v _)) rfl) ?_
  refine rg_q (q_neq rfl rfl) ?_
  refine rg_nil ?_
  refine aops_nil ?_
  change Awp _ _ _ _ _
  refine awp_cond rfl (fun hc2 => ?_) (fun hc2 => ?_)
  ·
    (try simp only [decide_eq_true_eq, decide_eq_false_iff_not, Bool.and_eq_true, Bool.or_eq_true, Bool.and_eq_false_iff, Bool.or_eq_false_iff, Bool.not_eq_true', Bool.not_eq_false', Bool.not_true, Bool.not_false, bif_and, bif_or, Bool.not_not, ne_eq, Decidable.not_not, not_true_eq_false, not_false_eq_true, Int.not_le, Int.not_lt] at hc2)
    have hzn : ¬ z = 0 := hc2
    rw [if_neg hzn] at hat ⊢
    refine awp_seq ?_
    refine awp_region 3 mixed (by kernel_rfl) ?_
    refine rg_q (q_move (x := .d (.v _)) rfl) ?_
    refine rg_q (q_assign (x := .d (.sl _ _)) rfl) ?_
    refine rg_q (q_assign (x := .d (.v _)) rfl) ?_
    refine rg_nil ?_
    refine aops_nil ?_
    change Awp _ _ _ _ _
    refine awp_ret ?_
    refine ⟨_, (.cons (.tmp (by exact .d _)) (.cons (.tmp (by exact .d _)) .nil)), ?_⟩
    rfl
  ·
    (try simp only [decide_eq_true_eq, decide_eq_false_iff_not, Bool.and_eq_true, Bool.or_eq_true, Bool.and_eq_false_iff, Bool.or_eq_false_iff, Bool.not_eq_true', Bool.not_eq_false', Bool.not_true, Bool.not_false, bif_and, bif_or, Bool.not_not, ne_eq, Decidable.not_not, not_true_eq_false, not_false_eq_true, Int.not_le, Int.not_lt] at hc2)
    have hz0 : z = 0 := hc2
    subst hz0
    rw [if_pos rfl] at hat ⊢
    obtain ⟨hr, hev⟩ := hok rfl
    have hfew := hr.few
    have hB := bookOf_ok hfew ev hev
    generalize bookOf l ev = B at *
    refine awp_skip ?_
    change Awp _ _ _ _ _
    refine awp_seq ?_
    refine awp_region 1 mixed (by kernel_rfl) ?_
    refine rg_q (q_assign_nil) ?_
    refine rg_nil ?_
    refine aops_nil ?_
    change Awp _ _ _ _ _
    refine Awp.le (le_own (k := 10) (e := 4) (sz := 1) rfl rfl) ?_
    refine awp_seq ?_
    refine awp_seq ?_
    refine awp_region 3 mixed (by kernel_rfl) ?_
    refine rg_q (q_move (x := .d (.sl _ _)) rfl) ?_
    refine rg_q (q_len isl40 rfl (by exact len_map _ _)) ?_
    refine rg_q (q_move (x := .d (.v _)) rfl) ?_
    refine rg_nil ?_
    refine aops_nil ?_
    change Awp _ _ _ _ _
    refine awp_len (t := 22) rfl (fun hl22 => ?_)
    (try simp only [List.length_map] at hl22)
    refine awp_block ?_
    refine awp_loopH [10, 11, 24, 25, 26, 27, 28, 29, 30, 31, 32, 33, 34] [10] (α := Nat) (fun k => [(24, T.i (k : Int)), (10, .rs 10)]) (fun k => [(10, .row 4 1 (((validL l B m).take k).map bC))]) (fun k => k ≤ l.length) (fun k => l.length - k) 0 (Nat.zero_le _) ?_ ?_
    · exact le_head (ms := [10]) (by repeat (exact Out.refl _)) ⟨(by rfl), (by rfl), trivial⟩ ⟨(by rfl), trivial⟩ rfl rfl rfl rfl
    ·
      intro k hk
      refine awp_seq ?_
      refine awp_region 1 mixed (by kernel_rfl) ?_
      refine rg_q (q_lss rfl rfl) ?_
      refine rg_nil ?_
      refine aops_nil ?_
      change Awp _ _ _ _ _
      refine awp_seq ?_
      refine awp_cond rfl (fun hc6 => ?_) (fun hc6 => ?_)
      ·
        (try simp only [decide_eq_true_eq, decide_eq_false_iff_not, Bool.and_eq_true, Bool.or_eq_true, Bool.and_eq_false_iff, Bool.or_eq_false_iff, Bool.not_eq_true', Bool.not_eq_false', Bool.not_true, Bool.not_false, bif_and, bif_or, Bool.not_not, ne_eq, Decidable.not_not, not_true_eq_false, not_false_eq_true, Int.not_le, Int.not_lt] at hc6)
        have hlt : k < l.length := by omega
        have hvp := valid_p l B hr hB.w.len hB.m k hlt m
        have hnx := validL_next (L := B) (m := m) hlt
        have htl : ((validL l B m).take k).length ≤ 10 := by rw [List.length_take, validL_len]; omega
        refine awp_skip ?_
        change Awp _ _ _ _ _
        refine awp_seq ?_
        refine awp_block ?_
        refine awp_seq ?_
        refine awp_region 2 mixed (by kernel_rfl) ?_
        refine rg_q (q_move (x := .d (.v _)) rfl) ?_
        refine rg_q (q_assign (x := .d (.v _)) rfl) ?_
        refine rg_nil ?_
        refine aops_nil ?_
        change Awp _ _ _ _ _
        refine awp_region 6 mixed (by kernel_rfl) ?_
        refine rg_q (q_move (x := .rs _) rfl) ?_
        refine rg_q (q_move (x := .d (.pt _ _)) rfl) ?_
        refine rg_q (q_move (x := .d (.v _)) rfl) ?_
        refine rg_q (q_move (x := .d (.v _)) rfl) ?_
        refine rg_q (q_call en100 (.cons rfl (.cons rfl (.cons rfl .nil))) rfl (hvp)) ?_
        refine rg_q (q_buildSlice sl77 zr4 rfl rfl (by decide) (.cons rfl (by exact .inl rfl) .nil) ⟨rfl, rfl, trivial⟩ rfl (by decide) rfl) ?_
        refine rg_nil ?_
        refine aops_append sl77 zr4 by4 rfl (by decide) rfl rfl rfl rfl (by simp only [List.length_map, List.length_cons, List.length_nil]; omega) (by simp only [List.length_map, List.length_cons, List.length_nil]; omega) rfl rfl ?_
        refine aops_q rfl (q_assign (x := .rs _) rfl) ?_
        refine aops_nil ?_
        change Awp _ _ _ _ _
        refine awp_region 2 mixed (by kernel_rfl) ?_
        refine rg_q (q_add rfl rfl (In64.mk (by (omega)) (by (omega)))) ?_
        refine rg_q (q_move (x := .d (.v _)) rfl) ?_
        refine rg_nil ?_
        refine aops_nil ?_
        refine ⟨k + 1, by omega, by omega, ?_⟩
        exact le_head (ms := [10]) (by repeat (first | exact Out.head rfl rfl | (refine Out.put ?_ rfl) | (refine Out.site ?_ rfl) | (refine Out.killS ?_ rfl))) ⟨(by rfl), (by rfl), trivial⟩ ⟨(by (show Site.row 4 1 (List.map bC ((validL l B m).take k) ++ [bC (validS l B k m)]) = _; rw [hnx]; simp; done)), trivial⟩ rfl rfl rfl rfl
      ·
        (try simp only [decide_eq_true_eq, decide_eq_false_iff_not, Bool.and_eq_true, Bool.or_eq_true, Bool.and_eq_false_iff, Bool.or_eq_false_iff, Bool.not_eq_true', Bool.not_eq_false', Bool.not_true, Bool.not_false, bif_and, bif_or, Bool.not_not, ne_eq, Decidable.not_not, not_true_eq_false, not_false_eq_true, Int.not_le, Int.not_lt] at hc6)
        have hkl : l.length ≤ k := by omega
        refine awp_exit ?_
        change Awp _ _ _ _ _
        refine awp_seq ?_
        refine awp_region 3 mixed (by kernel_rfl) ?_
        refine rg_q (q_move (x := .rs _) rfl) ?_
        refine rg_q (q_assign (x := .rs _) rfl) ?_
        refine rg_q (q_assign (x := .d (.v _)) rfl) ?_
        refine rg_nil ?_
        refine aops_nil ?_
        change Awp _ _ _ _ _
        refine awp_ret ?_
        refine ⟨_, (.cons (.tmp (by exact .rs rfl)) (.cons (.tmp (by exact .d _)) .nil)), ?_⟩
        rw [List.take_of_length_le (by rw [validL_len]; exact hkl)]; rfl
set_option maxRecDepth 100000 in
theorem ToDo_p (l : List Stp) (hs : ∀ s ∈ l, SzOk s.nm) (ev : List Evt) (m : Int) : PC Try.prog 51 [.sl 4 (l.map stepC), .sl 3 (ev.map evC), .v (.int .i64 (m))] (.tup [.sl 1 ((if atE l ev m = 0 then todoTo l (bookOf l ev) m l.length else []).map iC), .v (.int .i64 (atE l ev m))]) := by
  have hat := at_p l hs ev m
  obtain ⟨z, hz⟩ : ∃ z, atE l ev m = z := ⟨_, rfl⟩
  have hok : z = 0 → RightS l ∧ (∀ e ∈ ev, EvOk e) := fun h => by
    obtain ⟨h1, _⟩ := atE_ok (hz.trans h)
    obtain ⟨_, h2, h3, _⟩ := follow_book h1
    exact ⟨h2, fun e he => (h3 e he).1⟩
  rw [hz] at hat ⊢
  refine pc_of_awp Try.func51 rfl Try.ntmps51 (rs := [.tmp 6, .tmp 7]) Try.results51 (by simp) fun w0 => ?_
  refine awp_seq ?_
  refine awp_region 2 mixed (by kernel_rfl) ?_
  refine rg_q (q_assign (x := .d (.sl _ _)) rfl) ?_
  refine rg_q (q_assign (x := .d (.v _)) rfl) ?_
  refine rg_nil ?_
  refine aops_nil ?_
  change Awp _ _ _ _ _
  refine awp_seq ?_
  refine awp_region 9 mixed (by kernel_rfl) ?_
  refine rg_q (q_move (x := .d (.sl _ _)) rfl) ?_
  refine rg_q (q_move (x := .d (.sl _ _)) rfl) ?_
  refine rg_q (q_move (x := .d (.v _)) rfl) ?_
  refine rg_q (q_call en103 (.cons rfl (.cons rfl (.cons rfl .nil))) rfl (hat)) ?_
  refine rg_q (q_move (x := .d (.tup _)) rfl) ?_
  refine rg_q (q_extract rfl rfl) ?_
  refine rg_q (q_extract rfl rfl) ?_
  refine rg_q (q_assign (x := .d _) rfl) ?_
  refine rg_q (q_assign (x := .d (.v _)) rfl) ?_
  refine rg_nil ?_
  refine aops_nil ?_
  change Awp _ _ _ _ _
  refine awp_seq ?_
  refine awp_seq ?_
  refine awp_region 2 mixed (by kernel_rfl) ?_
  refine rg_q (q_move (x := .d (.v _)) rfl) ?_
  refine rg_q (q_neq rfl rfl) ?_
  refine rg_nil ?_
  refine aops_nil ?_
  change Awp _ _ _ _ _
  refine awp_cond rfl (fun hc2 => ?_) (fun hc2 => ?_)
  ·
    (try simp only [decide_eq_true_eq, decide_eq_false_iff_not, Bool.and_eq_true, Bool.or_eq_true, Bool.and_eq_false_iff, Bool.or_eq_false_iff, Bool.not_eq_true', Bool.not_eq_false', Bool.not_true, Bool.not_false, bif_and, bif_or, Bool.not_not, ne_eq, Decidable.not_not, not_true_eq_false, not_false_eq_true, Int.not_le, Int.not_lt] at hc2)
    have hzn : ¬ z = 0 := hc2
    rw [if_neg hzn] at hat ⊢
    refine awp_seq ?_
    refine awp_region 3 mixed (by kernel_rfl) ?_
    refine rg_q (q_move (x := .d (.v _)) rfl) ?_
    refine rg_q (q_assign (x := .d (.sl _ _)) rfl) ?_
    refine rg_q (q_assign (x := .d (.v _)) rfl) ?_
    refine rg_nil ?_
    refine aops_nil ?_
    change Awp _ _ _ _ _
    refine awp_ret ?_
    refine ⟨_, (.cons (.tmp (by exact .d _)) (.cons (.tmp (by exact .d _)) .nil)), ?_⟩
    rfl
  ·
    (try simp only [decide_eq_true_eq, decide_eq_false_iff_not, Bool.and_eq_true, Bool.or_eq_true, Bool.and_eq_false_iff, Bool.or_eq_false_iff, Bool.not_eq_true', Bool.not_eq_false', Bool.not_true, Bool.not_false, bif_and, bif_or, Bool.not_not, ne_eq, Decidable.not_not, not_true_eq_false, not_false_eq_true, Int.not_le, Int.not_lt] at hc2)
    have hz0 : z = 0 := hc2
    subst hz0
    rw [if_pos rfl] at hat ⊢
    obtain ⟨hr, hev⟩ := hok rfl
    have hfew := hr.few
    have hB := bookOf_ok hfew ev hev
    generalize bookOf l ev = B at *
    refine awp_skip ?_
    change Awp _ _ _ _ _
    refine awp_seq ?_
    refine awp_region 1 mixed (by kernel_rfl) ?_
    refine rg_q (q_assign_nil) ?_
    refine rg_nil ?_
    refine aops_nil ?_
    change Awp _ _ _ _ _
    refine Awp.le (le_own (k := 10) (e := 3) (sz := 1) rfl rfl) ?_
    refine awp_seq ?_
    refine awp_seq ?_
    refine awp_region 3 mixed (by kernel_rfl) ?_
    refine rg_q (q_move (x := .d (.sl _ _)) rfl) ?_
    refine rg_q (q_len isl40 rfl (by exact len_map _ _)) ?_
    refine rg_q (q_move (x := .d (.v _)) rfl) ?_
    refine rg_nil ?_
    refine aops_nil ?_
    change Awp _ _ _ _ _
    refine awp_len (t := 22) rfl (fun hl22 => ?_)
    (try simp only [List.length_map] at hl22)
    refine awp_block ?_
    refine awp_loopH [10, 11, 24, 25, 26, 27, 28, 29, 30, 31, 32, 33, 34, 35, 36] [10] (α := Nat) (fun k => [(24, T.i (k : Int)), (10, .rs 10)]) (fun k => [(10, .row 3 1 ((todoTo l B m k).map iC))]) (fun k => k ≤ l.length ∧ (todoTo l B m k).length ≤ k) (fun k => l.length - k) 0 ⟨Nat.zero_le _, todo_len⟩ ?_ ?_
    · exact le_head (ms := [10]) (by repeat (exact Out.refl _)) ⟨(by rfl), (by rfl), trivial⟩ ⟨(by rfl), trivial⟩ rfl rfl rfl rfl
    ·
      intro k ⟨hk, ho⟩
      refine awp_seq ?_
      refine awp_region 1 mixed (by kernel_rfl) ?_
      refine rg_q (q_lss rfl rfl) ?_
      refine rg_nil ?_
      refine aops_nil ?_
      change Awp _ _ _ _ _
      refine awp_seq ?_
      refine awp_cond rfl (fun hc6 => ?_) (fun hc6 => ?_)
      ·
        (try simp only [decide_eq_true_eq, decide_eq_false_iff_not, Bool.and_eq_true, Bool.or_eq_true, Bool.and_eq_false_iff, Bool.or_eq_false_iff, Bool.not_eq_true', Bool.not_eq_false', Bool.not_true, Bool.not_false, bif_and, bif_or, Bool.not_not, ne_eq, Decidable.not_not, not_true_eq_false, not_false_eq_true, Int.not_le, Int.not_lt] at hc6)
        have hlt : k < l.length := by omega
        have hvp := valid_p l B hr hB.w.len hB.m k hlt m
        have hnx := todo_next (l := l) (L := B) (m := m) (k := k)
        refine awp_skip ?_
        change Awp _ _ _ _ _
        refine awp_seq ?_
        refine awp_block ?_
        refine awp_seq ?_
        refine awp_region 2 mixed (by kernel_rfl) ?_
        refine rg_q (q_move (x := .d (.v _)) rfl) ?_
        refine rg_q (q_assign (x := .d (.v _)) rfl) ?_
        refine rg_nil ?_
        refine aops_nil ?_
        change Awp _ _ _ _ _
        refine awp_seq ?_
        refine awp_region 5 mixed (by kernel_rfl) ?_
        refine rg_q (q_move (x := .d (.pt _ _)) rfl) ?_
        refine rg_q (q_move (x := .d (.v _)) rfl) ?_
        refine rg_q (q_move (x := .d (.v _)) rfl) ?_
        refine rg_q (q_call en100 (.cons rfl (.cons rfl (.cons rfl .nil))) rfl (hvp)) ?_
        refine rg_q (q_not rfl) ?_
        refine rg_nil ?_
        refine aops_nil ?_
        change Awp _ _ _ _ _
        refine awp_cond rfl (fun hc8 => ?_) (fun hc8 => ?_)
        ·
          (try simp only [decide_eq_true_eq, decide_eq_false_iff_not, Bool.and_eq_true, Bool.or_eq_true, Bool.and_eq_false_iff, Bool.or_eq_false_iff, Bool.not_eq_true', Bool.not_eq_false', Bool.not_true, Bool.not_false, bif_and, bif_or, Bool.not_not, ne_eq, Decidable.not_not, not_true_eq_false, not_false_eq_true, Int.not_le, Int.not_lt] at hc8)
          rw [if_neg (by rw [hc8]; simp)] at hnx
          refine awp_region 3 mixed (by kernel_rfl) ?_
          refine rg_q (q_move (x := .rs _) rfl) ?_
          refine rg_q (q_move (x := .d (.v _)) rfl) ?_
          refine rg_q (q_buildSlice sl25 zr3 rfl rfl (by decide) (.cons rfl (by exact .inl rfl) .nil) ⟨rfl, rfl, trivial⟩ rfl (by decide) rfl) ?_
          refine rg_nil ?_
          refine aops_append sl25 zr3 by3 rfl (by decide) rfl rfl rfl rfl (by (try simp only [List.length_map, List.length_append, List.length_cons, List.length_nil]); omega) (by (try simp only [List.length_map, List.length_append, List.length_cons, List.length_nil]); omega) rfl rfl ?_
          refine aops_q rfl (q_assign (x := .rs _) rfl) ?_
          refine aops_nil ?_
          change Awp _ _ _ _ _
          refine awp_region 2 mixed (by kernel_rfl) ?_
          refine rg_q (q_add rfl rfl (In64.mk (by (omega)) (by (omega)))) ?_
          refine rg_q (q_move (x := .d (.v _)) rfl) ?_
          refine rg_nil ?_
          refine aops_nil ?_
          refine ⟨k + 1, ⟨by omega, todo_len⟩, by omega, ?_⟩
          exact le_head (ms := [10]) (by repeat (first | exact Out.head rfl rfl | (refine Out.put ?_ rfl) | (refine Out.site ?_ rfl) | (refine Out.killS ?_ rfl))) ⟨(by rfl), (by rfl), trivial⟩ ⟨(by ((show Site.row 3 1 (List.map iC (todoTo l B m k) ++ [iC (k : Int)]) = _; rw [hnx]; simp; done))), trivial⟩ rfl rfl rfl rfl
        ·
          (try simp only [decide_eq_true_eq, decide_eq_false_iff_not, Bool.and_eq_true, Bool.or_eq_true, Bool.and_eq_false_iff, Bool.or_eq_false_iff, Bool.not_eq_true', Bool.not_eq_false', Bool.not_true, Bool.not_false, bif_and, bif_or, Bool.not_not, ne_eq, Decidable.not_not, not_true_eq_false, not_false_eq_true, Int.not_le, Int.not_lt] at hc8)
          have hv : validS l B k m = true := by simpa using hc8
          rw [if_pos hv] at hnx
          refine awp_skip ?_
          change Awp _ _ _ _ _
          refine awp_region 2 mixed (by kernel_rfl) ?_
          refine rg_q (q_add rfl rfl (In64.mk (by (omega)) (by (omega)))) ?_
          refine rg_q (q_move (x := .d (.v _)) rfl) ?_
          refine rg_nil ?_
          refine aops_nil ?_
          refine ⟨k + 1, ⟨by omega, todo_len⟩, by omega, ?_⟩
          exact le_head (ms := [10]) (by repeat (first | exact Out.head rfl rfl | (refine Out.put ?_ rfl))) ⟨(by rfl), (by rfl), trivial⟩ ⟨(by ((show Site.row 3 1 (List.map iC (todoTo l B m k)) = _; rw [hnx]))), trivial⟩ rfl rfl rfl rfl
      ·
        (try simp only [decide_eq_true_eq, decide_eq_false_iff_not, Bool.and_eq_true, Bool.or_eq_true, Bool.and_eq_false_iff, Bool.or_eq_false_iff, Bool.not_eq_true', Bool.not_eq_false', Bool.not_true, Bool.not_false, bif_and, bif_or, Bool.not_not, ne_eq, Decidable.not_not, not_true_eq_false, not_false_eq_true, Int.not_le, Int.not_lt] at hc6)
        have hkl : k = l.length := by omega
        refine awp_exit ?_
        change Awp _ _ _ _ _
        refine awp_seq ?_
        refine awp_region 3 mixed (by kernel_rfl) ?_
        refine rg_q (q_move (x := .rs _) rfl) ?_
        refine rg_q (q_assign (x := .rs _) rfl) ?_
        refine rg_q (q_assign (x := .d (.v _)) rfl) ?_
        refine rg_nil ?_
        refine aops_nil ?_
        change Awp _ _ _ _ _
        refine awp_ret ?_
        refine ⟨_, (.cons (.tmp (by exact .rs rfl)) (.cons (.tmp (by exact .d _)) .nil)), ?_⟩
        rw [hkl]; rfl
set_option maxRecDepth 100000 in
theorem MinuteErr_p (ev : List Evt) (m : Int) : PC Try.prog 52 [.sl 3 (ev.map evC), .v (.int .i64 (m))] (.v (.int .i64 (minE ev m))) := by
  obtain ⟨z, hz⟩ : ∃ z, minE ev m = z := ⟨_, rfl⟩
  rw [hz]
  unfold minE at hz
  obtain ⟨y, hy⟩ : ∃ y, 0 < ev.length → ev[ev.length - 1]? = some y := by
    by_cases h0 : 0 < ev.length
    · exact ⟨ev[ev.length - 1], fun _ => List.getElem?_eq_getElem (by omega)⟩
    · exact ⟨zeroE, fun h => absurd h h0⟩
  have hyd : 0 < ev.length → ev.getD (ev.length - 1) zeroE = y := fun h => getD_at (hy h)
  refine pc_of_awp Try.func52 rfl Try.ntmps52 (rs := [.tmp 4]) Try.results52 (by simp) fun w0 => ?_
  refine awp_seq ?_
  refine awp_region 1 mixed (by kernel_rfl) ?_
  refine rg_q (q_assign (x := .d (.v _)) rfl) ?_
  refine rg_nil ?_
  refine aops_nil ?_
  change Awp _ _ _ _ _
  refine awp_seq ?_
  refine awp_seq ?_
  refine awp_region 3 mixed (by kernel_rfl) ?_
  refine rg_q (q_move (x := .d (.v _)) rfl) ?_
  refine rg_q (q_call en21 (.cons rfl (.cons rfl (.cons rfl .nil))) rfl (Within_p _ _ _)) ?_
  refine rg_q (q_not rfl) ?_
  refine rg_nil ?_
  refine aops_nil ?_
  change Awp _ _ _ _ _
  refine awp_cond rfl (fun hc1 => ?_) (fun hc1 => ?_)
  ·
    (try simp only [decide_eq_true_eq, decide_eq_false_iff_not, Bool.and_eq_true, Bool.or_eq_true, Bool.and_eq_false_iff, Bool.or_eq_false_iff, Bool.not_eq_true', Bool.not_eq_false', Bool.not_true, Bool.not_false, bif_and, bif_or, Bool.not_not, ne_eq, Decidable.not_not, not_true_eq_false, not_false_eq_true, Int.not_le, Int.not_lt] at hc1)
    rw [if_pos hc1] at hz
    refine awp_seq ?_
    refine awp_region 1 mixed (by kernel_rfl) ?_
    refine rg_q (q_assign (x := .d (.v _)) rfl) ?_
    refine rg_nil ?_
    refine aops_nil ?_
    change Awp _ _ _ _ _
    refine awp_ret ?_
    refine ⟨_, (.cons (.tmp (by exact .d _)) .nil), ?_⟩
    rw [← hz]; rfl
  ·
    (try simp only [decide_eq_true_eq, decide_eq_false_iff_not, Bool.and_eq_true, Bool.or_eq_true, Bool.and_eq_false_iff, Bool.or_eq_false_iff, Bool.not_eq_true', Bool.not_eq_false', Bool.not_true, Bool.not_false, bif_and, bif_or, Bool.not_not, ne_eq, Decidable.not_not, not_true_eq_false, not_false_eq_true, Int.not_le, Int.not_lt] at hc1)
    rw [if_neg (by simpa using hc1)] at hz
    refine awp_skip ?_
    change Awp _ _ _ _ _
    refine awp_seq ?_
    refine awp_seq ?_
    refine awp_region 3 mixed (by kernel_rfl) ?_
    refine rg_q (q_move (x := .d (.sl _ _)) rfl) ?_
    refine rg_q (q_len isl41 rfl (by exact len_map _ _)) ?_
    refine rg_q (q_assign (x := .d (.v _)) rfl) ?_
    refine rg_nil ?_
    refine aops_nil ?_
    change Awp _ _ _ _ _
    refine awp_len (t := 9) rfl (fun hl9 => ?_)
    (try simp only [List.length_map] at hl9)
    refine awp_seq ?_
    refine awp_region 12 mixed (by kernel_rfl) ?_
    refine rg_q (q_move (x := .d (.v _)) rfl) ?_
    refine rg_q (q_gtr rfl rfl) ?_
    refine rg_q (q_move (x := .d (.v _)) rfl) ?_
    refine rg_g rfl rfl (fun hG => (q_move (x := .d (.v _)) rfl)) ?_
    refine rg_g rfl rfl (fun hG => (q_move (x := .d (.sl _ _)) rfl)) ?_
    refine rg_g rfl rfl (fun hG => (q_move (x := .d (.v _)) rfl)) ?_
    refine rg_g rfl rfl (fun hG => (q_sub rfl rfl (In64.mk (by (have hg0 := T.bool_inj (a := _) hG.1; (try simp only [decide_eq_true_eq, decide_eq_false_iff_not, Bool.and_eq_true, Bool.or_eq_true, Bool.and_eq_false_iff, Bool.or_eq_false_iff, Bool.not_eq_true', Bool.not_eq_false', Bool.not_true, Bool.not_false, bif_and, bif_or, Bool.not_not, ne_eq, Decidable.not_not, not_true_eq_false, not_false_eq_true, Int.not_le, Int.not_lt] at hg0); (omega))) (by (have hg0 := T.bool_inj (a := _) hG.1; (try simp only [decide_eq_true_eq, decide_eq_false_iff_not, Bool.and_eq_true, Bool.or_eq_true, Bool.and_eq_false_iff, Bool.or_eq_false_iff, Bool.not_eq_true', Bool.not_eq_false', Bool.not_true, Bool.not_false, bif_and, bif_or, Bool.not_not, ne_eq, Decidable.not_not, not_true_eq_false, not_false_eq_true, Int.not_le, Int.not_lt] at hg0); (omega)))))) ?_
    refine rg_g rfl rfl (fun hG => (q_indexAddr sl41 rfl rfl (by (have hg0 := T.bool_inj (a := _) hG.1; (try simp only [decide_eq_true_eq, decide_eq_false_iff_not, Bool.and_eq_true, Bool.or_eq_true, Bool.and_eq_false_iff, Bool.or_eq_false_iff, Bool.not_eq_true', Bool.not_eq_false', Bool.not_true, Bool.not_false, bif_and, bif_or, Bool.not_not, ne_eq, Decidable.not_not, not_true_eq_false, not_false_eq_true, Int.not_le, Int.not_lt] at hg0); (omega))) (map_at (k := ev.length - 1) (by (have hg0 := T.bool_inj (a := _) hG.1; (try simp only [decide_eq_true_eq, decide_eq_false_iff_not, Bool.and_eq_true, Bool.or_eq_true, Bool.and_eq_false_iff, Bool.or_eq_false_iff, Bool.not_eq_true', Bool.not_eq_false', Bool.not_true, Bool.not_false, bif_and, bif_or, Bool.not_not, ne_eq, Decidable.not_not, not_true_eq_false, not_false_eq_true, Int.not_le, Int.not_lt] at hg0); (omega))) (hy (by (have hg0 := T.bool_inj (a := _) hG.1; (try simp only [decide_eq_true_eq, decide_eq_false_iff_not, Bool.and_eq_true, Bool.or_eq_true, Bool.and_eq_false_iff, Bool.or_eq_false_iff, Bool.not_eq_true', Bool.not_eq_false', Bool.not_true, Bool.not_false, bif_and, bif_or, Bool.not_not, ne_eq, Decidable.not_not, not_true_eq_false, not_false_eq_true, Int.not_le, Int.not_lt] at hg0); (omega))))))) ?_
    refine rg_g rfl rfl (fun hG => (q_fieldAddr fld90_0 rfl)) ?_
    refine rg_g rfl rfl (fun hG => (q_load sz3 rfl rfl)) ?_
    refine rg_g rfl rfl (fun hG => (q_lss rfl rfl)) ?_
    refine rg_pick rfl rfl rfl rfl rfl rfl ?_
    refine rg_nil ?_
    refine aops_nil ?_
    change Awp _ _ _ _ _
    refine awp_cond rfl (fun hc4 => ?_) (fun hc4 => ?_)
    ·
      (try simp only [decide_eq_true_eq, decide_eq_false_iff_not, Bool.and_eq_true, Bool.or_eq_true, Bool.and_eq_false_iff, Bool.or_eq_false_iff, Bool.not_eq_true', Bool.not_eq_false', Bool.not_true, Bool.not_false, bif_and, bif_or, Bool.not_not, ne_eq, Decidable.not_not, not_true_eq_false, not_false_eq_true, Int.not_le, Int.not_lt] at hc4)
      rw [if_pos ⟨by omega, by rw [hyd (by omega)]; exact hc4.2⟩] at hz
      refine awp_seq ?_
      refine awp_region 1 mixed (by kernel_rfl) ?_
      refine rg_q (q_assign (x := .d (.v _)) rfl) ?_
      refine rg_nil ?_
      refine aops_nil ?_
      change Awp _ _ _ _ _
      refine awp_ret ?_
      refine ⟨_, (.cons (.tmp (by exact .d _)) .nil), ?_⟩
      rw [← hz]; rfl
    ·
      (try simp only [decide_eq_true_eq, decide_eq_false_iff_not, Bool.and_eq_true, Bool.or_eq_true, Bool.and_eq_false_iff, Bool.or_eq_false_iff, Bool.not_eq_true', Bool.not_eq_false', Bool.not_true, Bool.not_false, bif_and, bif_or, Bool.not_not, ne_eq, Decidable.not_not, not_true_eq_false, not_false_eq_true, Int.not_le, Int.not_lt] at hc4)
      rw [if_neg (by
        rintro ⟨h1, h2⟩
        rw [hyd h1] at h2
        omega)] at hz
      refine awp_skip ?_
      change Awp _ _ _ _ _
      refine awp_seq ?_
      refine awp_region 1 mixed (by kernel_rfl) ?_
      refine rg_q (q_assign (x := .d (.v _)) rfl) ?_
      refine rg_nil ?_
      refine aops_nil ?_
      change Awp _ _ _ _ _
      refine awp_ret ?_
      refine ⟨_, (.cons (.tmp (by exact .d _)) .nil), ?_⟩
      rw [← hz]; rfl
set_option maxRecDepth 100000 in
theorem Bools_p (a b : List Bool) : PC Try.prog 53 [.sl 1 (a.map bC), .sl 1 (b.map bC)] (.v (.bool (decide (a = b)))) := by
  refine pc_of_awp Try.func53 rfl Try.ntmps53 (rs := [.tmp 4]) Try.results53 (by simp) fun w0 => ?_
  refine awp_seq ?_
  refine awp_region 1 mixed (by kernel_rfl) ?_
  refine rg_q (q_assign (x := .d (.v _)) rfl) ?_
  refine rg_nil ?_
  refine aops_nil ?_
  change Awp _ _ _ _ _
  refine awp_seq ?_
  refine awp_seq ?_
  refine awp_region 5 mixed (by kernel_rfl) ?_
  refine rg_q (q_move (x := .d (.sl _ _)) rfl) ?_
  refine rg_q (q_len isl77 rfl (by exact len_map _ _)) ?_
  refine rg_q (q_move (x := .d (.sl _ _)) rfl) ?_
  refine rg_q (q_len isl77 rfl (by exact len_map _ _)) ?_
  refine rg_q (q_neq rfl rfl) ?_
  refine rg_nil ?_
  refine aops_nil ?_
  change Awp _ _ _ _ _
  refine awp_len (t := 6) rfl (fun hl6 => ?_)
  (try simp only [List.length_map] at hl6)
  refine awp_len (t := 8) rfl (fun hl8 => ?_)
  (try simp only [List.length_map] at hl8)
  refine awp_cond rfl (fun hc1 => ?_) (fun hc1 => ?_)
  ·
    (try simp only [decide_eq_true_eq, decide_eq_false_iff_not, Bool.and_eq_true, Bool.or_eq_true, Bool.and_eq_false_iff, Bool.or_eq_false_iff, Bool.not_eq_true', Bool.not_eq_false', Bool.not_true, Bool.not_false, bif_and, bif_or, Bool.not_not, ne_eq, Decidable.not_not, not_true_eq_false, not_false_eq_true, Int.not_le, Int.not_lt] at hc1)
    have hz : decide (a = b) = false := decide_eq_false (fun e => by subst e; omega)
    refine awp_seq ?_
    refine awp_region 1 mixed (by kernel_rfl) ?_
    refine rg_q (q_assign (x := .d (.v _)) rfl) ?_
    refine rg_nil ?_
    refine aops_nil ?_
    change Awp _ _ _ _ _
    refine awp_ret ?_
    refine ⟨_, (.cons (.tmp (by exact .d _)) .nil), ?_⟩
    rw [hz]; rfl
  ·
    (try simp only [decide_eq_true_eq, decide_eq_false_iff_not, Bool.and_eq_true, Bool.or_eq_true, Bool.and_eq_false_iff, Bool.or_eq_false_iff, Bool.not_eq_true', Bool.not_eq_false', Bool.not_true, Bool.not_false, bif_and, bif_or, Bool.not_not, ne_eq, Decidable.not_not, not_true_eq_false, not_false_eq_true, Int.not_le, Int.not_lt] at hc1)
    have hab : a.length = b.length := by omega
    refine awp_skip ?_
    change Awp _ _ _ _ _
    refine awp_seq ?_
    refine awp_seq ?_
    refine awp_region 1 mixed (by kernel_rfl) ?_
    refine rg_q (q_assign (x := .d (.v _)) rfl) ?_
    refine rg_nil ?_
    refine aops_nil ?_
    change Awp _ _ _ _ _
    refine awp_block ?_
    refine awp_loopH [4, 5, 11, 12, 13, 14, 15, 16, 17, 18, 19, 20, 21, 22, 23, 24, 25] [] (α := Nat) (fun k => [(5, T.i (k : Int))]) (fun k => []) (fun k => k ≤ a.length ∧ decide (a = b) = decide (a.drop k = b.drop k)) (fun k => a.length - k) 0 ⟨Nat.zero_le _, rfl⟩ ?_ ?_
    · exact le_head (ms := []) (by repeat (exact Out.refl _)) ⟨(by rfl), trivial⟩ trivial rfl rfl rfl rfl
    ·
      intro k ⟨hk, hh⟩
      refine awp_seq ?_
      refine awp_seq ?_
      refine awp_region 4 mixed (by kernel_rfl) ?_
      refine rg_q (q_move (x := .d (.v _)) rfl) ?_
      refine rg_q (q_move (x := .d (.sl _ _)) rfl) ?_
      refine rg_q (q_len isl77 rfl (by exact len_map _ _)) ?_
      refine rg_q (q_lss rfl rfl) ?_
      refine rg_nil ?_
      refine aops_nil ?_
      change Awp _ _ _ _ _
      refine awp_len (t := 12) rfl (fun hl12 => ?_)
      (try simp only [List.length_map] at hl12)
      refine awp_cond rfl (fun hc4 => ?_) (fun hc4 => ?_)
      ·
        (try simp only [decide_eq_true_eq, decide_eq_false_iff_not, Bool.and_eq_true, Bool.or_eq_true, Bool.and_eq_false_iff, Bool.or_eq_false_iff, Bool.not_eq_true', Bool.not_eq_false', Bool.not_true, Bool.not_false, bif_and, bif_or, Bool.not_not, ne_eq, Decidable.not_not, not_true_eq_false, not_false_eq_true, Int.not_le, Int.not_lt] at hc4)
        have hlt : k < a.length := by omega
        have hx := List.getElem?_eq_getElem hlt
        have hy := List.getElem?_eq_getElem (show k < b.length by omega)
        have hda : a.drop k = a[k] :: a.drop (k + 1) := List.drop_eq_getElem_cons hlt
        have hdb : b.drop k = b[k] :: b.drop (k + 1) := List.drop_eq_getElem_cons _
        generalize a[k] = x at *
        generalize b[k]'_ = y at *
        refine awp_skip ?_
        change Awp _ _ _ _ _
        refine awp_seq ?_
        refine awp_block ?_
        refine awp_seq ?_
        refine awp_region 9 mixed (by kernel_rfl) ?_
        refine rg_q (q_move (x := .d (.sl _ _)) rfl) ?_
        refine rg_q (q_move (x := .d (.v _)) rfl) ?_
        refine rg_q (q_indexAddr sl77 rfl rfl (by (omega)) (map_at (by (omega)) hx)) ?_
        refine rg_q (q_load sz4 rfl rfl) ?_
        refine rg_q (q_move (x := .d (.sl _ _)) rfl) ?_
        refine rg_q (q_move (x := .d (.v _)) rfl) ?_
        refine rg_q (q_indexAddr sl77 rfl rfl (by (omega)) (map_at (by (omega)) hy)) ?_
        refine rg_q (q_load sz4 rfl rfl) ?_
        refine rg_q (q_neqB (by kernel_rfl) rfl rfl) ?_
        refine rg_nil ?_
        refine aops_nil ?_
        change Awp _ _ _ _ _
        refine awp_cond rfl (fun hc6 => ?_) (fun hc6 => ?_)
        ·
          (try simp only [decide_eq_true_eq, decide_eq_false_iff_not, Bool.and_eq_true, Bool.or_eq_true, Bool.and_eq_false_iff, Bool.or_eq_false_iff, Bool.not_eq_true', Bool.not_eq_false', Bool.not_true, Bool.not_false, bif_and, bif_or, Bool.not_not, ne_eq, Decidable.not_not, not_true_eq_false, not_false_eq_true, Int.not_le, Int.not_lt] at hc6)
          have hz : decide (a = b) = false := by rw [hh, hda, hdb]; exact decide_eq_false (fun e => hc6 (List.cons.inj e).1)
          refine awp_seq ?_
          refine awp_region 1 mixed (by kernel_rfl) ?_
          refine rg_q (q_assign (x := .d (.v _)) rfl) ?_
          refine rg_nil ?_
          refine aops_nil ?_
          change Awp _ _ _ _ _
          refine awp_ret ?_
          refine ⟨_, (.cons (.tmp (by exact .d _)) .nil), ?_⟩
          rw [hz]; rfl
        ·
          (try simp only [decide_eq_true_eq, decide_eq_false_iff_not, Bool.and_eq_true, Bool.or_eq_true, Bool.and_eq_false_iff, Bool.or_eq_false_iff, Bool.not_eq_true', Bool.not_eq_false', Bool.not_true, Bool.not_false, bif_and, bif_or, Bool.not_not, ne_eq, Decidable.not_not, not_true_eq_false, not_false_eq_true, Int.not_le, Int.not_lt] at hc6)
          have hnx : decide (a = b) = decide (a.drop (k + 1) = b.drop (k + 1)) := by rw [hh, hda, hdb, hc6]; simp
          refine awp_skip ?_
          change Awp _ _ _ _ _
          refine awp_region 3 mixed (by kernel_rfl) ?_
          refine rg_q (q_move (x := .d (.v _)) rfl) ?_
          refine rg_q (q_add rfl rfl (In64.mk (by (omega)) (by (omega)))) ?_
          refine rg_q (q_assign (x := .d (.v _)) rfl) ?_
          refine rg_nil ?_
          refine aops_nil ?_
          refine ⟨k + 1, ⟨by omega, hnx⟩, by omega, ?_⟩
          exact le_head (ms := []) (by repeat (first | exact Out.head rfl rfl | (refine Out.put ?_ rfl))) ⟨(by rfl), trivial⟩ trivial rfl rfl rfl rfl
      ·
        (try simp only [decide_eq_true_eq, decide_eq_false_iff_not, Bool.and_eq_true, Bool.or_eq_true, Bool.and_eq_false_iff, Bool.or_eq_false_iff, Bool.not_eq_true', Bool.not_eq_false', Bool.not_true, Bool.not_false, bif_and, bif_or, Bool.not_not, ne_eq, Decidable.not_not, not_true_eq_false, not_false_eq_true, Int.not_le, Int.not_lt] at hc4)
        have hz : decide (a = b) = true := by rw [hh, List.drop_of_length_le (by omega), List.drop_of_length_le (by omega)]; rfl
        refine awp_exit ?_
        change Awp _ _ _ _ _
        refine awp_seq ?_
        refine awp_region 1 mixed (by kernel_rfl) ?_
        refine rg_q (q_assign (x := .d (.v _)) rfl) ?_
        refine rg_nil ?_
        refine aops_nil ?_
        change Awp _ _ _ _ _
        refine awp_ret ?_
        refine ⟨_, (.cons (.tmp (by exact .d _)) .nil), ?_⟩
        rw [hz]; rfl
set_option maxRecDepth 100000 in
theorem rToDo_p (l : List Stp) (ev : List Evt) (m : Int) (hr : RightS l) (hl : ev.length ≤ 1000) (hev : ∀ e ∈ ev, EvOk e) : PC Try.prog 55 [.sl 4 (l.map stepC), .sl 3 (ev.map evC), .v (.int .i64 (m))] (.sl 1 ((todoTo l (bookOf l ev) m l.length).map iC)) := by
  have hva := rValidAt_p l ev m hr hl hev
  have hfew := hr.few
  generalize bookOf l ev = B at *
  refine pc_of_awp Try.func55 rfl Try.ntmps55 (rs := [.tmp 6]) Try.results55 (by simp) fun w0 => ?_
  refine awp_seq ?_
  refine awp_region 1 mixed (by kernel_rfl) ?_
  refine rg_q (q_assign (x := .d (.sl _ _)) rfl) ?_
  refine rg_nil ?_
  refine aops_nil ?_
  change Awp _ _ _ _ _
  refine awp_seq ?_
  refine awp_region 1 mixed (by kernel_rfl) ?_
  refine rg_q (q_assign_nil) ?_
  refine rg_nil ?_
  refine aops_nil ?_
  change Awp _ _ _ _ _
  refine Awp.le (le_own (k := 7) (e := 3) (sz := 1) rfl rfl) ?_
  refine awp_seq ?_
  refine awp_region 5 mixed (by kernel_rfl) ?_
  refine rg_q (q_move (x := .d (.sl _ _)) rfl) ?_
  refine rg_q (q_move (x := .d (.sl _ _)) rfl) ?_
  refine rg_q (q_move (x := .d (.v _)) rfl) ?_
  refine rg_q (q_call en54 (.cons rfl (.cons rfl (.cons rfl .nil))) rfl (hva)) ?_
  refine rg_q (q_assign (x := .d (.sl _ _)) rfl) ?_
  refine rg_nil ?_
  refine aops_nil ?_
  change Awp _ _ _ _ _
  refine awp_seq ?_
  refine awp_seq ?_
  refine awp_region 1 mixed (by kernel_rfl) ?_
  refine rg_q (q_assign (x := .d (.v _)) rfl) ?_
  refine rg_nil ?_
  refine aops_nil ?_
  change Awp _ _ _ _ _
  refine awp_block ?_
  refine awp_loopH [7, 9, 14, 15, 16, 17, 18, 19, 20, 21, 22, 23, 24, 25, 26, 27, 28] [7] (α := Nat) (fun k => [(9, T.i (k : Int)), (7, .rs 7)]) (fun k => [(7, .row 3 1 ((todoTo l B m k).map iC))]) (fun k => k ≤ l.length ∧ (todoTo l B m k).length ≤ k) (fun k => l.length - k) 0 ⟨Nat.zero_le _, todo_len⟩ ?_ ?_
  · exact le_head (ms := [7]) (by repeat (exact Out.refl _)) ⟨(by rfl), (by rfl), trivial⟩ ⟨(by rfl), trivial⟩ rfl rfl rfl rfl
  ·
    intro k ⟨hk, ho⟩
    refine awp_seq ?_
    refine awp_seq ?_
    refine awp_region 4 mixed (by kernel_rfl) ?_
    refine rg_q (q_move (x := .d (.v _)) rfl) ?_
    refine rg_q (q_move (x := .d (.sl _ _)) rfl) ?_
    refine rg_q (q_len isl40 rfl (by exact len_map _ _)) ?_
    refine rg_q (q_lss rfl rfl) ?_
    refine rg_nil ?_
    refine aops_nil ?_
    change Awp _ _ _ _ _
    refine awp_len (t := 15) rfl (fun hl15 => ?_)
    (try simp only [List.length_map] at hl15)
    refine awp_cond rfl (fun hc4 => ?_) (fun hc4 => ?_)
    ·
      (try simp only [decide_eq_true_eq, decide_eq_false_iff_not, Bool.and_eq_true, Bool.or_eq_true, Bool.and_eq_false_iff, Bool.or_eq_false_iff, Bool.not_eq_true', Bool.not_eq_false', Bool.not_true, Bool.not_false, bif_and, bif_or, Bool.not_not, ne_eq, Decidable.not_not, not_true_eq_false, not_false_eq_true, Int.not_le, Int.not_lt] at hc4)
      have hlt : k < l.length := by omega
      have hvk := validL_at (L := B) (m := m) hlt
      have hvl := validL_len l B m
      have hnx := todo_next (l := l) (L := B) (m := m) (k := k)
      refine awp_skip ?_
      change Awp _ _ _ _ _
      refine awp_seq ?_
      refine awp_block ?_
      refine awp_seq ?_
      refine awp_region 5 mixed (by kernel_rfl) ?_
      refine rg_q (q_move (x := .d (.sl _ _)) rfl) ?_
      refine rg_q (q_move (x := .d (.v _)) rfl) ?_
      refine rg_q (q_indexAddr sl77 rfl rfl (by (omega)) (map_at (by (omega)) hvk)) ?_
      refine rg_q (q_load sz4 rfl rfl) ?_
      refine rg_q (q_not rfl) ?_
      refine rg_nil ?_
      refine aops_nil ?_
      change Awp _ _ _ _ _
      refine awp_cond rfl (fun hc6 => ?_) (fun hc6 => ?_)
      ·
        (try simp only [decide_eq_true_eq, decide_eq_false_iff_not, Bool.and_eq_true, Bool.or_eq_true, Bool.and_eq_false_iff, Bool.or_eq_false_iff, Bool.not_eq_true', Bool.not_eq_false', Bool.not_true, Bool.not_false, bif_and, bif_or, Bool.not_not, ne_eq, Decidable.not_not, not_true_eq_false, not_false_eq_true, Int.not_le, Int.not_lt] at hc6)
        rw [if_neg (by rw [hc6]; simp)] at hnx
        refine awp_region 3 mixed (by kernel_rfl) ?_
        refine rg_q (q_move (x := .rs _) rfl) ?_
        refine rg_q (q_move (x := .d (.v _)) rfl) ?_
        refine rg_q (q_buildSlice sl25 zr3 rfl rfl (by decide) (.cons rfl (by exact .inl rfl) .nil) ⟨rfl, rfl, trivial⟩ rfl (by decide) rfl) ?_
        refine rg_nil ?_
        refine aops_append sl25 zr3 by3 rfl (by decide) rfl rfl rfl rfl (by (try simp only [List.length_map, List.length_append, List.length_cons, List.length_nil]); omega) (by (try simp only [List.length_map, List.length_append, List.length_cons, List.length_nil]); omega) rfl rfl ?_
        refine aops_q rfl (q_assign (x := .rs _) rfl) ?_
        refine aops_nil ?_
        change Awp _ _ _ _ _
        refine awp_region 3 mixed (by kernel_rfl) ?_
        refine rg_q (q_move (x := .d (.v _)) rfl) ?_
        refine rg_q (q_add rfl rfl (In64.mk (by (omega)) (by (omega)))) ?_
        refine rg_q (q_assign (x := .d (.v _)) rfl) ?_
        refine rg_nil ?_
        refine aops_nil ?_
        refine ⟨k + 1, ⟨by omega, todo_len⟩, by omega, ?_⟩
        exact le_head (ms := [7]) (by repeat (first | exact Out.head rfl rfl | (refine Out.put ?_ rfl) | (refine Out.site ?_ rfl) | (refine Out.killS ?_ rfl))) ⟨(by rfl), (by rfl), trivial⟩ ⟨(by ((show Site.row 3 1 (List.map iC (todoTo l B m k) ++ [iC (k : Int)]) = _; rw [hnx]; simp; done))), trivial⟩ rfl rfl rfl rfl
      ·
        (try simp only [decide_eq_true_eq, decide_eq_false_iff_not, Bool.and_eq_true, Bool.or_eq_true, Bool.and_eq_false_iff, Bool.or_eq_false_iff, Bool.not_eq_true', Bool.not_eq_false', Bool.not_true, Bool.not_false, bif_and, bif_or, Bool.not_not, ne_eq, Decidable.not_not, not_true_eq_false, not_false_eq_true, Int.not_le, Int.not_lt] at hc6)
        have hv : validS l B k m = true := by simpa using hc6
        rw [if_pos hv] at hnx
        refine awp_skip ?_
        change Awp _ _ _ _ _
        refine awp_region 3 mixed (by kernel_rfl) ?_
        refine rg_q (q_move (x := .d (.v _)) rfl) ?_
        refine rg_q (q_add rfl rfl (In64.mk (by (omega)) (by (omega)))) ?_
        refine rg_q (q_assign (x := .d (.v _)) rfl) ?_
        refine rg_nil ?_
        refine aops_nil ?_
        refine ⟨k + 1, ⟨by omega, todo_len⟩, by omega, ?_⟩
        exact le_head (ms := [7]) (by repeat (first | exact Out.head rfl rfl | (refine Out.put ?_ rfl))) ⟨(by rfl), (by rfl), trivial⟩ ⟨(by ((show Site.row 3 1 (List.map iC (todoTo l B m k)) = _; rw [hnx]))), trivial⟩ rfl rfl rfl rfl
    ·
      (try simp only [decide_eq_true_eq, decide_eq_false_iff_not, Bool.and_eq_true, Bool.or_eq_true, Bool.and_eq_false_iff, Bool.or_eq_false_iff, Bool.not_eq_true', Bool.not_eq_false', Bool.not_true, Bool.not_false, bif_and, bif_or, Bool.not_not, ne_eq, Decidable.not_not, not_true_eq_false, not_false_eq_true, Int.not_le, Int.not_lt] at hc4)
      have hkl : k = l.length := by omega
      refine awp_exit ?_
      change Awp _ _ _ _ _
      refine awp_seq ?_
      refine awp_region 2 mixed (by kernel_rfl) ?_
      refine rg_q (q_move (x := .rs _) rfl) ?_
      refine rg_q (q_assign (x := .rs _) rfl) ?_
      refine rg_nil ?_
      refine aops_nil ?_
      change Awp _ _ _ _ _
      refine awp_ret ?_
      refine ⟨_, (.cons (.tmp (by exact .rs rfl)) .nil), ?_⟩
      rw [hkl]; rfl
end Go.Proofs.Ytgdcidbpadhkpaa.Am.M
