/- Contracts over the abstract machine: what is to do. Conditions: none. -/
import Derived.Test.YtgdcidbpadhkpaaP8
import Derived.Test.YtgdcidbpadhkpaaAm26
set_option linter.unusedVariables false
set_option linter.unusedSimpArgs false
namespace Go.Proofs.Ytgdcidbpadhkpaa.Am.M
open Go
set_option maxRecDepth 100000 in
theorem copyEventsN_p (l : List Evt) (hl : l.length ≤ 1000) : PCS Try.prog 31 [.d (.sl 3 (l.map evC))] [] (.rs 0) [.row 90 3 (l.map evC)] := by
  refine pcs_of_awp Try.func31 rfl Try.ntmps31 (rs := [.tmp 2]) Try.results31 (by simp) fun w0 => ?_
  refine awp_seq ?_
  refine awp_region 1 mixed (by kernel_rfl) ?_
  first | refine rg_q (q_assign (x := .d (.sl _ _)) rfl) ?_ | refine rg_q (q_assign (x := .rs _) rfl) ?_ | refine rg_q (q_assign (x := .d (.v _)) rfl) ?_
  refine rg_nil ?_
  refine aops_nil ?_
  change Awp _ _ _ _ _
  refine awp_seq ?_
  refine awp_region 0 mixed (by kernel_rfl) ?_
  refine rg_nil ?_
  refine aops_empty sl41 zr90 rfl rfl ?_
  first | refine aops_q rfl (q_move (x := .d (.sl _ _)) rfl) ?_ | refine aops_q rfl (q_move (x := .rs _) rfl) ?_ | refine aops_q rfl (q_move (x := .d (.v _)) rfl) ?_
  first | refine aops_append sl41 zr90 by90 rfl (by decide) rfl rfl rfl rfl (by (try simp only [List.length_map, List.length_append, List.length_cons, List.length_nil]); omega) (by (try simp only [List.length_map, List.length_append, List.length_cons, List.length_nil]); omega) rfl rfl ?_ | refine aops_appendR sl41 zr90 by90 rfl (by decide) rfl rfl rfl rfl rfl (by (try simp only [List.length_map, List.length_append, List.length_cons, List.length_nil]); omega) (by (try simp only [List.length_map, List.length_append, List.length_cons, List.length_nil]); omega) rfl rfl ?_
  first | refine aops_q rfl (q_assign (x := .d (.sl _ _)) rfl) ?_ | refine aops_q rfl (q_assign (x := .rs _) rfl) ?_ | refine aops_q rfl (q_assign (x := .d (.v _)) rfl) ?_
  refine aops_nil ?_
  change Awp _ _ _ _ _
  refine awp_ret ?_
  exact end_mk (.inl rfl) [3] (.tmp rfl) (by repeat (first | exact trivial | refine ⟨rfl, ?_⟩)) rfl

theorem evC_flat (l : List Evt) : FlatS (.row 90 3 (l.map evC)) := flat_row evC 90 3 l fun x d hd => by
  simp only [evC, List.mem_cons, List.not_mem_nil, or_false] at hd
  rcases hd with rfl | rfl | rfl <;> exact .v _
theorem tmod_emod {n b : Int} (hb : 0 < b) : n % b = if n.tmod b < 0 then n.tmod b + b else n.tmod b := by
  have h1 := Int.mul_tdiv_add_tmod n b
  have h2 := Int.mul_ediv_add_emod n b
  have h3 := Int.emod_nonneg n (by omega : b ≠ 0)
  have h4 := Int.emod_lt_of_pos n hb
  have h5 := floor_law (n := n) hb
  split
  · rename_i h
    rw [if_pos h] at h5
    rw [← h5, Int.mul_sub] at h2
    omega
  · rename_i h
    rw [if_neg h] at h5
    rw [← h5] at h2
    omega
set_option maxRecDepth 100000 in
theorem Mod_p (n b : Int) (hb : 0 < b) (hb2 : b ≤ 1000) : PC Try.prog 56 [.v (.int .i64 (n)), .v (.int .i64 (b))] (.v (.int .i64 (n % b))) := by
  have hm := tmod_emod (n := n) hb
  have hq : -1000 ≤ n.tmod b ∧ n.tmod b ≤ 1000 := by
    have := Int.emod_nonneg n (by omega : b ≠ 0)
    have := Int.emod_lt_of_pos n hb
    split at hm <;> omega
  refine pc_of_awp Try.func56 rfl Try.ntmps56 (rs := [.tmp 4]) Try.results56 (by simp) fun w0 => ?_
  refine awp_seq ?_
  refine awp_region 1 mixed (by kernel_rfl) ?_
  refine rg_q (q_assign (x := .d (.v _)) rfl) ?_
  refine rg_nil ?_
  refine aops_nil ?_
  change Awp _ _ _ _ _
  refine awp_seq ?_
  refine awp_region 4 mixed (by kernel_rfl) ?_
  refine rg_q (q_move (x := .d (.v _)) rfl) ?_
  refine rg_q (q_move (x := .d (.v _)) rfl) ?_
  refine rg_q (q_rem rfl rfl (by omega)) ?_
  refine rg_q (q_assign (x := .d (.v _)) rfl) ?_
  refine rg_nil ?_
  refine aops_nil ?_
  change Awp _ _ _ _ _
  refine awp_seq ?_
  refine awp_seq ?_
  refine awp_region 2 mixed (by kernel_rfl) ?_
  refine rg_q (q_move (x := .d (.v _)) rfl) ?_
  refine rg_q (q_lss rfl rfl) ?_
  refine rg_nil ?_
  refine aops_nil ?_
  change Awp _ _ _ _ _
  refine awp_cond rfl (fun hc2 => ?_) (fun hc2 => ?_)
  ·
    (try simp only [decide_eq_true_eq, decide_eq_false_iff_not, Bool.and_eq_true, Bool.or_eq_true, Bool.and_eq_false_iff, Bool.or_eq_false_iff, Bool.not_eq_true', Bool.not_eq_false', Bool.not_true, Bool.not_false, bif_and, bif_or, Bool.not_not, ne_eq, Decidable.not_not, not_true_eq_false, not_false_eq_true, Int.not_le, Int.not_lt] at hc2)
    rw [if_pos hc2] at hm
    refine awp_region 4 mixed (by kernel_rfl) ?_
    refine rg_q (q_move (x := .d (.v _)) rfl) ?_
    refine rg_q (q_move (x := .d (.v _)) rfl) ?_
    refine rg_q (q_add rfl rfl (In64.mk (by omega) (by omega))) ?_
    refine rg_q (q_assign (x := .d (.v _)) rfl) ?_
    refine rg_nil ?_
    refine aops_nil ?_
    change Awp _ _ _ _ _
    refine awp_seq ?_
    refine awp_region 2 mixed (by kernel_rfl) ?_
    refine rg_q (q_move (x := .d (.v _)) rfl) ?_
    refine rg_q (q_assign (x := .d (.v _)) rfl) ?_
    refine rg_nil ?_
    refine aops_nil ?_
    change Awp _ _ _ _ _
    refine awp_ret ?_
    refine ⟨_, (.cons (.tmp (by first | exact .d _ | exact .rs rfl | exact .ref rfl | exact .tref rfl (.cons (.d _ rfl) (.cons (.rs rfl) .nil)))) .nil), ?_⟩
    rw [hm]; rfl
  ·
    (try simp only [decide_eq_true_eq, decide_eq_false_iff_not, Bool.and_eq_true, Bool.or_eq_true, Bool.and_eq_false_iff, Bool.or_eq_false_iff, Bool.not_eq_true', Bool.not_eq_false', Bool.not_true, Bool.not_false, bif_and, bif_or, Bool.not_not, ne_eq, Decidable.not_not, not_true_eq_false, not_false_eq_true, Int.not_le, Int.not_lt] at hc2)
    rw [if_neg (by omega)] at hm
    refine awp_skip ?_
    change Awp _ _ _ _ _
    refine awp_seq ?_
    refine awp_region 2 mixed (by kernel_rfl) ?_
    refine rg_q (q_move (x := .d (.v _)) rfl) ?_
    refine rg_q (q_assign (x := .d (.v _)) rfl) ?_
    refine rg_nil ?_
    refine aops_nil ?_
    change Awp _ _ _ _ _
    refine awp_ret ?_
    refine ⟨_, (.cons (.tmp (by first | exact .d _ | exact .rs rfl | exact .ref rfl | exact .tref rfl (.cons (.d _ rfl) (.cons (.rs rfl) .nil)))) .nil), ?_⟩
    rw [hm]; rfl

theorem todo_mem {l : List Stp} {L : List Lst} {m : Int} {k : Nat} {x : Int} (h : x ∈ todoTo l L m k) : ∃ n : Nat, x = (n : Int) ∧ n < k ∧ validS l L n m = false := by
  unfold todoTo at h
  obtain ⟨n, hn, rfl⟩ := List.mem_map.1 h
  obtain ⟨h1, h2⟩ := List.mem_filter.1 hn
  exact ⟨n, rfl, List.mem_range.1 h1, by simpa using h2⟩
theorem todo_asc (l : List Stp) (L : List Lst) (m : Int) (k : Nat) : (todoTo l L m k).Pairwise (· < ·) := by
  unfold todoTo
  rw [List.pairwise_map]
  exact (List.pairwise_lt_range.filter _).imp fun h => by omega
theorem todo_ne {X : List Int} (h : X.Pairwise (· < ·)) {i j : Nat} {x y : Int} (hx : X[i]? = some x) (hy : X[j]? = some y) (hij : i ≠ j) : x ≠ y := by
  obtain ⟨h1, rfl⟩ := List.getElem?_eq_some_iff.1 hx
  obtain ⟨h2, rfl⟩ := List.getElem?_eq_some_iff.1 hy
  rcases Nat.lt_or_gt_of_ne hij with h3 | h3
  · have := List.pairwise_iff_getElem.1 h i j h1 h2 h3; omega
  · have := List.pairwise_iff_getElem.1 h j i h2 h1 h3; omega
theorem minE_app {ev G : List Evt} {m : Int} (h : minE ev m = 0) (hG : ∀ e ∈ G, e.minute = m) : minE (ev ++ G) m = 0 := by
  rcases snoc_cases G with rfl | ⟨ys, z, rfl⟩
  · rw [List.append_nil]; exact h
  · have hin : inR 0 m 100000000 = true := by
      cases hi : inR 0 m 100000000 with
      | true => rfl
      | false => unfold minE at h; rw [if_pos hi] at h; cases h
    unfold minE
    rw [if_neg (by rw [hin]; simp), if_neg]
    rintro ⟨_, h2⟩
    have hz : (ev ++ (ys ++ [z]))[(ev ++ (ys ++ [z])).length - 1]? = some z := by
      rw [← List.append_assoc]; simp
    rw [getD_at hz, hG z (by simp)] at h2
    omega
theorem at_app {l : List Stp} {ev G : List Evt} {m : Int} (h : (followS l (ev ++ G)).2.2 = 0) (hM : minE ev m = 0) (hG : ∀ e ∈ G, e.minute = m) : atE l (ev ++ G) m = 0 := by
  unfold atE; rw [if_neg (by rw [h]; simp), minE_app hM hG]
end Go.Proofs.Ytgdcidbpadhkpaa.Am.M
