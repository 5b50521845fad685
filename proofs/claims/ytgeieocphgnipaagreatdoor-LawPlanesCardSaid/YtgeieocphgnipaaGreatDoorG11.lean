/- Contracts over the abstract machine: sums: the reference, LawSums. Conditions: none. -/
import Derived.Test.YtgeieocphgnipaaGreatDoorG10
set_option linter.unusedVariables false
set_option linter.unusedSimpArgs false
-- mini
namespace Go.Proofs.YtgeieocphgnipaaGreatDoor.Am.M
open Go

def lwoR (c : Int) (l : List Int) : Dly × Int := if l.all (fun x => decide (x ≤ 1000000)) = true then (⟨c, l⟩, 0) else (⟨0, []⟩, 8)
theorem lwo_ok {c : Int} {l : List Int} (h : ∀ x ∈ l, x ≤ 1000000) : lwoR c l = (⟨c, l⟩, 0) := by
  unfold lwoR; rw [if_pos (List.all_eq_true.2 fun x hx => decide_eq_true (h x hx))]
theorem lwo_bad {c : Int} {l : List Int} {x : Int} (hx : x ∈ l) (h : 1000000 < x) : lwoR c l = (⟨0, []⟩, 8) := by
  unfold lwoR
  rw [if_neg]
  intro hh
  have := of_decide_eq_true (List.all_eq_true.1 hh x hx)
  omega
theorem lwo_blt (f : Int → Int) (c : Int) (n : Nat) : lwoR c (bltL f n) = bltR f c n := by
  rcases bltR_cases f c n with ⟨h1, h2⟩ | h
  · rw [h2]
    refine lwo_ok fun x hx => ?_
    obtain ⟨i, hi, rfl⟩ := List.mem_map.1 hx
    exact h1 i (List.mem_range.1 hi)
  · rw [h]
    by_cases hh : ∀ i : Nat, i < n → f (i : Int) ≤ 1000000
    · rw [bltR_ok hh] at h
      exact absurd (show (0 : Int) = 8 from congrArg Prod.snd h) (by decide)
    · have ⟨i, hi⟩ := Classical.not_forall.1 hh
      have ⟨hi1, hi2⟩ := Classical.not_imp.1 hi
      exact lwo_bad (List.mem_map.2 ⟨i, List.mem_range.2 hi1, rfl⟩) (by omega)
set_option maxRecDepth 100000 in
theorem lawOf_p (c : Int) (l : List Int) : PC Tryz.prog 86 [.v (.int .i64 (c)), .sl 1 (l.map iC)] (.tup [.agg (dlyC (lwoR c l).1), .v (.int .i64 ((lwoR c l).2))]) := by
  refine pc_of_awp Tryz.func86 rfl Tryz.ntmps86 (rs := [.cell 4 33, .tmp 5]) Tryz.results86 (by simp) fun w0 => ?_
  refine awp_seq ?_
  refine awp_region 0 mixed (by kernel_rfl) ?_
  refine rg_nil ?_
  refine aops_alloc zr33 rfl rfl rfl ?_
  refine aops_q rfl (q_assign (x := .d (.v _)) rfl) ?_
  refine aops_nil ?_
  change Awp _ _ _ _ _
  refine awp_seq ?_
  refine awp_seq ?_
  refine awp_region 1 mixed (by kernel_rfl) ?_
  refine rg_q (q_assign (x := .d (.v _)) rfl) ?_
  refine rg_nil ?_
  refine aops_nil ?_
  change Awp _ _ _ _ _
  refine awp_block ?_
  refine awp_loopH [5, 6, 7, 8, 9, 10, 11, 12, 13, 14, 15, 16, 17, 18] [] (α := Nat) (fun k => [(6, T.i (k : Int))]) (fun k => []) (fun k => k ≤ l.length ∧ ∀ x ∈ l.take k, x ≤ 1000000) (fun k => l.length - k) 0 ⟨Nat.zero_le _, fun x hx => by cases hx⟩ ?_ ?_
  · exact le_head (ms := []) (by repeat (exact Out.refl _)) ⟨(by rfl), trivial⟩ trivial rfl rfl rfl rfl
  ·
    intro k ⟨hk, hall⟩
    refine awp_seq ?_
    refine awp_seq ?_
    refine awp_region 4 mixed (by kernel_rfl) ?_
    refine rg_q (q_move (x := .d (.v _)) rfl) ?_
    refine rg_q (q_move (x := .d (.sl _ _)) rfl) ?_
    refine rg_q (q_len isl31 rfl (by exact len_map _ _)) ?_
    refine rg_q (q_lss rfl rfl) ?_
    refine rg_nil ?_
    refine aops_nil ?_
    change Awp _ _ _ _ _
    refine awp_len (t := 8) rfl (fun hl8 => ?_)
    (try simp only [List.length_map] at hl8)
    refine awp_cond rfl (fun hc2 => ?_) (fun hc2 => ?_)
    ·
      (try simp only [decide_eq_true_eq, decide_eq_false_iff_not, Bool.and_eq_true, Bool.or_eq_true, Bool.and_eq_false_iff, Bool.or_eq_false_iff, Bool.not_eq_true', Bool.not_eq_false', Bool.not_true, Bool.not_false, bif_and, bif_or, Bool.not_not, ne_eq, Decidable.not_not, not_true_eq_false, not_false_eq_true, Int.not_le, Int.not_lt] at hc2)
      have hlt : k < l.length := by omega
      obtain ⟨y, hx⟩ : ∃ y, l[k]? = some y := ⟨_, List.getElem?_eq_getElem hlt⟩
      have hsk0 : l.take (k + 1) = l.take k ++ [y] := by rw [List.take_succ_eq_append_getElem hlt, (List.getElem?_eq_some_iff.1 hx).2]
      refine awp_skip ?_
      change Awp _ _ _ _ _
      refine awp_seq ?_
      refine awp_block ?_
      refine awp_seq ?_
      refine awp_region 5 mixed (by kernel_rfl) ?_
      refine rg_q (q_move (x := .d (.sl _ _)) rfl) ?_
      refine rg_q (q_move (x := .d (.v _)) rfl) ?_
      refine rg_q (q_indexAddr sl31 rfl rfl (by omega) (map_at (by omega) hx)) ?_
      refine rg_q (q_load sz3 rfl rfl) ?_
      refine rg_q (q_gtr rfl rfl) ?_
      refine rg_nil ?_
      refine aops_nil ?_
      change Awp _ _ _ _ _
      refine awp_cond rfl (fun hc4 => ?_) (fun hc4 => ?_)
      ·
        (try simp only [decide_eq_true_eq, decide_eq_false_iff_not, Bool.and_eq_true, Bool.or_eq_true, Bool.and_eq_false_iff, Bool.or_eq_false_iff, Bool.not_eq_true', Bool.not_eq_false', Bool.not_true, Bool.not_false, bif_and, bif_or, Bool.not_not, ne_eq, Decidable.not_not, not_true_eq_false, not_false_eq_true, Int.not_le, Int.not_lt] at hc4)
        have hz := lwo_bad (c := c) (List.mem_of_getElem? hx) (by omega)
        refine awp_seq ?_
        refine awp_region 1 mixed (by kernel_rfl) ?_
        refine rg_q (q_build (cs := [_, _]) pl33 zr33 rfl .nil trivial rfl) ?_
        refine rg_nil ?_
        refine aops_store sz33 rfl rfl (by exact .inr ⟨_, rfl⟩) rfl rfl (by decide) rfl ?_
        refine aops_q rfl (q_assign (x := .d (.v _)) rfl) ?_
        refine aops_nil ?_
        change Awp _ _ _ _ _
        refine Awp.le (le_upB 4 (dlyC ⟨0, []⟩) rfl (.cons (.same _) (.cons (.nil 1) .nil))) ?_
        refine awp_ret ?_
        refine ⟨_, (.cons (.cellA rfl rfl sz33 rfl) (.cons (.tmp (by exact .d _)) .nil)), ?_⟩
        rw [hz]; rfl
      ·
        (try simp only [decide_eq_true_eq, decide_eq_false_iff_not, Bool.and_eq_true, Bool.or_eq_true, Bool.and_eq_false_iff, Bool.or_eq_false_iff, Bool.not_eq_true', Bool.not_eq_false', Bool.not_true, Bool.not_false, bif_and, bif_or, Bool.not_not, ne_eq, Decidable.not_not, not_true_eq_false, not_false_eq_true, Int.not_le, Int.not_lt] at hc4)
        have hall2 : ∀ x ∈ l.take (k + 1), x ≤ 1000000 := fun x hx => by
          rw [hsk0] at hx
          rcases List.mem_append.1 hx with hx | hx
          · exact hall x hx
          · rw [List.mem_singleton.1 hx]; omega
        refine awp_skip ?_
        change Awp _ _ _ _ _
        refine awp_region 3 mixed (by kernel_rfl) ?_
        refine rg_q (q_move (x := .d (.v _)) rfl) ?_
        refine rg_q (q_add rfl rfl (In64.mk (by omega) (by omega))) ?_
        refine rg_q (q_assign (x := .d (.v _)) rfl) ?_
        refine rg_nil ?_
        refine aops_nil ?_
        refine ⟨k + 1, ⟨by omega, hall2⟩, by omega, ?_⟩
        exact le_head (ms := []) (by repeat (first | exact Out.head rfl rfl | (refine Out.put ?_ rfl))) ⟨(by rfl), trivial⟩ trivial rfl rfl rfl rfl
    ·
      (try simp only [decide_eq_true_eq, decide_eq_false_iff_not, Bool.and_eq_true, Bool.or_eq_true, Bool.and_eq_false_iff, Bool.or_eq_false_iff, Bool.not_eq_true', Bool.not_eq_false', Bool.not_true, Bool.not_false, bif_and, bif_or, Bool.not_not, ne_eq, Decidable.not_not, not_true_eq_false, not_false_eq_true, Int.not_le, Int.not_lt] at hc2)
      have hkn : k = l.length := by omega
      subst hkn
      rw [List.take_length] at hall
      have hz := lwo_ok (c := c) hall
      refine awp_exit ?_
      change Awp _ _ _ _ _
      refine awp_seq ?_
      refine awp_region 3 mixed (by kernel_rfl) ?_
      refine rg_q (q_move (x := .d (.v _)) rfl) ?_
      refine rg_q (q_move (x := .d (.sl _ _)) rfl) ?_
      refine rg_q (q_build (cs := [_, _]) pl33 zr33 rfl (.cons rfl (by exact .inl rfl) (.cons rfl (by exact .inl rfl) .nil)) ⟨⟨rfl, by decide⟩, ⟨rfl, by decide⟩, trivial⟩ rfl) ?_
      refine rg_nil ?_
      refine aops_store sz33 rfl rfl (by exact .inr ⟨_, rfl⟩) rfl rfl (by decide) rfl ?_
      refine aops_q rfl (q_assign (x := .d (.v _)) rfl) ?_
      refine aops_nil ?_
      change Awp _ _ _ _ _
      refine awp_ret ?_
      refine ⟨_, (.cons (.cellA rfl rfl sz33 rfl) (.cons (.tmp (by exact .d _)) .nil)), ?_⟩
      rw [hz]; rfl

theorem addF_at {x y : Dly} {i : Nat} {m n : Int} (hx : x.tk[i]? = some m) (hy : y.tk[i]? = some n) : chgF x (addF y) (i : Int) = if 0 ≤ m then (if 0 ≤ n then m + n else -1) else -1 := by
  unfold chgF addF
  rw [tkA_at hx, tkA_at hy]
theorem add_comm {x y : Dly} (h : (addR x y).2 = 0) : addR y x = addR x y := by
  by_cases h0 : addE x y = 0
  · obtain ⟨h1, h2⟩ := addE_ok h0
    have h0' : addE y x = 0 := by unfold addE; rw [h1, h2]; rfl
    have e1 : addR x y = if x.ck ≠ y.ck then (⟨0, []⟩, 23) else if (x.tk.length : Int) ≠ y.tk.length then (⟨0, []⟩, 10) else bltR (chgF x (addF y)) x.ck x.tk.length := by unfold addR; rw [if_neg (fun q => q h0)]
    have e2 : addR y x = if y.ck ≠ x.ck then (⟨0, []⟩, 23) else if (y.tk.length : Int) ≠ x.tk.length then (⟨0, []⟩, 10) else bltR (chgF y (addF x)) y.ck y.tk.length := by unfold addR; rw [if_neg (fun q => q h0')]
    rw [e1] at h
    rw [e1, e2]
    by_cases hc : x.ck = y.ck
    · rw [if_neg (fun q => q hc)] at h
      rw [if_neg (show ¬ y.ck ≠ x.ck from fun q => q hc.symm), if_neg (show ¬ x.ck ≠ y.ck from fun q => q hc)]
      by_cases hl : (x.tk.length : Int) = y.tk.length
      · rw [if_neg (show ¬ (y.tk.length : Int) ≠ x.tk.length from fun q => q hl.symm), if_neg (show ¬ (x.tk.length : Int) ≠ y.tk.length from fun q => q hl), ← hc]
        have hl' : y.tk.length = x.tk.length := by omega
        rw [hl']
        refine bltR_congr fun i hi => ?_
        have hx := List.getElem?_eq_getElem hi
        have hy := List.getElem?_eq_getElem (l := y.tk) (i := i) (by omega)
        rw [addF_at hx hy, addF_at hy hx]
        split <;> split <;> omega
      · rw [if_pos hl] at h; cases h
    · rw [if_pos hc] at h; cases h
  · unfold addR at h
    rw [if_pos h0] at h
    exact absurd h h0
end Go.Proofs.YtgeieocphgnipaaGreatDoor.Am.M
