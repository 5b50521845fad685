/- Contracts over the abstract machine: pitches: the reference, LawLobes. Conditions: none. -/
import Derived.Test.YtgeieocphgnipaaGreatDoorG8
set_option linter.unusedVariables false
set_option linter.unusedSimpArgs false
-- mini
namespace Go.Proofs.YtgeieocphgnipaaGreatDoor.Am.M
open Go

def sndE (v k : Int) : Int := if (!inR 500 v 10000 || !inR 1 k 50000) = true then 2 else 0
theorem speedE_eq (v : Int) : speedE v = if inR 500 v 10000 = true then 0 else 2 := by unfold speedE mustI; rfl
set_option maxRecDepth 100000 in
theorem soundErr_p (v k : Int) : PC Tryz.prog 114 [.v (.int .i64 (v)), .v (.int .i64 (k))] (.v (.int .i64 (sndE v k))) := by
  have hs := speedE_eq v
  refine pc_of_awp Tryz.func114 rfl Tryz.ntmps114 (rs := [.tmp 4]) Tryz.results114 (by simp) fun w0 => ?_
  refine awp_seq ?_
  refine awp_region 1 mixed (by kernel_rfl) ?_
  refine rg_q (q_assign (x := .d (.v _)) rfl) ?_
  refine rg_nil ?_
  refine aops_nil ?_
  change Awp _ _ _ _ _
  refine awp_seq ?_
  refine awp_seq ?_
  refine awp_region 8 mixed (by kernel_rfl) ?_
  refine rg_q (q_move (x := .d (.v _)) rfl) ?_
  refine rg_q (q_call en140 (.cons rfl .nil) rfl (xspeedErr_p _)) ?_
  refine rg_q (q_neq rfl rfl) ?_
  refine rg_q (q_move (x := .d (.v _)) rfl) ?_
  refine rg_g rfl rfl (fun hG => (q_move (x := .d (.v _)) rfl)) ?_
  refine rg_g rfl rfl (fun hG => (q_call en34 (.cons rfl (.cons rfl (.cons rfl .nil))) rfl (Within_p _ _ _))) ?_
  refine rg_g rfl rfl (fun hG => (q_not rfl)) ?_
  refine rg_pick rfl rfl rfl rfl rfl rfl ?_
  refine rg_nil ?_
  refine aops_nil ?_
  change Awp _ _ _ _ _
  refine awp_cond rfl (fun hc1 => ?_) (fun hc1 => ?_)
  ·
    (try simp only [decide_eq_true_eq, decide_eq_false_iff_not, Bool.and_eq_true, Bool.or_eq_true, Bool.and_eq_false_iff, Bool.or_eq_false_iff, Bool.not_eq_true', Bool.not_eq_false', Bool.not_true, Bool.not_false, bif_and, bif_or, Bool.not_not, ne_eq, Decidable.not_not, not_true_eq_false, not_false_eq_true, Int.not_le, Int.not_lt] at hc1)
    have hz : sndE v k = 2 := by unfold sndE; rw [if_pos (by rw [hs] at hc1; cases h1 : inR 500 v 10000 <;> simp_all)]
    refine awp_seq ?_
    refine awp_region 1 mixed (by kernel_rfl) ?_
    refine rg_q (q_assign (x := .d (.v _)) rfl) ?_
    refine rg_nil ?_
    refine aops_nil ?_
    change Awp _ _ _ _ _
    refine awp_ret ?_
    refine ⟨_, (.cons (.tmp (by exact .d _)) .nil), ?_⟩
    rw [hz]; rfl
  ·
    (try simp only [decide_eq_true_eq, decide_eq_false_iff_not, Bool.and_eq_true, Bool.or_eq_true, Bool.and_eq_false_iff, Bool.or_eq_false_iff, Bool.not_eq_true', Bool.not_eq_false', Bool.not_true, Bool.not_false, bif_and, bif_or, Bool.not_not, ne_eq, Decidable.not_not, not_true_eq_false, not_false_eq_true, Int.not_le, Int.not_lt] at hc1)
    have hz : sndE v k = 0 := by unfold sndE; rw [if_neg (by rw [hs] at hc1; cases h1 : inR 500 v 10000 <;> simp_all)]
    refine awp_skip ?_
    change Awp _ _ _ _ _
    refine awp_seq ?_
    refine awp_region 1 mixed (by kernel_rfl) ?_
    refine rg_q (q_assign (x := .d (.v _)) rfl) ?_
    refine rg_nil ?_
    refine aops_nil ?_
    change Awp _ _ _ _ _
    refine awp_ret ?_
    refine ⟨_, (.cons (.tmp (by exact .d _)) .nil), ?_⟩
    rw [hz]; rfl
set_option maxRecDepth 100000 in
theorem pitchErr_p (x : Ptc) : PC Tryz.prog 55 [.agg (ptcC x)] (.v (.int .i64 (ptcE x))) := by
  have hu : ptcE x = if inR 1 x.p 1000 = false then 2 else sndE x.v x.k := by
    unfold ptcE sndE
    cases inR 1 x.p 1000 <;> simp
  refine pc_of_awp Tryz.func55 rfl Tryz.ntmps55 (rs := [.tmp 2]) Tryz.results55 (by simp) fun w0 => ?_
  refine awp_seq ?_
  refine awp_region 2 mixed (by kernel_rfl) ?_
  refine rg_q (q_box rfl (by exact .inr ⟨_, rfl⟩)) ?_
  refine rg_q (q_assign (x := .d (.v _)) rfl) ?_
  refine rg_nil ?_
  refine aops_nil ?_
  change Awp _ _ _ _ _
  refine awp_seq ?_
  refine awp_seq ?_
  refine awp_region 4 mixed (by kernel_rfl) ?_
  refine rg_q (q_fieldAddr fld89_0 rfl) ?_
  refine rg_q (q_load sz3 rfl rfl) ?_
  refine rg_q (q_call en34 (.cons rfl (.cons rfl (.cons rfl .nil))) rfl (Within_p _ _ _)) ?_
  refine rg_q (q_not rfl) ?_
  refine rg_nil ?_
  refine aops_nil ?_
  change Awp _ _ _ _ _
  refine awp_cond rfl (fun hc1 => ?_) (fun hc1 => ?_)
  ·
    (try simp only [decide_eq_true_eq, decide_eq_false_iff_not, Bool.and_eq_true, Bool.or_eq_true, Bool.and_eq_false_iff, Bool.or_eq_false_iff, Bool.not_eq_true', Bool.not_eq_false', Bool.not_true, Bool.not_false, bif_and, bif_or, Bool.not_not, ne_eq, Decidable.not_not, not_true_eq_false, not_false_eq_true, Int.not_le, Int.not_lt] at hc1)
    rw [if_pos hc1] at hu
    refine awp_seq ?_
    refine awp_region 1 mixed (by kernel_rfl) ?_
    refine rg_q (q_assign (x := .d (.v _)) rfl) ?_
    refine rg_nil ?_
    refine aops_nil ?_
    change Awp _ _ _ _ _
    refine awp_ret ?_
    refine ⟨_, (.cons (.tmp (by exact .d _)) .nil), ?_⟩
    rw [hu]; rfl
  ·
    (try simp only [decide_eq_true_eq, decide_eq_false_iff_not, Bool.and_eq_true, Bool.or_eq_true, Bool.and_eq_false_iff, Bool.or_eq_false_iff, Bool.not_eq_true', Bool.not_eq_false', Bool.not_true, Bool.not_false, bif_and, bif_or, Bool.not_not, ne_eq, Decidable.not_not, not_true_eq_false, not_false_eq_true, Int.not_le, Int.not_lt] at hc1)
    rw [if_neg (by simpa using hc1)] at hu
    refine awp_skip ?_
    change Awp _ _ _ _ _
    refine awp_seq ?_
    refine awp_region 6 mixed (by kernel_rfl) ?_
    refine rg_q (q_fieldAddr fld89_1 rfl) ?_
    refine rg_q (q_load sz3 rfl rfl) ?_
    refine rg_q (q_fieldAddr fld89_2 rfl) ?_
    refine rg_q (q_load sz3 rfl rfl) ?_
    refine rg_q (q_call en114 (.cons rfl (.cons rfl .nil)) rfl (soundErr_p _ _)) ?_
    refine rg_q (q_assign (x := .d (.v _)) rfl) ?_
    refine rg_nil ?_
    refine aops_nil ?_
    change Awp _ _ _ _ _
    refine awp_ret ?_
    refine ⟨_, (.cons (.tmp (by exact .d _)) .nil), ?_⟩
    rw [hu]; rfl
set_option maxRecDepth 100000 in
theorem rnearField_p (a s k : Int) : PC Tryz.prog 54 [.v (.int .i64 (a)), .v (.int .i64 (s)), .v (.int .i64 (k))] (.tup [.agg [.v (.int .i64 ((nearR a s k).1.1)), .v (.int .i64 ((nearR a s k).1.2))], .v (.int .i64 ((nearR a s k).2))]) := by
  have hu : (!inR 0 a 10000 || !inR 500 s 10000 || !inR 1 k 50000) = (!inR 0 a 10000 || decide (sndE s k ≠ 0)) := by
    unfold sndE
    cases inR 0 a 10000 <;> cases inR 500 s 10000 <;> cases inR 1 k 50000 <;> simp
  refine pc_of_awp Tryz.func54 rfl Tryz.ntmps54 (rs := [.cell 6 49, .tmp 7]) Tryz.results54 (by simp) fun w0 => ?_
  refine awp_seq ?_
  refine awp_region 0 mixed (by kernel_rfl) ?_
  refine rg_nil ?_
  refine aops_alloc zr49 rfl rfl rfl ?_
  refine aops_q rfl (q_assign (x := .d (.v _)) rfl) ?_
  refine aops_nil ?_
  change Awp _ _ _ _ _
  refine awp_seq ?_
  refine awp_seq ?_
  refine awp_region 9 mixed (by kernel_rfl) ?_
  refine rg_q (q_move (x := .d (.v _)) rfl) ?_
  refine rg_q (q_call en34 (.cons rfl (.cons rfl (.cons rfl .nil))) rfl (Within_p _ _ _)) ?_
  refine rg_q (q_not rfl) ?_
  refine rg_q (q_move (x := .d (.v _)) rfl) ?_
  refine rg_g rfl rfl (fun hG => (q_move (x := .d (.v _)) rfl)) ?_
  refine rg_g rfl rfl (fun hG => (q_move (x := .d (.v _)) rfl)) ?_
  refine rg_g rfl rfl (fun hG => (q_call en114 (.cons rfl (.cons rfl .nil)) rfl (soundErr_p _ _))) ?_
  refine rg_g rfl rfl (fun hG => (q_neq rfl rfl)) ?_
  refine rg_pick rfl rfl rfl rfl rfl rfl ?_
  refine rg_nil ?_
  refine aops_nil ?_
  change Awp _ _ _ _ _
  refine awp_cond rfl (fun hc1 => ?_) (fun hc1 => ?_)
  ·
    (try simp only [decide_eq_true_eq, decide_eq_false_iff_not, Bool.and_eq_true, Bool.or_eq_true, Bool.and_eq_false_iff, Bool.or_eq_false_iff, Bool.not_eq_true', Bool.not_eq_false', Bool.not_true, Bool.not_false, bif_and, bif_or, Bool.not_not, ne_eq, Decidable.not_not, not_true_eq_false, not_false_eq_true, Int.not_le, Int.not_lt] at hc1)
    have hz : nearR a s k = ((0, 0), 2) := by unfold nearR; rw [if_pos (by rw [hu]; simp_all)]
    refine awp_seq ?_
    refine awp_region 1 mixed (by kernel_rfl) ?_
    refine rg_q (q_build (cs := [_, _]) pl49 zr49 rfl .nil trivial rfl) ?_
    refine rg_nil ?_
    refine aops_store sz49 rfl rfl (by exact .inr ⟨_, rfl⟩) rfl rfl (by decide) rfl ?_
    refine aops_q rfl (q_assign (x := .d (.v _)) rfl) ?_
    refine aops_nil ?_
    change Awp _ _ _ _ _
    refine awp_ret ?_
    refine ⟨_, (.cons (.cellA rfl rfl sz49 rfl) (.cons (.tmp (by exact .d _)) .nil)), ?_⟩
    rw [hz]; rfl
  ·
    (try simp only [decide_eq_true_eq, decide_eq_false_iff_not, Bool.and_eq_true, Bool.or_eq_true, Bool.and_eq_false_iff, Bool.or_eq_false_iff, Bool.not_eq_true', Bool.not_eq_false', Bool.not_true, Bool.not_false, bif_and, bif_or, Bool.not_not, ne_eq, Decidable.not_not, not_true_eq_false, not_false_eq_true, Int.not_le, Int.not_lt] at hc1)
    have hn : ¬ (!inR 0 a 10000 || !inR 500 s 10000 || !inR 1 k 50000) = true := by rw [hu]; simp_all
    have hz : nearR a s k = ((a * a * k / (400 * s), ceilI (a * a * k) (400 * s)), 0) := by unfold nearR; rw [if_neg hn]
    clear hu
    simp [inR] at hn
    obtain ⟨⟨⟨a1, a2⟩, s1, s2⟩, k1, k2⟩ := hn
    have m1 := mulb (a := a) (b := a) (A := 10000) (B := 10000) (by omega) (by omega) (by omega) (by omega)
    have m2 := mulb (a := a * a) (b := k) (A := 100000000) (B := 100000) (by omega) (by omega) (by omega) (by omega)
    refine awp_skip ?_
    change Awp _ _ _ _ _
    refine awp_seq ?_
    refine awp_region 9 mixed (by kernel_rfl) ?_
    refine rg_q (q_move (x := .d (.v _)) rfl) ?_
    refine rg_q (q_move (x := .d (.v _)) rfl) ?_
    refine rg_q (q_mul rfl rfl (In64.mk (by omega) (by omega))) ?_
    refine rg_q (q_move (x := .d (.v _)) rfl) ?_
    refine rg_q (q_mul rfl rfl (In64.mk (by omega) (by omega))) ?_
    refine rg_q (q_move (x := .d (.v _)) rfl) ?_
    refine rg_q (q_mul rfl rfl (In64.mk (by omega) (by omega))) ?_
    refine rg_q (q_assign (x := .d (.v _)) rfl) ?_
    refine rg_q (q_assign (x := .d (.v _)) rfl) ?_
    refine rg_nil ?_
    refine aops_nil ?_
    change Awp _ _ _ _ _
    refine awp_seq ?_
    refine awp_region 7 mixed (by kernel_rfl) ?_
    refine rg_q (q_move (x := .d (.v _)) rfl) ?_
    refine rg_q (q_move (x := .d (.v _)) rfl) ?_
    refine rg_q (q_call en115 (.cons rfl (.cons rfl .nil)) rfl (Floor_p _ _ ⟨by omega, by omega⟩ (by omega))) ?_
    refine rg_q (q_move (x := .d (.v _)) rfl) ?_
    refine rg_q (q_move (x := .d (.v _)) rfl) ?_
    refine rg_q (q_call en93 (.cons rfl (.cons rfl .nil)) rfl (Ceil_p _ _ ⟨by omega, by omega⟩ (by omega))) ?_
    refine rg_q (q_build (cs := [_, _]) pl49 zr49 rfl (.cons rfl (by exact .inl rfl) (.cons rfl (by exact .inl rfl) .nil)) ⟨⟨rfl, by decide⟩, ⟨rfl, by decide⟩, trivial⟩ rfl) ?_
    refine rg_nil ?_
    refine aops_store sz49 rfl rfl (by exact .inr ⟨_, rfl⟩) rfl rfl (by decide) rfl ?_
    refine aops_q rfl (q_assign (x := .d (.v _)) rfl) ?_
    refine aops_nil ?_
    change Awp _ _ _ _ _
    refine awp_ret ?_
    refine ⟨_, (.cons (.cellA rfl rfl sz49 rfl) (.cons (.tmp (by exact .d _)) .nil)), ?_⟩
    rw [hz]; rfl
set_option maxRecDepth 100000 in
theorem gcd_p (a b : Int) (h1 : 0 ≤ a) (h2 : a ≤ 50000000) (h3 : 0 ≤ b) (h4 : b ≤ 50000000) : PC Tryz.prog 147 [.v (.int .i64 (a)), .v (.int .i64 (b))] (.v (.int .i64 (gcdI a b))) := by
  refine pc_of_awp Tryz.func147 rfl Tryz.ntmps147 (rs := [.tmp 4]) Tryz.results147 (by simp) fun w0 => ?_
  refine awp_seq ?_
  refine awp_region 1 mixed (by kernel_rfl) ?_
  refine rg_q (q_assign (x := .d (.v _)) rfl) ?_
  refine rg_nil ?_
  refine aops_nil ?_
  change Awp _ _ _ _ _
  refine awp_seq ?_
  refine awp_block ?_
  refine awp_loopH [0, 1, 5, 6, 7, 8, 9, 10] [] (α := Int × Int) (fun y => [(0, T.i y.1), (1, T.i y.2)]) (fun y => []) (fun y => 0 ≤ y.1 ∧ y.1 ≤ 50000000 ∧ 0 ≤ y.2 ∧ y.2 ≤ 50000000 ∧ gcdI a b = gcdI y.1 y.2) (fun y => y.2.toNat) (a, b) ⟨h1, h2, h3, h4, rfl⟩ ?_ ?_
  · exact le_head (ms := []) (by repeat (exact Out.refl _)) ⟨(by rfl), (by rfl), trivial⟩ trivial rfl rfl rfl rfl
  ·
    intro y ⟨k1, k2, k3, k4, hg⟩
    refine awp_seq ?_
    refine awp_seq ?_
    refine awp_region 2 mixed (by kernel_rfl) ?_
    refine rg_q (q_move (x := .d (.v _)) rfl) ?_
    refine rg_q (q_neq rfl rfl) ?_
    refine rg_nil ?_
    refine aops_nil ?_
    change Awp _ _ _ _ _
    refine awp_cond rfl (fun hc1 => ?_) (fun hc1 => ?_)
    ·
      (try simp only [decide_eq_true_eq, decide_eq_false_iff_not, Bool.and_eq_true, Bool.or_eq_true, Bool.and_eq_false_iff, Bool.or_eq_false_iff, Bool.not_eq_true', Bool.not_eq_false', Bool.not_true, Bool.not_false, bif_and, bif_or, Bool.not_not, ne_eq, Decidable.not_not, not_true_eq_false, not_false_eq_true, Int.not_le, Int.not_lt] at hc1)
      refine awp_skip ?_
      change Awp _ _ _ _ _
      refine awp_block ?_
      refine awp_region 6 mixed (by kernel_rfl) ?_
      refine rg_q (q_move (x := .d (.v _)) rfl) ?_
      refine rg_q (q_move (x := .d (.v _)) rfl) ?_
      refine rg_q (q_move (x := .d (.v _)) rfl) ?_
      refine rg_q (q_rem rfl rfl (by omega)) ?_
      refine rg_q (q_assign (x := .d (.v _)) rfl) ?_
      refine rg_q (q_assign (x := .d (.v _)) rfl) ?_
      refine rg_nil ?_
      refine aops_nil ?_
      have hmn := Int.tmod_nonneg y.2 k1
      have hml := Int.tmod_lt_of_pos y.1 (show 0 < y.2 by omega)
      refine ⟨(y.2, y.1.tmod y.2), ⟨k3, k4, hmn, by simp only; omega, by rw [hg]; exact gcdI_step (by omega)⟩, by simp only; omega, ?_⟩
      exact le_head (ms := []) (by repeat (first | exact Out.head rfl rfl | (refine Out.put ?_ rfl))) ⟨(by rfl), (by rfl), trivial⟩ trivial rfl rfl rfl rfl
    ·
      (try simp only [decide_eq_true_eq, decide_eq_false_iff_not, Bool.and_eq_true, Bool.or_eq_true, Bool.and_eq_false_iff, Bool.or_eq_false_iff, Bool.not_eq_true', Bool.not_eq_false', Bool.not_true, Bool.not_false, bif_and, bif_or, Bool.not_not, ne_eq, Decidable.not_not, not_true_eq_false, not_false_eq_true, Int.not_le, Int.not_lt] at hc1)
      have hb0 : y.2 = 0 := by omega
      have hya : gcdI a b = max y.1 (-y.1) := by rw [hg, hb0, gcdI_zero _ k1]; omega
      refine awp_exit ?_
      change Awp _ _ _ _ _
      refine awp_seq ?_
      refine awp_region 3 mixed (by kernel_rfl) ?_
      refine rg_q (q_move (x := .d (.v _)) rfl) ?_
      refine rg_q (q_call en59 (.cons rfl .nil) rfl (Size_p _ ⟨by omega, by omega⟩)) ?_
      refine rg_q (q_assign (x := .d (.v _)) rfl) ?_
      refine rg_nil ?_
      refine aops_nil ?_
      change Awp _ _ _ _ _
      refine awp_ret ?_
      refine ⟨_, (.cons (.tmp (by exact .d _)) .nil), ?_⟩
      rw [hya]; rfl
set_option maxRecDepth 100000 in
theorem lowest_p (a b : Int) (h1 : 0 ≤ a) (h2 : a ≤ 50000000) (h3 : 0 < b) (h4 : b ≤ 50000000) : PC Tryz.prog 116 [.v (.int .i64 (a)), .v (.int .i64 (b))] (.agg [.v (.int .i64 (a.tdiv (gcdI a b))), .v (.int .i64 (b.tdiv (gcdI a b)))]) := by
  have hg0 : 0 < gcdI a b := gcdI_pos (by omega)
  have td1 := tdiv_in h1 hg0
  have td2 := tdiv_in (n := b) (by omega) hg0
  refine pc_of_awp Tryz.func116 rfl Tryz.ntmps116 (rs := [.cell 4 93]) Tryz.results116 (by simp) fun w0 => ?_
  refine awp_seq ?_
  refine awp_region 0 mixed (by kernel_rfl) ?_
  refine rg_nil ?_
  refine aops_alloc zr93 rfl rfl rfl ?_
  refine aops_nil ?_
  change Awp _ _ _ _ _
  refine awp_seq ?_
  refine awp_region 4 mixed (by kernel_rfl) ?_
  refine rg_q (q_move (x := .d (.v _)) rfl) ?_
  refine rg_q (q_move (x := .d (.v _)) rfl) ?_
  refine rg_q (q_call en147 (.cons rfl (.cons rfl .nil)) rfl (gcd_p _ _ (by omega) (by omega) (by omega) (by omega))) ?_
  refine rg_q (q_assign (x := .d (.v _)) rfl) ?_
  refine rg_nil ?_
  refine aops_nil ?_
  change Awp _ _ _ _ _
  refine awp_seq ?_
  refine awp_seq ?_
  refine awp_region 2 mixed (by kernel_rfl) ?_
  refine rg_q (q_move (x := .d (.v _)) rfl) ?_
  refine rg_q (q_lss rfl rfl) ?_
  refine rg_nil ?_
  refine aops_nil ?_
  change Awp _ _ _ _ _
  refine awp_cond rfl (fun hc2 => ?_) (fun hc2 => ?_)
  ·
    exfalso; (try simp only [decide_eq_true_eq, decide_eq_false_iff_not, Bool.and_eq_true, Bool.or_eq_true, Bool.and_eq_false_iff, Bool.or_eq_false_iff, Bool.not_eq_true', Bool.not_eq_false', Bool.not_true, Bool.not_false, bif_and, bif_or, Bool.not_not, ne_eq, Decidable.not_not, not_true_eq_false, not_false_eq_true, Int.not_le, Int.not_lt] at hc2); omega
  ·
    (try simp only [decide_eq_true_eq, decide_eq_false_iff_not, Bool.and_eq_true, Bool.or_eq_true, Bool.and_eq_false_iff, Bool.or_eq_false_iff, Bool.not_eq_true', Bool.not_eq_false', Bool.not_true, Bool.not_false, bif_and, bif_or, Bool.not_not, ne_eq, Decidable.not_not, not_true_eq_false, not_false_eq_true, Int.not_le, Int.not_lt] at hc2)
    refine awp_skip ?_
    change Awp _ _ _ _ _
    refine awp_seq ?_
    refine awp_region 7 mixed (by kernel_rfl) ?_
    refine rg_q (q_move (x := .d (.v _)) rfl) ?_
    refine rg_q (q_move (x := .d (.v _)) rfl) ?_
    refine rg_q (q_quo rfl rfl (by omega) (In64.mk (by omega) (by omega))) ?_
    refine rg_q (q_move (x := .d (.v _)) rfl) ?_
    refine rg_q (q_move (x := .d (.v _)) rfl) ?_
    refine rg_q (q_quo rfl rfl (by omega) (In64.mk (by omega) (by omega))) ?_
    refine rg_q (q_build (cs := [_, _]) pl93 zr93 rfl (.cons rfl (by exact .inl rfl) (.cons rfl (by exact .inl rfl) .nil)) ⟨⟨rfl, by decide⟩, ⟨rfl, by decide⟩, trivial⟩ rfl) ?_
    refine rg_nil ?_
    refine aops_store sz93 rfl rfl (by exact .inr ⟨_, rfl⟩) rfl rfl (by decide) rfl ?_
    refine aops_nil ?_
    change Awp _ _ _ _ _
    refine awp_ret ?_
    refine ⟨_, (.cons (.cellA rfl rfl sz93 rfl) .nil), ?_⟩
    rfl
set_option maxRecDepth 100000 in
theorem rsteepest_p (x : Ptc) (hz0 : ptcE x = 0) : PC Tryz.prog 56 [.agg (ptcC x)] (.tup [.agg [.v (.int .i64 ((stpR x).1.1)), .v (.int .i64 ((stpR x).1.2))], .v (.int .i64 ((stpR x).2))]) := by
  obtain ⟨⟨p1, p2⟩, ⟨v1, v2⟩, k1, k2⟩ := ptcE_ok hz0
  have m1 := mulb (a := x.p) (b := x.k) (A := 1000) (B := 50000) (by omega) (by omega) (by omega) (by omega)
  have m0 : 0 < x.p * x.k := Int.mul_pos (by omega) (by omega)
  have hn0 : ¬ ptcE x ≠ 0 := fun h => h hz0
  have hu : stpR x = if 100 * x.v < x.p * x.k then ((0, 0), 12) else (((min (100 * x.v - x.p * x.k) (x.p * x.k)).tdiv (gcdI (min (100 * x.v - x.p * x.k) (x.p * x.k)) (x.p * x.k)), (x.p * x.k).tdiv (gcdI (min (100 * x.v - x.p * x.k) (x.p * x.k)) (x.p * x.k))), 0) := by unfold stpR; rw [if_neg hn0]
  refine pc_of_awp Tryz.func56 rfl Tryz.ntmps56 (rs := [.cell 2 93, .tmp 3]) Tryz.results56 (by simp) fun w0 => ?_
  refine awp_seq ?_
  refine awp_region 1 mixed (by kernel_rfl) ?_
  refine rg_q (q_box rfl (by exact .inr ⟨_, rfl⟩)) ?_
  refine rg_nil ?_
  refine aops_alloc zr93 rfl rfl rfl ?_
  refine aops_q rfl (q_assign (x := .d (.v _)) rfl) ?_
  refine aops_nil ?_
  change Awp _ _ _ _ _
  refine awp_seq ?_
  refine awp_region 10 mixed (by kernel_rfl) ?_
  refine rg_q (q_fieldAddr fld89_0 rfl) ?_
  refine rg_q (q_load sz3 rfl rfl) ?_
  refine rg_q (q_fieldAddr fld89_2 rfl) ?_
  refine rg_q (q_load sz3 rfl rfl) ?_
  refine rg_q (q_mul rfl rfl (In64.mk (by omega) (by omega))) ?_
  refine rg_q (q_fieldAddr fld89_1 rfl) ?_
  refine rg_q (q_load sz3 rfl rfl) ?_
  refine rg_q (q_mul rfl rfl (In64.mk (by omega) (by omega))) ?_
  refine rg_q (q_assign (x := .d (.v _)) rfl) ?_
  refine rg_q (q_assign (x := .d (.v _)) rfl) ?_
  refine rg_nil ?_
  refine aops_nil ?_
  change Awp _ _ _ _ _
  refine awp_seq ?_
  refine awp_seq ?_
  refine awp_region 3 mixed (by kernel_rfl) ?_
  refine rg_q (q_move (x := .d (.v _)) rfl) ?_
  refine rg_q (q_move (x := .d (.v _)) rfl) ?_
  refine rg_q (q_lss rfl rfl) ?_
  refine rg_nil ?_
  refine aops_nil ?_
  change Awp _ _ _ _ _
  refine awp_cond rfl (fun hc2 => ?_) (fun hc2 => ?_)
  ·
    (try simp only [decide_eq_true_eq, decide_eq_false_iff_not, Bool.and_eq_true, Bool.or_eq_true, Bool.and_eq_false_iff, Bool.or_eq_false_iff, Bool.not_eq_true', Bool.not_eq_false', Bool.not_true, Bool.not_false, bif_and, bif_or, Bool.not_not, ne_eq, Decidable.not_not, not_true_eq_false, not_false_eq_true, Int.not_le, Int.not_lt] at hc2)
    rw [if_pos hc2] at hu
    refine awp_seq ?_
    refine awp_region 1 mixed (by kernel_rfl) ?_
    refine rg_q (q_build (cs := [_, _]) pl93 zr93 rfl .nil trivial rfl) ?_
    refine rg_nil ?_
    refine aops_store sz93 rfl rfl (by exact .inr ⟨_, rfl⟩) rfl rfl (by decide) rfl ?_
    refine aops_q rfl (q_assign (x := .d (.v _)) rfl) ?_
    refine aops_nil ?_
    change Awp _ _ _ _ _
    refine awp_ret ?_
    refine ⟨_, (.cons (.cellA rfl rfl sz93 rfl) (.cons (.tmp (by exact .d _)) .nil)), ?_⟩
    rw [hu]; rfl
  ·
    (try simp only [decide_eq_true_eq, decide_eq_false_iff_not, Bool.and_eq_true, Bool.or_eq_true, Bool.and_eq_false_iff, Bool.or_eq_false_iff, Bool.not_eq_true', Bool.not_eq_false', Bool.not_true, Bool.not_false, bif_and, bif_or, Bool.not_not, ne_eq, Decidable.not_not, not_true_eq_false, not_false_eq_true, Int.not_le, Int.not_lt] at hc2)
    rw [if_neg (by omega)] at hu
    refine awp_skip ?_
    change Awp _ _ _ _ _
    refine awp_seq ?_
    refine awp_region 7 mixed (by kernel_rfl) ?_
    refine rg_q (q_move (x := .d (.v _)) rfl) ?_
    refine rg_q (q_move (x := .d (.v _)) rfl) ?_
    refine rg_q (q_sub rfl rfl (In64.mk (by omega) (by omega))) ?_
    refine rg_q (q_move (x := .d (.v _)) rfl) ?_
    refine rg_q (q_min rfl rfl) ?_
    refine rg_q (q_move (x := .d (.v _)) rfl) ?_
    refine rg_q (q_call en116 (.cons rfl (.cons rfl .nil)) rfl (lowest_p _ _ (by omega) (by omega) (by omega) (by omega))) ?_
    refine rg_nil ?_
    refine aops_store sz93 rfl rfl (by exact .inr ⟨_, rfl⟩) rfl rfl (by decide) rfl ?_
    refine aops_q rfl (q_assign (x := .d (.v _)) rfl) ?_
    refine aops_nil ?_
    change Awp _ _ _ _ _
    refine awp_ret ?_
    refine ⟨_, (.cons (.cellA rfl rfl sz93 rfl) (.cons (.tmp (by exact .d _)) .nil)), ?_⟩
    rw [hu]; rfl
set_option maxRecDepth 100000 in
theorem rgrating_p (x : Ptc) (hz0 : ptcE x = 0) (ht0 : trnE x.t = 0) : PC Tryz.prog 57 [.agg (ptcC x)] (.v (.bool (decide (x.p * x.k * (x.t.r + sizI x.t.p) ≤ 100 * x.v * x.t.r)))) := by
  obtain ⟨r1, r2, q1, q2, _, _⟩ := trnE_ok ht0
  obtain ⟨⟨p1, p2⟩, ⟨v1, v2⟩, k1, k2⟩ := ptcE_ok hz0
  have m1 := mulb (a := x.p) (b := x.k) (A := 1000) (B := 50000) (by omega) (by omega) (by omega) (by omega)
  have m0 : 0 < x.p * x.k := Int.mul_pos (by omega) (by omega)
  have hs : sizI x.t.p ≤ 1000 ∧ 0 ≤ sizI x.t.p := by unfold sizI; omega
  have m2 := mulb (a := x.p * x.k) (b := x.t.r + sizI x.t.p) (A := 50000000) (B := 2000) (by omega) (by omega) (by omega) (by omega)
  have m3 := mulb (a := 100 * x.v) (b := x.t.r) (A := 1000000) (B := 1000) (by omega) (by omega) (by omega) (by omega)
  unfold sizI at m2 hs
  refine pc_of_awp Tryz.func57 rfl Tryz.ntmps57 (rs := [.tmp 2]) Tryz.results57 (by simp) fun w0 => ?_
  refine awp_seq ?_
  refine awp_region 2 mixed (by kernel_rfl) ?_
  refine rg_q (q_box rfl (by exact .inr ⟨_, rfl⟩)) ?_
  refine rg_q (q_assign (x := .d (.v _)) rfl) ?_
  refine rg_nil ?_
  refine aops_nil ?_
  change Awp _ _ _ _ _
  refine awp_seq ?_
  refine awp_region 23 mixed (by kernel_rfl) ?_
  refine rg_q (q_fieldAddr fld89_0 rfl) ?_
  refine rg_q (q_load sz3 rfl rfl) ?_
  refine rg_q (q_fieldAddr fld89_2 rfl) ?_
  refine rg_q (q_load sz3 rfl rfl) ?_
  refine rg_q (q_mul rfl rfl (In64.mk (by omega) (by omega))) ?_
  refine rg_q (q_fieldAddr fld89_3 rfl) ?_
  refine rg_q (q_fieldAddr fld66_2 rfl) ?_
  refine rg_q (q_load sz3 rfl rfl) ?_
  refine rg_q (q_fieldAddr fld89_3 rfl) ?_
  refine rg_q (q_fieldAddr fld66_0 rfl) ?_
  refine rg_q (q_load sz3 rfl rfl) ?_
  refine rg_q (q_call en59 (.cons rfl .nil) rfl (Size_p _ ⟨by omega, by omega⟩)) ?_
  refine rg_q (q_add rfl rfl (In64.mk (by omega) (by omega))) ?_
  refine rg_q (q_mul rfl rfl (In64.mk (by omega) (by omega))) ?_
  refine rg_q (q_fieldAddr fld89_1 rfl) ?_
  refine rg_q (q_load sz3 rfl rfl) ?_
  refine rg_q (q_mul rfl rfl (In64.mk (by omega) (by omega))) ?_
  refine rg_q (q_fieldAddr fld89_3 rfl) ?_
  refine rg_q (q_fieldAddr fld66_2 rfl) ?_
  refine rg_q (q_load sz3 rfl rfl) ?_
  refine rg_q (q_mul rfl rfl (In64.mk (by omega) (by omega))) ?_
  refine rg_q (q_leq rfl rfl) ?_
  refine rg_q (q_assign (x := .d (.v _)) rfl) ?_
  refine rg_nil ?_
  refine aops_nil ?_
  change Awp _ _ _ _ _
  refine awp_ret ?_
  refine ⟨_, (.cons (.tmp (by exact .d _)) .nil), ?_⟩
  rfl

theorem lob_none {D V r P : Int} (hD : 0 < D) (hr : 0 < r) (hP : 0 ≤ P) (h : V < D) : ¬ D * (r + P) ≤ V * r := by
  intro h1
  have h2 : V * r < D * r := Int.mul_lt_mul_of_pos_right h hr
  have h3 : 0 ≤ D * P := Int.mul_nonneg (by omega) hP
  have h4 : D * (r + P) = D * r + D * P := by grind
  omega
theorem lob_some {D V r P g : Int} (hD : 0 < D) (hr : 0 < r) (hP : 0 ≤ P) (hPr : P ≤ r) (h : D ≤ V) (hg : g = gcdI (min (V - D) D) D) : decide (D * (r + P) ≤ V * r) = decide (cmpI P r ((min (V - D) D).tdiv g) (D.tdiv g) ≤ 0) := by
  have hg0 : 0 < g := by rw [hg]; exact gcdI_pos (by omega)
  generalize hN : min (V - D) D = N at *
  have d1 : g ∣ N := by rw [hg]; exact Int.gcd_dvd_left _ _
  have d2 : g ∣ D := by rw [hg]; exact Int.gcd_dvd_right _ _
  obtain ⟨n, rfl⟩ := d1
  obtain ⟨d, rfl⟩ := d2
  rw [Int.mul_tdiv_cancel_left _ (by omega), Int.mul_tdiv_cancel_left _ (by omega)]
  have key : (g * d * (r + P) ≤ V * r) ↔ P * d ≤ n * r := by
    have e1 : g * d * (r + P) = g * d * r + g * (P * d) := by grind
    have e2 : (V - g * d) * r = V * r - g * d * r := by grind
    rcases Int.le_total (V - g * d) (g * d) with q | q
    · have hv : V - g * d = g * n := by omega
      rw [hv] at e2
      have e3 : g * n * r = g * (n * r) := by grind
      constructor
      · intro h1; exact Int.le_of_mul_le_mul_left (show g * (P * d) ≤ g * (n * r) by omega) hg0
      · intro h1; have := Int.mul_le_mul_of_nonneg_left h1 (Int.le_of_lt hg0); omega
    · have hv : g * n = g * d := by omega
      have hnd : n = d := Int.eq_of_mul_eq_mul_left (by omega) hv
      have hd0 : 0 < d := by
        rcases Int.lt_or_le 0 d with k | k
        · exact k
        · have := Int.mul_nonpos_of_nonneg_of_nonpos (Int.le_of_lt hg0) k; omega
      have h1 : P * d ≤ r * d := Int.mul_le_mul_of_nonneg_right hPr (by omega)
      have h2 : g * (P * d) ≤ g * (r * d) := Int.mul_le_mul_of_nonneg_left h1 (by omega)
      have h3 : g * d * r ≤ (V - g * d) * r := Int.mul_le_mul_of_nonneg_right q (by omega)
      have e4 : g * (r * d) = g * d * r := by grind
      have e5 : n * r = r * d := by rw [hnd]; grind
      constructor
      · intro _; omega
      · intro _; omega
  have kc : (cmpI P r n d ≤ 0) ↔ P * d ≤ n * r := by
    unfold cmpI
    split
    · omega
    · split <;> omega
  rw [decide_eq_decide, key, kc]
set_option maxRecDepth 100000 in
theorem lawLobes_p (x : Ptc) (q : Int) : PCG Tryz.prog GW 11 [.agg (ptcC x), .v (.int .i64 (q))] (.v (.bool (true))) := by
  refine pcg_of_awpN gw_keep Tryz.func11 rfl Tryz.ntmps11 (rs := [.tmp 4]) Tryz.results11 (by simp) fun w0 hmine hrnd hpn hG => ?_
  refine awp_seq ?_
  refine awp_region 2 mixed (by kernel_rfl) ?_
  refine rg_q (q_box rfl (by exact .inr ⟨_, rfl⟩)) ?_
  refine rg_q (q_assign (x := .d (.v _)) rfl) ?_
  refine rg_nil ?_
  refine aops_nil ?_
  change Awp _ _ _ _ _
  refine awp_seq ?_
  refine awp_seq ?_
  refine awp_region 2 mixed (by kernel_rfl) ?_
  refine rg_q (q_callG en17 .nil rfl hG (awake_p)) ?_
  refine rg_q (q_not rfl) ?_
  refine rg_nil ?_
  refine aops_nil ?_
  change Awp _ _ _ _ _
  refine awp_cond rfl (fun hc1 => ?_) (fun hc1 => ?_)
  ·
    simp at hc1
  ·
    (try simp only [decide_eq_true_eq, decide_eq_false_iff_not, Bool.and_eq_true, Bool.or_eq_true, Bool.and_eq_false_iff, Bool.or_eq_false_iff, Bool.not_eq_true', Bool.not_eq_false', Bool.not_true, Bool.not_false, bif_and, bif_or, Bool.not_not, ne_eq, Decidable.not_not, not_true_eq_false, not_false_eq_true, Int.not_le, Int.not_lt] at hc1)
    refine awp_skip ?_
    change Awp _ _ _ _ _
    refine awp_seq ?_
    refine awp_region 7 mixed (by kernel_rfl) ?_
    refine rg_q (q_loadA (ds := [_, _, _, _, _, _]) sz89 rfl rfl rfl) ?_
    refine rg_q (q_call en51 (.cons rfl .nil) rfl (gratingFree_p _)) ?_
    refine rg_q (q_move (x := .d (.tup _)) rfl) ?_
    refine rg_q (q_extract rfl rfl) ?_
    refine rg_q (q_extract rfl rfl) ?_
    refine rg_q (q_assign (x := .d (.v _)) rfl) ?_
    refine rg_q (q_assign (x := .d (.v _)) rfl) ?_
    refine rg_nil ?_
    refine aops_nil ?_
    change Awp _ _ _ _ _
    refine awp_seq ?_
    refine awp_region 5 mixed (by kernel_rfl) ?_
    refine rg_q (q_loadA (ds := [_, _, _, _, _, _]) sz89 rfl rfl rfl) ?_
    refine rg_q (q_call en52 (.cons rfl .nil) rfl (steepestFree_p _)) ?_
    refine rg_q (q_move (x := .d (.tup _)) rfl) ?_
    refine rg_q (q_extract rfl rfl) ?_
    refine rg_q (q_extract rfl rfl) ?_
    refine rg_nil ?_
    refine aops_alloc zr93 rfl rfl rfl ?_
    refine aops_store sz93 rfl rfl (by exact .inr ⟨_, rfl⟩) rfl rfl (by decide) rfl ?_
    refine aops_q rfl (q_assign (x := .d (.v _)) rfl) ?_
    refine aops_nil ?_
    change Awp _ _ _ _ _
    refine awp_seq ?_
    refine awp_region 9 mixed (by kernel_rfl) ?_
    refine rg_q (q_move (x := .d (.v _)) rfl) ?_
    refine rg_q (q_fieldAddr fld89_1 rfl) ?_
    refine rg_q (q_load sz3 rfl rfl) ?_
    refine rg_q (q_fieldAddr fld89_2 rfl) ?_
    refine rg_q (q_load sz3 rfl rfl) ?_
    refine rg_q (q_call en53 (.cons rfl (.cons rfl (.cons rfl .nil))) rfl (nearField_p _ _ _)) ?_
    refine rg_q (q_move (x := .d (.tup _)) rfl) ?_
    refine rg_q (q_extract rfl rfl) ?_
    refine rg_q (q_extract rfl rfl) ?_
    refine rg_nil ?_
    refine aops_alloc zr49 rfl rfl rfl ?_
    refine aops_store sz49 rfl rfl (by exact .inr ⟨_, rfl⟩) rfl rfl (by decide) rfl ?_
    refine aops_q rfl (q_assign (x := .d (.v _)) rfl) ?_
    refine aops_nil ?_
    change Awp _ _ _ _ _
    refine awp_seq ?_
    refine awp_region 9 mixed (by kernel_rfl) ?_
    refine rg_q (q_move (x := .d (.v _)) rfl) ?_
    refine rg_q (q_fieldAddr fld89_1 rfl) ?_
    refine rg_q (q_load sz3 rfl rfl) ?_
    refine rg_q (q_fieldAddr fld89_2 rfl) ?_
    refine rg_q (q_load sz3 rfl rfl) ?_
    refine rg_q (q_call en54 (.cons rfl (.cons rfl (.cons rfl .nil))) rfl (rnearField_p _ _ _)) ?_
    refine rg_q (q_move (x := .d (.tup _)) rfl) ?_
    refine rg_q (q_extract rfl rfl) ?_
    refine rg_q (q_extract rfl rfl) ?_
    refine rg_nil ?_
    refine aops_alloc zr49 rfl rfl rfl ?_
    refine aops_store sz49 rfl rfl (by exact .inr ⟨_, rfl⟩) rfl rfl (by decide) rfl ?_
    refine aops_q rfl (q_assign (x := .d (.v _)) rfl) ?_
    refine aops_nil ?_
    change Awp _ _ _ _ _
    refine awp_seq ?_
    refine awp_seq ?_
    refine awp_region 8 mixed (by kernel_rfl) ?_
    refine rg_q (q_move (x := .d (.v _)) rfl) ?_
    refine rg_q (q_move (x := .d (.v _)) rfl) ?_
    refine rg_q (q_neq rfl rfl) ?_
    refine rg_q (q_move (x := .d (.v _)) rfl) ?_
    refine rg_g rfl rfl (fun hG => (q_load_refA (ds := [_, _]) sz49 rfl rfl rfl rfl)) ?_
    refine rg_g rfl rfl (fun hG => (q_load_refA (ds := [_, _]) sz49 rfl rfl rfl rfl)) ?_
    refine rg_g rfl rfl (fun hG => (q_neqI (xs := [_, _]) (ys := [_, _]) eqi49 rfl rfl rfl rfl)) ?_
    refine rg_pick rfl rfl rfl rfl rfl rfl ?_
    refine rg_nil ?_
    refine aops_nil ?_
    change Awp _ _ _ _ _
    refine awp_cond rfl (fun hc7 => ?_) (fun hc7 => ?_)
    ·
      simp at hc7
    ·
      (try simp only [decide_eq_true_eq, decide_eq_false_iff_not, Bool.and_eq_true, Bool.or_eq_true, Bool.and_eq_false_iff, Bool.or_eq_false_iff, Bool.not_eq_true', Bool.not_eq_false', Bool.not_true, Bool.not_false, bif_and, bif_or, Bool.not_not, ne_eq, Decidable.not_not, not_true_eq_false, not_false_eq_true, Int.not_le, Int.not_lt] at hc7)
      refine awp_skip ?_
      change Awp _ _ _ _ _
      refine awp_seq ?_
      refine awp_region 3 mixed (by kernel_rfl) ?_
      refine rg_q (q_loadA (ds := [_, _, _, _, _, _]) sz89 rfl rfl rfl) ?_
      refine rg_q (q_call en55 (.cons rfl .nil) rfl (pitchErr_p _)) ?_
      refine rg_q (q_assign (x := .d (.v _)) rfl) ?_
      refine rg_nil ?_
      refine aops_nil ?_
      change Awp _ _ _ _ _
      refine awp_seq ?_
      refine awp_region 2 mixed (by kernel_rfl) ?_
      refine rg_q (q_move (x := .d (.v _)) rfl) ?_
      refine rg_q (q_assign (x := .d (.v _)) rfl) ?_
      refine rg_nil ?_
      refine aops_nil ?_
      change Awp _ _ _ _ _
      refine awp_seq ?_
      refine awp_region 0 mixed (by kernel_rfl) ?_
      refine rg_nil ?_
      refine aops_alloc zr93 rfl rfl rfl ?_
      refine aops_nil ?_
      change Awp _ _ _ _ _
      refine awp_seq ?_
      refine awp_seq ?_
      refine awp_region 2 mixed (by kernel_rfl) ?_
      refine rg_q (q_move (x := .d (.v _)) rfl) ?_
      refine rg_q (q_eql rfl rfl) ?_
      refine rg_nil ?_
      refine aops_nil ?_
      change Awp _ _ _ _ _
      refine awp_cond rfl (fun hc12 => ?_) (fun hc12 => ?_)
      ·
        (try simp only [decide_eq_true_eq, decide_eq_false_iff_not, Bool.and_eq_true, Bool.or_eq_true, Bool.and_eq_false_iff, Bool.or_eq_false_iff, Bool.not_eq_true', Bool.not_eq_false', Bool.not_true, Bool.not_false, bif_and, bif_or, Bool.not_not, ne_eq, Decidable.not_not, not_true_eq_false, not_false_eq_true, Int.not_le, Int.not_lt] at hc12)
        have hz0 : ptcE x = 0 := by omega
        obtain ⟨⟨p1, p2⟩, ⟨v1, v2⟩, k1, k2⟩ := ptcE_ok hz0
        have m1 := mulb (a := x.p) (b := x.k) (A := 1000) (B := 50000) (by omega) (by omega) (by omega) (by omega)
        have m0 : 0 < x.p * x.k := Int.mul_pos (by omega) (by omega)
        have hst : stpR x = if 100 * x.v < x.p * x.k then ((0, 0), 12) else (((min (100 * x.v - x.p * x.k) (x.p * x.k)).tdiv (gcdI (min (100 * x.v - x.p * x.k) (x.p * x.k)) (x.p * x.k)), (x.p * x.k).tdiv (gcdI (min (100 * x.v - x.p * x.k) (x.p * x.k)) (x.p * x.k))), 0) := by unfold stpR; rw [if_neg (fun h => h hz0)]
        refine awp_region 5 mixed (by kernel_rfl) ?_
        refine rg_q (q_loadA (ds := [_, _, _, _, _, _]) sz89 rfl rfl rfl) ?_
        refine rg_q (q_call en56 (.cons rfl .nil) rfl (rsteepest_p x hz0)) ?_
        refine rg_q (q_move (x := .d (.tup _)) rfl) ?_
        refine rg_q (q_extract rfl rfl) ?_
        refine rg_q (q_extract rfl rfl) ?_
        refine rg_nil ?_
        refine aops_store sz93 rfl rfl (by exact .inr ⟨_, rfl⟩) rfl rfl (by decide) rfl ?_
        refine aops_q rfl (q_assign (x := .d (.v _)) rfl) ?_
        refine aops_nil ?_
        change Awp _ _ _ _ _
        refine awp_seq ?_
        refine awp_seq ?_
        refine awp_region 8 mixed (by kernel_rfl) ?_
        refine rg_q (q_move (x := .d (.v _)) rfl) ?_
        refine rg_q (q_move (x := .d (.v _)) rfl) ?_
        refine rg_q (q_neq rfl rfl) ?_
        refine rg_q (q_move (x := .d (.v _)) rfl) ?_
        refine rg_g rfl rfl (fun hG => (q_load_refA (ds := [_, _]) sz93 rfl rfl rfl rfl)) ?_
        refine rg_g rfl rfl (fun hG => (q_load_refA (ds := [_, _]) sz93 rfl rfl rfl rfl)) ?_
        refine rg_g rfl rfl (fun hG => (q_neqI (xs := [_, _]) (ys := [_, _]) eqi93 rfl rfl rfl rfl)) ?_
        refine rg_pick rfl rfl rfl rfl rfl rfl ?_
        refine rg_nil ?_
        refine aops_nil ?_
        change Awp _ _ _ _ _
        refine awp_cond rfl (fun hc14 => ?_) (fun hc14 => ?_)
        ·
          simp at hc14
        ·
          (try simp only [decide_eq_true_eq, decide_eq_false_iff_not, Bool.and_eq_true, Bool.or_eq_true, Bool.and_eq_false_iff, Bool.or_eq_false_iff, Bool.not_eq_true', Bool.not_eq_false', Bool.not_true, Bool.not_false, bif_and, bif_or, Bool.not_not, ne_eq, Decidable.not_not, not_true_eq_false, not_false_eq_true, Int.not_le, Int.not_lt] at hc14)
          refine awp_skip ?_
          change Awp _ _ _ _ _
          refine awp_seq ?_
          refine awp_seq ?_
          refine awp_region 2 mixed (by kernel_rfl) ?_
          refine rg_q (q_move (x := .d (.v _)) rfl) ?_
          refine rg_q (q_eql rfl rfl) ?_
          refine rg_nil ?_
          refine aops_nil ?_
          change Awp _ _ _ _ _
          refine awp_cond rfl (fun hc16 => ?_) (fun hc16 => ?_)
          ·
            (try simp only [decide_eq_true_eq, decide_eq_false_iff_not, Bool.and_eq_true, Bool.or_eq_true, Bool.and_eq_false_iff, Bool.or_eq_false_iff, Bool.not_eq_true', Bool.not_eq_false', Bool.not_true, Bool.not_false, bif_and, bif_or, Bool.not_not, ne_eq, Decidable.not_not, not_true_eq_false, not_false_eq_true, Int.not_le, Int.not_lt] at hc16)
            refine awp_region 4 mixed (by kernel_rfl) ?_
            refine rg_q (q_fieldAddr fld89_3 rfl) ?_
            refine rg_q (q_loadA (ds := [_, _, _]) sz66 rfl rfl rfl) ?_
            refine rg_q (q_call en40 (.cons rfl .nil) rfl (rcheckTurn_p _)) ?_
            refine rg_q (q_assign (x := .d (.v _)) rfl) ?_
            refine rg_nil ?_
            refine aops_nil ?_
            change Awp _ _ _ _ _
            refine awp_seq ?_
            refine awp_seq ?_
            refine awp_region 2 mixed (by kernel_rfl) ?_
            refine rg_q (q_move (x := .d (.v _)) rfl) ?_
            refine rg_q (q_neq rfl rfl) ?_
            refine rg_nil ?_
            refine aops_nil ?_
            change Awp _ _ _ _ _
            refine awp_cond rfl (fun hc18 => ?_) (fun hc18 => ?_)
            ·
              (try simp only [decide_eq_true_eq, decide_eq_false_iff_not, Bool.and_eq_true, Bool.or_eq_true, Bool.and_eq_false_iff, Bool.or_eq_false_iff, Bool.not_eq_true', Bool.not_eq_false', Bool.not_true, Bool.not_false, bif_and, bif_or, Bool.not_not, ne_eq, Decidable.not_not, not_true_eq_false, not_false_eq_true, Int.not_le, Int.not_lt] at hc18)
              have hgf : gfR x = (false, trnE x.t) := by
                have e : gfE x = trnE x.t := by unfold gfE firstE; rw [if_pos hz0]; unfold firstE; rw [if_neg hc18]
                unfold gfR; rw [e, if_pos hc18]
              refine awp_seq ?_
              refine awp_region 8 mixed (by kernel_rfl) ?_
              refine rg_q (q_move (x := .d (.v _)) rfl) ?_
              refine rg_q (q_move (x := .d (.v _)) rfl) ?_
              refine rg_q (q_eql rfl rfl) ?_
              refine rg_q (q_move (x := .d (.v _)) rfl) ?_
              refine rg_g rfl rfl (fun hG => (q_move (x := .d (.v _)) rfl)) ?_
              refine rg_g rfl rfl (fun hG => (q_not rfl)) ?_
              refine rg_pick rfl rfl rfl rfl rfl rfl ?_
              refine rg_q (q_assign (x := .d (.v _)) rfl) ?_
              refine rg_nil ?_
              refine aops_nil ?_
              change Awp _ _ _ _ _
              refine awp_ret ?_
              refine ⟨_, (.cons (.tmp (by exact .d _)) .nil), ?_⟩
              rw [hgf]; simp [retD]
            ·
              (try simp only [decide_eq_true_eq, decide_eq_false_iff_not, Bool.and_eq_true, Bool.or_eq_true, Bool.and_eq_false_iff, Bool.or_eq_false_iff, Bool.not_eq_true', Bool.not_eq_false', Bool.not_true, Bool.not_false, bif_and, bif_or, Bool.not_not, ne_eq, Decidable.not_not, not_true_eq_false, not_false_eq_true, Int.not_le, Int.not_lt] at hc18)
              have ht0 : trnE x.t = 0 := by omega
              obtain ⟨r1, r2, q1, q2, _, _⟩ := trnE_ok ht0
              have hs0 : 0 ≤ sizI x.t.p ∧ sizI x.t.p ≤ x.t.r := by unfold sizI; omega
              have hgf : gfR x = (decide (x.p * x.k * (x.t.r + sizI x.t.p) ≤ 100 * x.v * x.t.r), 0) := by
                have e : gfE x = 0 := by unfold gfE; rw [hz0, ht0]; rfl
                unfold gfR; rw [e]; rfl
              refine awp_skip ?_
              change Awp _ _ _ _ _
              refine awp_seq ?_
              refine awp_seq ?_
              refine awp_region 8 mixed (by kernel_rfl) ?_
              refine rg_q (q_move (x := .d (.v _)) rfl) ?_
              refine rg_q (q_neq rfl rfl) ?_
              refine rg_q (q_move (x := .d (.v _)) rfl) ?_
              refine rg_g rfl rfl (fun hG => (q_move (x := .d (.v _)) rfl)) ?_
              refine rg_g rfl rfl (fun hG => (q_loadA (ds := [_, _, _, _, _, _]) sz89 rfl rfl rfl)) ?_
              refine rg_g rfl rfl (fun hG => (q_call en57 (.cons rfl .nil) rfl (rgrating_p x hz0 ht0))) ?_
              refine rg_g rfl rfl (fun hG => (q_neqB (by kernel_rfl) rfl rfl)) ?_
              refine rg_pick rfl rfl rfl rfl rfl rfl ?_
              refine rg_nil ?_
              refine aops_nil ?_
              change Awp _ _ _ _ _
              refine awp_cond rfl (fun hc20 => ?_) (fun hc20 => ?_)
              ·
                rw [hgf] at hc20
                simp at hc20
              ·
                (try simp only [decide_eq_true_eq, decide_eq_false_iff_not, Bool.and_eq_true, Bool.or_eq_true, Bool.and_eq_false_iff, Bool.or_eq_false_iff, Bool.not_eq_true', Bool.not_eq_false', Bool.not_true, Bool.not_false, bif_and, bif_or, Bool.not_not, ne_eq, Decidable.not_not, not_true_eq_false, not_false_eq_true, Int.not_le, Int.not_lt] at hc20)
                refine awp_skip ?_
                change Awp _ _ _ _ _
                refine awp_seq ?_
                refine awp_seq ?_
                refine awp_region 2 mixed (by kernel_rfl) ?_
                refine rg_q (q_move (x := .d (.v _)) rfl) ?_
                refine rg_q (q_neq rfl rfl) ?_
                refine rg_nil ?_
                refine aops_nil ?_
                change Awp _ _ _ _ _
                refine awp_cond rfl (fun hc22 => ?_) (fun hc22 => ?_)
                ·
                  (try simp only [decide_eq_true_eq, decide_eq_false_iff_not, Bool.and_eq_true, Bool.or_eq_true, Bool.and_eq_false_iff, Bool.or_eq_false_iff, Bool.not_eq_true', Bool.not_eq_false', Bool.not_true, Bool.not_false, bif_and, bif_or, Bool.not_not, ne_eq, Decidable.not_not, not_true_eq_false, not_false_eq_true, Int.not_le, Int.not_lt] at hc22)
                  have hlt : 100 * x.v < x.p * x.k := by
                    by_cases h : 100 * x.v < x.p * x.k
                    · exact h
                    · rw [hst, if_neg h] at hc22; simp at hc22
                  have hno := lob_none m0 (show 0 < x.t.r by omega) hs0.1 hlt
                  refine awp_seq ?_
                  refine awp_region 3 mixed (by kernel_rfl) ?_
                  refine rg_q (q_move (x := .d (.v _)) rfl) ?_
                  refine rg_q (q_not rfl) ?_
                  refine rg_q (q_assign (x := .d (.v _)) rfl) ?_
                  refine rg_nil ?_
                  refine aops_nil ?_
                  change Awp _ _ _ _ _
                  refine awp_ret ?_
                  refine ⟨_, (.cons (.tmp (by exact .d _)) .nil), ?_⟩
                  rw [hgf]; simp [retD]; omega
                ·
                  (try simp only [decide_eq_true_eq, decide_eq_false_iff_not, Bool.and_eq_true, Bool.or_eq_true, Bool.and_eq_false_iff, Bool.or_eq_false_iff, Bool.not_eq_true', Bool.not_eq_false', Bool.not_true, Bool.not_false, bif_and, bif_or, Bool.not_not, ne_eq, Decidable.not_not, not_true_eq_false, not_false_eq_true, Int.not_le, Int.not_lt] at hc22)
                  have hge : x.p * x.k ≤ 100 * x.v := by
                    by_cases h : 100 * x.v < x.p * x.k
                    · rw [hst, if_pos h] at hc22; simp at hc22
                    · omega
                  rw [if_neg (by omega)] at hst
                  have hso := lob_some m0 (show 0 < x.t.r by omega) hs0.1 hs0.2 hge rfl
                  have hg0 : 0 < gcdI (min (100 * x.v - x.p * x.k) (x.p * x.k)) (x.p * x.k) := gcdI_pos (by omega)
                  have td1 := tdiv_in (n := min (100 * x.v - x.p * x.k) (x.p * x.k)) (by omega) hg0
                  have td2 := tdiv_in (n := x.p * x.k) (by omega) hg0
                  have td3 : 0 < (x.p * x.k).tdiv (gcdI (min (100 * x.v - x.p * x.k) (x.p * x.k)) (x.p * x.k)) := by
                    have d2 : gcdI (min (100 * x.v - x.p * x.k) (x.p * x.k)) (x.p * x.k) ∣ x.p * x.k := Int.gcd_dvd_right _ _
                    obtain ⟨d, hd⟩ := d2
                    generalize gcdI (min (100 * x.v - x.p * x.k) (x.p * x.k)) (x.p * x.k) = G at *
                    rw [hd, Int.mul_tdiv_cancel_left _ (by omega)]
                    rcases Int.lt_or_le 0 d with k | k
                    · exact k
                    · have := Int.mul_nonpos_of_nonneg_of_nonpos (Int.le_of_lt hg0) k; omega
                  rw [hst]
                  refine awp_skip ?_
                  change Awp _ _ _ _ _
                  refine awp_seq ?_
                  refine awp_region 16 mixed (by kernel_rfl) ?_
                  refine rg_q (q_move (x := .d (.v _)) rfl) ?_
                  refine rg_q (q_fieldAddr fld89_3 rfl) ?_
                  refine rg_q (q_fieldAddr fld66_0 rfl) ?_
                  refine rg_q (q_load sz3 rfl rfl) ?_
                  refine rg_q (q_call en59 (.cons rfl .nil) rfl (Size_p _ ⟨by omega, by omega⟩)) ?_
                  refine rg_q (q_fieldAddr fld89_3 rfl) ?_
                  refine rg_q (q_fieldAddr fld66_2 rfl) ?_
                  refine rg_q (q_load sz3 rfl rfl) ?_
                  refine rg_q (q_fieldAddr_ref fld93_0 rfl) ?_
                  refine rg_q (q_load_ref sz3 rfl rfl rfl) ?_
                  refine rg_q (q_fieldAddr_ref fld93_1 rfl) ?_
                  refine rg_q (q_load_ref sz3 rfl rfl rfl) ?_
                  refine rg_q (q_call en58 (.cons rfl (.cons rfl (.cons rfl (.cons rfl .nil)))) rfl (bcompare_p _ _ _ _ ⟨by unfold sizI at hs0; omega, by unfold sizI at hs0; omega⟩ ⟨by omega, by omega, by omega⟩ ⟨by (simp only; omega), by (simp only; omega)⟩ ⟨by omega, by (simp only; omega), by (simp only; omega)⟩)) ?_
                  refine rg_q (q_leq rfl rfl) ?_
                  refine rg_q (q_eqlB (by kernel_rfl) rfl rfl) ?_
                  refine rg_q (q_assign (x := .d (.v _)) rfl) ?_
                  refine rg_nil ?_
                  refine aops_nil ?_
                  change Awp _ _ _ _ _
                  refine awp_ret ?_
                  refine ⟨_, (.cons (.tmp (by exact .d _)) .nil), ?_⟩
                  have h2 := decide_eq_decide.1 hso
                  unfold sizI at h2
                  rw [hgf]
                  simp only [sizI]
                  simp [retD, h2]
          ·
            exfalso; (try simp only [decide_eq_true_eq, decide_eq_false_iff_not, Bool.and_eq_true, Bool.or_eq_true, Bool.and_eq_false_iff, Bool.or_eq_false_iff, Bool.not_eq_true', Bool.not_eq_false', Bool.not_true, Bool.not_false, bif_and, bif_or, Bool.not_not, ne_eq, Decidable.not_not, not_true_eq_false, not_false_eq_true, Int.not_le, Int.not_lt] at hc16); omega
      ·
        (try simp only [decide_eq_true_eq, decide_eq_false_iff_not, Bool.and_eq_true, Bool.or_eq_true, Bool.and_eq_false_iff, Bool.or_eq_false_iff, Bool.not_eq_true', Bool.not_eq_false', Bool.not_true, Bool.not_false, bif_and, bif_or, Bool.not_not, ne_eq, Decidable.not_not, not_true_eq_false, not_false_eq_true, Int.not_le, Int.not_lt] at hc12)
        have hst : stpR x = ((0, 0), ptcE x) := by unfold stpR; rw [if_pos hc12]
        have hgf : gfR x = (false, ptcE x) := by
          have e : gfE x = ptcE x := by unfold gfE firstE; rw [if_neg hc12]
          unfold gfR; rw [e, if_pos hc12]
        refine awp_skip ?_
        change Awp _ _ _ _ _
        refine awp_seq ?_
        refine awp_seq ?_
        refine awp_region 8 mixed (by kernel_rfl) ?_
        refine rg_q (q_move (x := .d (.v _)) rfl) ?_
        refine rg_q (q_move (x := .d (.v _)) rfl) ?_
        refine rg_q (q_neq rfl rfl) ?_
        refine rg_q (q_move (x := .d (.v _)) rfl) ?_
        refine rg_g rfl rfl (fun hG => (q_load_refA (ds := [_, _]) sz93 rfl rfl rfl rfl)) ?_
        refine rg_g rfl rfl (fun hG => (q_load_refA (ds := [_, _]) sz93 rfl rfl rfl rfl)) ?_
        refine rg_g rfl rfl (fun hG => (q_neqI (xs := [_, _]) (ys := [_, _]) eqi93 rfl rfl rfl rfl)) ?_
        refine rg_pick rfl rfl rfl rfl rfl rfl ?_
        refine rg_nil ?_
        refine aops_nil ?_
        change Awp _ _ _ _ _
        refine awp_cond rfl (fun hc14 => ?_) (fun hc14 => ?_)
        ·
          rw [hst] at hc14
          simp at hc14
        ·
          (try simp only [decide_eq_true_eq, decide_eq_false_iff_not, Bool.and_eq_true, Bool.or_eq_true, Bool.and_eq_false_iff, Bool.or_eq_false_iff, Bool.not_eq_true', Bool.not_eq_false', Bool.not_true, Bool.not_false, bif_and, bif_or, Bool.not_not, ne_eq, Decidable.not_not, not_true_eq_false, not_false_eq_true, Int.not_le, Int.not_lt] at hc14)
          refine awp_skip ?_
          change Awp _ _ _ _ _
          refine awp_seq ?_
          refine awp_seq ?_
          refine awp_region 2 mixed (by kernel_rfl) ?_
          refine rg_q (q_move (x := .d (.v _)) rfl) ?_
          refine rg_q (q_eql rfl rfl) ?_
          refine rg_nil ?_
          refine aops_nil ?_
          change Awp _ _ _ _ _
          refine awp_cond rfl (fun hc16 => ?_) (fun hc16 => ?_)
          ·
            exfalso; (try simp only [decide_eq_true_eq, decide_eq_false_iff_not, Bool.and_eq_true, Bool.or_eq_true, Bool.and_eq_false_iff, Bool.or_eq_false_iff, Bool.not_eq_true', Bool.not_eq_false', Bool.not_true, Bool.not_false, bif_and, bif_or, Bool.not_not, ne_eq, Decidable.not_not, not_true_eq_false, not_false_eq_true, Int.not_le, Int.not_lt] at hc16); omega
          ·
            (try simp only [decide_eq_true_eq, decide_eq_false_iff_not, Bool.and_eq_true, Bool.or_eq_true, Bool.and_eq_false_iff, Bool.or_eq_false_iff, Bool.not_eq_true', Bool.not_eq_false', Bool.not_true, Bool.not_false, bif_and, bif_or, Bool.not_not, ne_eq, Decidable.not_not, not_true_eq_false, not_false_eq_true, Int.not_le, Int.not_lt] at hc16)
            refine awp_skip ?_
            change Awp _ _ _ _ _
            refine awp_seq ?_
            refine awp_seq ?_
            refine awp_region 2 mixed (by kernel_rfl) ?_
            refine rg_q (q_move (x := .d (.v _)) rfl) ?_
            refine rg_q (q_neq rfl rfl) ?_
            refine rg_nil ?_
            refine aops_nil ?_
            change Awp _ _ _ _ _
            refine awp_cond rfl (fun hc18 => ?_) (fun hc18 => ?_)
            ·
              (try simp only [decide_eq_true_eq, decide_eq_false_iff_not, Bool.and_eq_true, Bool.or_eq_true, Bool.and_eq_false_iff, Bool.or_eq_false_iff, Bool.not_eq_true', Bool.not_eq_false', Bool.not_true, Bool.not_false, bif_and, bif_or, Bool.not_not, ne_eq, Decidable.not_not, not_true_eq_false, not_false_eq_true, Int.not_le, Int.not_lt] at hc18)
              refine awp_seq ?_
              refine awp_region 8 mixed (by kernel_rfl) ?_
              refine rg_q (q_move (x := .d (.v _)) rfl) ?_
              refine rg_q (q_move (x := .d (.v _)) rfl) ?_
              refine rg_q (q_eql rfl rfl) ?_
              refine rg_q (q_move (x := .d (.v _)) rfl) ?_
              refine rg_g rfl rfl (fun hG => (q_move (x := .d (.v _)) rfl)) ?_
              refine rg_g rfl rfl (fun hG => (q_not rfl)) ?_
              refine rg_pick rfl rfl rfl rfl rfl rfl ?_
              refine rg_q (q_assign (x := .d (.v _)) rfl) ?_
              refine rg_nil ?_
              refine aops_nil ?_
              change Awp _ _ _ _ _
              refine awp_ret ?_
              refine ⟨_, (.cons (.tmp (by exact .d _)) .nil), ?_⟩
              rw [hgf]; simp [retD]
            ·
              exfalso; (try simp only [decide_eq_true_eq, decide_eq_false_iff_not, Bool.and_eq_true, Bool.or_eq_true, Bool.and_eq_false_iff, Bool.or_eq_false_iff, Bool.not_eq_true', Bool.not_eq_false', Bool.not_true, Bool.not_false, bif_and, bif_or, Bool.not_not, ne_eq, Decidable.not_not, not_true_eq_false, not_false_eq_true, Int.not_le, Int.not_lt] at hc18); omega
end Go.Proofs.YtgeieocphgnipaaGreatDoor.Am.M
