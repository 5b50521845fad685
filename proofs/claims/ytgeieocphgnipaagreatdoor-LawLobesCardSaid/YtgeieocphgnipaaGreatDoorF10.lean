/- Contracts over the abstract machine: package law: apertures, plain laws. Conditions: none. -/
import Derived.Test.YtgeieocphgnipaaGreatDoorF9
set_option linter.unusedVariables false
set_option linter.unusedSimpArgs false
-- mini
namespace Go.Proofs.YtgeieocphgnipaaGreatDoor.Am.M
open Go
set_option maxRecDepth 100000 in
theorem apertureBad_p (a : Lar) (x : Dly) (h : opnE a x ≠ 0) : PC Tryz.prog 47 [.agg (larC a), .agg (dlyC x)] (.tup [.agg [.v (.int .i64 ((aptR a x).1.1)), .v (.int .i64 ((aptR a x).1.2))], .v (.int .i64 ((aptR a x).2))]) := by
  have hz : aptR a x = ((0, 0), opnE a x) := by unfold aptR; rw [if_pos h]
  refine pc_of_awpN Tryz.func47 rfl Tryz.ntmps47 (rs := [.cell 4 49, .tmp 5]) Tryz.results47 (by simp) fun w0 hmine hrnd hpn => ?_
  refine awp_seq ?_
  refine awp_region 2 mixed (by kernel_rfl) ?_
  refine rg_q (q_box rfl (by exact .inr ⟨_, rfl⟩)) ?_
  refine rg_q (q_box rfl (by exact .inr ⟨_, rfl⟩)) ?_
  refine rg_nil ?_
  refine aops_alloc zr49 rfl rfl rfl ?_
  refine aops_q rfl (q_assign (x := .d (.v _)) rfl) ?_
  refine aops_nil ?_
  change Awp _ _ _ _ _
  refine awp_seq ?_
  refine awp_region 6 mixed (by kernel_rfl) ?_
  refine rg_q (q_loadA (ds := [_, _, _, _, _, _]) sz26 rfl rfl rfl) ?_
  refine rg_q (q_loadA (ds := [_, _]) sz33 rfl rfl rfl) ?_
  refine rg_q (q_call en87 (.cons rfl (.cons rfl .nil)) rfl (openBad_p a x h)) ?_
  refine rg_q (q_move (x := .d (.tup _)) rfl) ?_
  refine rg_q (q_extract rfl rfl) ?_
  refine rg_q (q_extract rfl rfl) ?_
  refine rg_nil ?_
  refine aops_alloc zr138 rfl rfl rfl ?_
  refine aops_store sz138 rfl rfl (by exact .inr ⟨_, rfl⟩) rfl rfl (by decide) rfl ?_
  refine aops_q rfl (q_assign (x := .d (.v _)) rfl) ?_
  refine aops_nil ?_
  change Awp _ _ _ _ _
  refine awp_seq ?_
  refine awp_seq ?_
  refine awp_region 2 mixed (by kernel_rfl) ?_
  refine rg_q (q_move (x := .d (.v _)) rfl) ?_
  refine rg_q (q_neq rfl rfl) ?_
  refine rg_nil ?_
  refine aops_nil ?_
  change Awp _ _ _ _ _
  refine awp_cond rfl (fun hc2 => ?_) (fun hc2 => ?_)
  ·
    (try simp only [decide_eq_true_eq, decide_eq_false_iff_not, Bool.and_eq_true, Bool.or_eq_true, Bool.and_eq_false_iff, Bool.or_eq_false_iff, Bool.not_eq_true', Bool.not_eq_false', Bool.not_true, Bool.not_false, bif_and, bif_or, Bool.not_not, ne_eq, Decidable.not_not, not_true_eq_false, not_false_eq_true, Int.not_le, Int.not_lt] at hc2)
    refine awp_seq ?_
    refine awp_region 2 mixed (by kernel_rfl) ?_
    refine rg_q (q_build (cs := [_, _]) pl49 zr49 rfl .nil trivial rfl) ?_
    refine rg_q (q_move (x := .d (.v _)) rfl) ?_
    refine rg_nil ?_
    refine aops_store sz49 rfl rfl (by exact .inr ⟨_, rfl⟩) rfl rfl (by decide) rfl ?_
    refine aops_q rfl (q_assign (x := .d (.v _)) rfl) ?_
    refine aops_nil ?_
    change Awp _ _ _ _ _
    refine awp_ret ?_
    refine ⟨_, (.cons (.cellA rfl rfl sz49 rfl) (.cons (.tmp (by exact .d _)) .nil)), ?_⟩
    rw [hz]; rfl
  ·
    simp at hc2
    exact absurd hc2 h

theorem aperture_any (a : Lar) (x : Dly) : PC Tryz.prog 47 [.agg (larC a), .agg (dlyC x)] (.tup [.agg [.v (.int .i64 (aptR a x).1.1), .v (.int .i64 (aptR a x).1.2)], .v (.int .i64 (aptR a x).2)]) := by
  by_cases h : opnE a x = 0
  · exact aperture_p a x h
  · exact apertureBad_p a x h
/-- A law without some elements. -/
def wthL (t : List Int) (dead : List Int) : List Int := t.mapIdx fun i n => if dead.any (fun d => decide (d = (i : Int))) = true then -1 else n
theorem wth_at {t dead : List Int} {i : Nat} {n : Int} (h : t[i]? = some n) : (wthL t dead)[i]? = some (if dead.any (fun d => decide (d = (i : Int))) = true then -1 else n) := by
  unfold wthL; rw [List.getElem?_mapIdx, h]; rfl
theorem wth_len (t dead : List Int) : (wthL t dead).length = t.length := by unfold wthL; rw [List.length_mapIdx]
/-- Who sends without some elements: who is left. -/
theorem snd_wth {t dead : List Int} : ∀ {k : Nat}, k ≤ t.length → sndTo (wthL t dead) k = (sndTo t k).filter fun p => !dead.any fun d => decide (d = p.1)
  | 0, _ => rfl
  | k + 1, hk => by
    have hx := List.getElem?_eq_getElem (l := t) (i := k) (by omega)
    have hw := wth_at (dead := dead) hx
    generalize t[k] = n at *
    have ih := snd_wth (t := t) (dead := dead) (k := k) (by omega)
    by_cases hd : dead.any (fun d => decide (d = (k : Int))) = true
    · rw [if_pos hd] at hw
      rw [sndTo_no hw (by omega), ih]
      by_cases hn : 0 ≤ n
      · rw [sndTo_yes hx hn, List.filter_append]; simp [hd]
      · rw [sndTo_no hx hn]
    · rw [if_neg hd] at hw
      by_cases hn : 0 ≤ n
      · rw [sndTo_yes hw hn, sndTo_yes hx hn, ih, List.filter_append]
        have hd' : (dead.any fun d => decide (d = (k : Int))) = false := Bool.eq_false_iff.2 hd
        simp only [List.filter_cons, List.filter_nil, hd', Bool.not_false, if_true]
      · rw [sndTo_no hw hn, sndTo_no hx hn, ih]
/-- Near fields of lesser apertures end earlier. -/
theorem near_mono {a b s k : Int} (h0 : 0 ≤ a) (h1 : a ≤ b) (h2 : (nearR b s k).2 = 0) : (nearR a s k).2 = 0 ∧ (nearR a s k).1.1 ≤ (nearR b s k).1.1 ∧ (nearR a s k).1.2 ≤ (nearR b s k).1.2 := by
  unfold nearR at h2
  by_cases hb : (!inR 0 b 10000 || !inR 500 s 10000 || !inR 1 k 50000) = true
  · rw [if_pos hb] at h2; simp at h2
  have hb2 := hb
  simp [inR] at hb2
  obtain ⟨⟨⟨b1, b2⟩, s1, s2⟩, k1, k2⟩ := hb2
  have ha : ¬ (!inR 0 a 10000 || !inR 500 s 10000 || !inR 1 k 50000) = true := by simp [inR]; omega
  unfold nearR
  rw [if_neg ha, if_neg hb]
  have m1 := Int.mul_le_mul h1 h1 h0 (show 0 ≤ b by omega)
  have m2 := Int.mul_le_mul_of_nonneg_right m1 (show 0 ≤ k by omega)
  have p := show 0 < 400 * s by omega
  refine ⟨rfl, Int.ediv_le_ediv p m2, ?_⟩
  unfold ceilI
  have := Int.ediv_le_ediv p (show -(b * b * k) ≤ -(a * a * k) by omega)
  simp only
  omega
end Go.Proofs.YtgeieocphgnipaaGreatDoor.Am.M
