/- Contracts over the abstract machine: full matrices: the reference; BenchMatrices. Conditions: none. -/
import Derived.Test.YtblbnagdhcpnoaaGreatK25
import Derived.Test.YtblbnagdhcpnoaaGreatAmE
import Derived.Test.YtblbnagdhcpnoaaGreatY3
set_option linter.unusedVariables false
set_option linter.unusedSimpArgs false
-- mini
namespace Go.Proofs.YtblbnagdhcpnoaaGreat.Am.M
open Go

theorem matrix_p (s : Spc) : PC Tryz.prog 20 [.agg (spcC s)] (.tup [.agg (mxC (mxR s).1), .v (.int .i64 ((mxR s).2))]) := by
  by_cases h : (ckSpc s).2 = 0
  · exact matrixOk_p s h
  · exact matrixBad_p s h
set_option maxRecDepth 100000 in
theorem rmatrix_p (s : Spc) (h0 : (ckSpc s).2 = 0) : PC Tryz.prog 21 [.agg (spcC s)] (.tup [.agg (mxC (mxR s).1), .v (.int .i64 ((mxR s).2))]) := by
  have hsp := spc_ok h0
  have hok := hsp.ar
  have hn2 := hok.n2
  have hpl := prL_len hn2
  refine pc_of_awpN Tryz.func21 rfl Tryz.ntmps21 (rs := [.cell 2 59, .tmp 3]) Tryz.results21 (by simp) fun w0 hmine hrnd hpn => ?_
  refine awp_seq ?_
  refine awp_region 1 mixed (by kernel_rfl) ?_
  refine rg_q (q_box rfl (by exact .inr ⟨_, rfl⟩)) ?_
  refine rg_nil ?_
  refine aops_alloc zr59 rfl rfl rfl ?_
  refine aops_q rfl (q_assign (x := .d (.v _)) rfl) ?_
  refine aops_nil ?_
  change Awp _ _ _ _ _
  refine awp_seq ?_
  refine awp_region 5 mixed (by kernel_rfl) ?_
  refine rg_q (q_fieldAddr fld32_0 rfl) ?_
  refine rg_q (q_fieldAddr fld28_0 rfl) ?_
  refine rg_q (q_load sz22 rfl rfl) ?_
  refine rg_q (q_len isl22 rfl (by exact len_map _ _)) ?_
  refine rg_q (q_assign (x := .d (.v _)) rfl) ?_
  refine rg_nil ?_
  refine aops_nil ?_
  change Awp _ _ _ _ _
  refine awp_len (t := 12) rfl (fun hl12 => ?_)
  (try simp only [List.length_map] at hl12)
  refine awp_seq ?_
  refine awp_region 2 mixed (by kernel_rfl) ?_
  refine rg_q (q_move (x := .d (.v _)) rfl) ?_
  refine rg_q (q_build (cs := [_, _]) pl59 zr59 rfl (.cons rfl (by exact .inl rfl) .nil) ⟨⟨rfl, by decide⟩, trivial⟩ rfl) ?_
  refine rg_nil ?_
  refine aops_alloc zr59 rfl rfl rfl ?_
  refine aops_store sz59 rfl rfl (by exact .inr ⟨_, rfl⟩) rfl rfl (by decide) rfl ?_
  refine aops_nil ?_
  change Awp _ _ _ _ _
  refine awp_seq ?_
  refine awp_seq ?_
  refine Awp.le (le_ownB 5 41 1 36 1 rfl rfl rfl) ?_
  refine awp_region 1 mixed (by kernel_rfl) ?_
  refine rg_q (q_assign (x := .d (.v _)) rfl) ?_
  refine rg_nil ?_
  refine aops_nil ?_
  change Awp _ _ _ _ _
  refine awp_block ?_
  refine awp_loopH [3, 6, 7, 8, 9, 16, 17, 18, 19, 20, 21, 22, 23, 24, 25, 26, 27, 28, 29, 30, 31, 32, 33, 34, 35, 36, 37, 38, 39, 40, 41, 42] [5, 41] (α := Nat) (fun i => [(6, T.i (i : Int))]) (fun i => [(5, .tbox [.d (.v (.int .i64 ((s.ar.el.length : Int)))), .rs 41]), (41, .row 36 1 ((mxB s (prF s.ar.el.length i)).map fvC))]) (fun i => i ≤ s.ar.el.length ∧ (prF s.ar.el.length i).any (bigP s) = false) (fun i => s.ar.el.length - i) 0 ⟨Nat.zero_le _, rfl⟩ ?_ ?_
  · exact le_head (ms := [5, 41]) (by repeat (exact Out.refl _)) ⟨(by rfl), trivial⟩ ⟨(by rfl), (by rfl), trivial⟩ rfl rfl rfl rfl
  ·
    intro i ⟨hi, hf⟩
    refine awp_seq ?_
    refine awp_seq ?_
    refine awp_region 3 mixed (by kernel_rfl) ?_
    refine rg_q (q_move (x := .d (.v _)) rfl) ?_
    refine rg_q (q_move (x := .d (.v _)) rfl) ?_
    refine rg_q (q_lss rfl rfl) ?_
    refine rg_nil ?_
    refine aops_nil ?_
    change Awp _ _ _ _ _
    refine awp_cond rfl (fun hc4 => ?_) (fun hc4 => ?_)
    ·
      (try simp only [decide_eq_true_eq, decide_eq_false_iff_not, Bool.and_eq_true, Bool.or_eq_true, Bool.and_eq_false_iff, Bool.or_eq_false_iff, Bool.not_eq_true', Bool.not_eq_false', Bool.not_true, Bool.not_false, bif_and, bif_or, Bool.not_not, ne_eq, Decidable.not_not, not_true_eq_false, not_false_eq_true, Int.not_le, Int.not_lt] at hc4)
      have hlt : i < s.ar.el.length := by omega
      refine awp_skip ?_
      change Awp _ _ _ _ _
      refine awp_seq ?_
      refine awp_block ?_
      refine awp_seq ?_
      refine awp_region 1 mixed (by kernel_rfl) ?_
      refine rg_q (q_assign (x := .d (.v _)) rfl) ?_
      refine rg_nil ?_
      refine aops_nil ?_
      change Awp _ _ _ _ _
      refine awp_block ?_
      refine awp_loopH [3, 7, 8, 9, 21, 22, 23, 24, 25, 26, 27, 28, 29, 30, 31, 32, 33, 34, 35, 36, 37, 38, 39, 40, 41, 42] [5, 41] (α := Nat) (fun j => [(7, T.i (j : Int))]) (fun j => [(5, .tbox [.d (.v (.int .i64 ((s.ar.el.length : Int)))), .rs 41]), (41, .row 36 1 ((mxB s (prF s.ar.el.length i ++ prR i j)).map fvC))]) (fun j => j ≤ s.ar.el.length ∧ (prF s.ar.el.length i ++ prR i j).any (bigP s) = false) (fun j => s.ar.el.length - j) 0 ⟨Nat.zero_le _, by simp only [prR, List.range_zero, List.map_nil, List.append_nil]; exact hf⟩ ?_ ?_
      · exact le_head (ms := [5, 41]) (by repeat (exact Out.refl _)) ⟨(by rfl), trivial⟩ ⟨(by rfl), (by ((show Site.row _ _ _ = Site.row _ _ _; simp [prR]; done))), trivial⟩ rfl rfl rfl rfl
      ·
        intro j ⟨hj, hg⟩
        refine awp_seq ?_
        refine awp_seq ?_
        refine awp_region 3 mixed (by kernel_rfl) ?_
        refine rg_q (q_move (x := .d (.v _)) rfl) ?_
        refine rg_q (q_move (x := .d (.v _)) rfl) ?_
        refine rg_q (q_lss rfl rfl) ?_
        refine rg_nil ?_
        refine aops_nil ?_
        change Awp _ _ _ _ _
        refine awp_cond rfl (fun hc7 => ?_) (fun hc7 => ?_)
        ·
          (try simp only [decide_eq_true_eq, decide_eq_false_iff_not, Bool.and_eq_true, Bool.or_eq_true, Bool.and_eq_false_iff, Bool.or_eq_false_iff, Bool.not_eq_true', Bool.not_eq_false', Bool.not_true, Bool.not_false, bif_and, bif_or, Bool.not_not, ne_eq, Decidable.not_not, not_true_eq_false, not_false_eq_true, Int.not_le, Int.not_lt] at hc7)
          have hlj : j < s.ar.el.length := by omega
          have hpk : (0 ≤ ((i : Int), (j : Int)).1 ∧ ((i : Int), (j : Int)).1 < s.ar.el.length) ∧ 0 ≤ ((i : Int), (j : Int)).2 ∧ ((i : Int), (j : Int)).2 < s.ar.el.length := ⟨⟨by simp only; omega, by simp only; omega⟩, by simp only; omega, by simp only; omega⟩
          have hml := mxB_len s (prF s.ar.el.length i ++ prR i j)
          have hm64 := mtS_len s ((i : Int), (j : Int))
          have hle : (prF s.ar.el.length i ++ prR i j).length ≤ 256 := by
            have h2 := (pr_pre hlt (Nat.le_of_lt hlj)).length_le
            omega
          have hpre : (prF s.ar.el.length i ++ prR i j) ++ [((i : Int), (j : Int))] <+: prL s.ar.el.length := by rw [List.append_assoc, ← prR_succ]; exact pr_pre hlt (by omega)
          have hmem : ((i : Int), (j : Int)) ∈ prL s.ar.el.length := hpre.subset (by simp)
          have hsp2 : prF s.ar.el.length i ++ prR i (j + 1) = (prF s.ar.el.length i ++ prR i j) ++ [((i : Int), (j : Int))] := by rw [prR_succ, List.append_assoc]
          have hs1 : (mxB s (prF s.ar.el.length i ++ prR i j)).map fvC ++ (mtS s ((i : Int), (j : Int))).map fvC = (mxB s (prF s.ar.el.length i ++ prR i (j + 1))).map fvC := by rw [hsp2, mxB_snoc, List.map_append]
          refine awp_skip ?_
          change Awp _ _ _ _ _
          refine awp_seq ?_
          refine awp_block ?_
          refine awp_seq ?_
          refine awp_region 8 mixed (by kernel_rfl) ?_
          refine rg_q (q_loadA sz32 rfl rfl rfl) ?_
          refine rg_q (q_move (x := .d (.v _)) rfl) ?_
          refine rg_q (q_move (x := .d (.v _)) rfl) ?_
          refine rg_q (q_buildA (cs := [_, _]) ar33 zr33 rfl (.cons rfl (by exact .inl rfl) (.cons rfl (by exact .inl rfl) .nil)) ⟨⟨rfl, by decide⟩, ⟨rfl, by decide⟩, trivial⟩ rfl) ?_
          refine rg_q (q_call en15 (.cons rfl (.cons rfl .nil)) rfl (rtraceOf_p s ((i : Int), (j : Int)) h0 hpk)) ?_
          refine rg_q (q_move (x := .d (.tup _)) rfl) ?_
          refine rg_q (q_extract rfl rfl) ?_
          refine rg_q (q_extract rfl rfl) ?_
          refine rg_nil ?_
          refine aops_allocD zr38 rfl sz38 rfl rfl (by exact .inr ⟨_, rfl⟩) (trR_len s _) rfl ?_
          refine aops_q rfl (q_assign (x := .d (.v _)) rfl) ?_
          refine aops_nil ?_
          change Awp _ _ _ _ _
          refine awp_seq ?_
          refine awp_seq ?_
          refine awp_region 2 mixed (by kernel_rfl) ?_
          refine rg_q (q_move (x := .d (.v _)) rfl) ?_
          refine rg_q (q_neq rfl rfl) ?_
          refine rg_nil ?_
          refine aops_nil ?_
          change Awp _ _ _ _ _
          refine awp_cond rfl (fun hc10 => ?_) (fun hc10 => ?_)
          ·
            (try simp only [decide_eq_true_eq, decide_eq_false_iff_not, Bool.and_eq_true, Bool.or_eq_true, Bool.and_eq_false_iff, Bool.or_eq_false_iff, Bool.not_eq_true', Bool.not_eq_false', Bool.not_true, Bool.not_false, bif_and, bif_or, Bool.not_not, ne_eq, Decidable.not_not, not_true_eq_false, not_false_eq_true, Int.not_le, Int.not_lt] at hc10)
            have hb : bigP s ((i : Int), (j : Int)) = true := by
              cases q : bigP s ((i : Int), (j : Int)) with
              | true => rfl
              | false => rw [trc_ok q] at hc10; exact absurd rfl hc10
            rw [trc_big hb]
            have hz : mxR s = ((0, []), 8) := by unfold mxR; rw [if_neg (fun q => q h0), if_pos (List.any_eq_true.2 ⟨_, hmem, hb⟩)]
            refine awp_seq ?_
            refine awp_region 2 mixed (by kernel_rfl) ?_
            refine rg_q (q_build (cs := [_, _]) pl59 zr59 rfl .nil trivial rfl) ?_
            refine rg_q (q_move (x := .d (.v _)) rfl) ?_
            refine rg_nil ?_
            refine aops_store sz59 rfl rfl (by exact .inr ⟨_, rfl⟩) rfl rfl (by decide) rfl ?_
            refine aops_q rfl (q_assign (x := .d (.v _)) rfl) ?_
            refine aops_nil ?_
            change Awp _ _ _ _ _
            refine Awp.le (le_upB 2 (mxC (0, [])) rfl (.cons (.same _) (.cons (.nil 1) .nil))) ?_
            refine awp_ret ?_
            refine ⟨_, (.cons (.cellA rfl rfl sz59 rfl) (.cons (.tmp (by exact .d _)) .nil)), ?_⟩
            rw [hz]; rfl
          ·
            (try simp only [decide_eq_true_eq, decide_eq_false_iff_not, Bool.and_eq_true, Bool.or_eq_true, Bool.and_eq_false_iff, Bool.or_eq_false_iff, Bool.not_eq_true', Bool.not_eq_false', Bool.not_true, Bool.not_false, bif_and, bif_or, Bool.not_not, ne_eq, Decidable.not_not, not_true_eq_false, not_false_eq_true, Int.not_le, Int.not_lt] at hc10)
            have hb : bigP s ((i : Int), (j : Int)) = false := by
              cases q : bigP s ((i : Int), (j : Int)) with
              | false => rfl
              | true => rw [trc_big q] at hc10; cases hc10
            rw [trc_ok hb]
            have hg2 : (prF s.ar.el.length i ++ prR i (j + 1)).any (bigP s) = false := by rw [hsp2]; exact any_snoc hg hb
            refine awp_skip ?_
            change Awp _ _ _ _ _
            refine awp_early (i := 4) mixed rfl (by kernel_rfl) fld59_1 rfl ?_
            refine any_regionC 6 [0, 1, 3, 5] [41, 5] (by kernel_rfl) ?_
            refine rgc_c rfl rfl (c_q (q_fieldAddr_ref fld59_1 rfl)) ?_
            refine rgc_c rfl rfl (c_q (q_load_tb (x := .rs _) sz57 rfl rfl rfl)) ?_
            refine rgc_q rfl (q_sliceP (es := (mtS s ((i : Int), (j : Int))).map fvC) ar38 rfl (by show ((mtS s ((i : Int), (j : Int))).map fv).length = 64; rw [List.length_map, mtS_len]) (by decide) (by decide) (by show (((mtS s ((i : Int), (j : Int))).map fv).map fun d => [d]) = _; exact mt_row s _)) rfl ?_
            refine rgc_c rfl rfl (c_append (es' := (mxB s (prF s.ar.el.length i ++ prR i (j + 1))).map fvC) sl57 zr36 by36 rfl (by decide) rfl rfl rfl rfl (by (try simp only [List.length_map, List.length_append, List.length_cons, List.length_nil]); omega) (by (try simp only [List.length_map, List.length_append, List.length_cons, List.length_nil]); omega) hs1) ?_
            refine rgc_q rfl (q_move (x := .d (.v (.bool true))) rfl) rfl ?_
            refine rgc_c rfl rfl ((c_storeR sz57 rfl rfl rfl (by simp) rfl)) ?_
            refine rgc_nil ?_
            refine aops_nil ?_
            refine ⟨rfl, ?_⟩
            change Awp _ _ _ _ _
            refine awp_region 3 mixed (by kernel_rfl) ?_
            refine rg_q (q_move (x := .d (.v _)) rfl) ?_
            refine rg_q (q_add rfl rfl (In64.mk (by omega) (by omega))) ?_
            refine rg_q (q_assign (x := .d (.v _)) rfl) ?_
            refine rg_nil ?_
            refine aops_nil ?_
            refine ⟨j + 1, ⟨by omega, hg2⟩, by omega, ?_⟩
            exact le_head (ms := [5, 41]) (by repeat (first | exact Out.head rfl rfl | (refine Out.put ?_ rfl) | (refine Out.site ?_ rfl) | (refine Out.killS ?_ rfl) | (refine Out.ovD ?_ rfl))) ⟨(by rfl), trivial⟩ ⟨(by rfl), (by rfl), trivial⟩ rfl rfl rfl rfl
        ·
          (try simp only [decide_eq_true_eq, decide_eq_false_iff_not, Bool.and_eq_true, Bool.or_eq_true, Bool.and_eq_false_iff, Bool.or_eq_false_iff, Bool.not_eq_true', Bool.not_eq_false', Bool.not_true, Bool.not_false, bif_and, bif_or, Bool.not_not, ne_eq, Decidable.not_not, not_true_eq_false, not_false_eq_true, Int.not_le, Int.not_lt] at hc7)
          have hjn : j = s.ar.el.length := by omega
          have hs2 : (mxB s (prF s.ar.el.length i ++ prR i j)).map fvC = (mxB s (prF s.ar.el.length (i + 1))).map fvC := by rw [hjn, prF_succ]
          have hf2 : (prF s.ar.el.length (i + 1)).any (bigP s) = false := by rw [prF_succ]; rw [hjn] at hg; exact hg
          refine awp_exit ?_
          change Awp _ _ _ _ _
          refine awp_region 3 mixed (by kernel_rfl) ?_
          refine rg_q (q_move (x := .d (.v _)) rfl) ?_
          refine rg_q (q_add rfl rfl (In64.mk (by omega) (by omega))) ?_
          refine rg_q (q_assign (x := .d (.v _)) rfl) ?_
          refine rg_nil ?_
          refine aops_nil ?_
          refine ⟨i + 1, ⟨by omega, hf2⟩, by omega, ?_⟩
          exact le_head (ms := [5, 41]) (by repeat (first | exact Out.head rfl rfl | (refine Out.put ?_ rfl) | (refine Out.headIn ?_ rfl rfl rfl))) ⟨(by rfl), trivial⟩ ⟨(by rfl), (by (show Site.row _ _ _ = Site.row _ _ _; rw [hs2])), trivial⟩ rfl rfl rfl rfl
    ·
      (try simp only [decide_eq_true_eq, decide_eq_false_iff_not, Bool.and_eq_true, Bool.or_eq_true, Bool.and_eq_false_iff, Bool.or_eq_false_iff, Bool.not_eq_true', Bool.not_eq_false', Bool.not_true, Bool.not_false, bif_and, bif_or, Bool.not_not, ne_eq, Decidable.not_not, not_true_eq_false, not_false_eq_true, Int.not_le, Int.not_lt] at hc4)
      have hin : i = s.ar.el.length := by omega
      subst hin
      have hz : mxR s = (((s.ar.el.length : Int), mxB s (prL s.ar.el.length)), 0) := by unfold mxR; rw [if_neg (fun q => q h0), if_neg (by unfold prL; rw [hf]; decide)]
      refine awp_exit ?_
      change Awp _ _ _ _ _
      refine awp_seq ?_
      refine Awp.le (le_freezeTB 5 41 1 rfl rfl rfl rfl hmine) ?_
      refine Awp.le (le_boxT 5 (mxC ((s.ar.el.length : Int), mxB s (prF s.ar.el.length s.ar.el.length))) rfl rfl (by intro j d h; match j, h with | 0, h => cases h; rfl | 1, h => cases h; rfl)) ?_
      refine awp_region 1 mixed (by kernel_rfl) ?_
      refine rg_q (q_load_refA (ds := [_, _]) sz59 rfl rfl rfl rfl) ?_
      refine rg_nil ?_
      refine aops_store sz59 rfl rfl (by exact .inr ⟨_, rfl⟩) rfl rfl (by decide) rfl ?_
      refine aops_q rfl (q_assign (x := .d (.v _)) rfl) ?_
      refine aops_nil ?_
      change Awp _ _ _ _ _
      refine awp_ret ?_
      refine ⟨_, (.cons (.cellA rfl rfl sz59 rfl) (.cons (.tmp (by exact .d _)) .nil)), ?_⟩
      rw [hz]; rfl

theorem fvC_map (l : List Int) : (l.map FloatKind.f32.nearest).map fC = l.map fvC := by rw [List.map_map]; rfl
set_option maxRecDepth 100000 in
theorem sameMatrix_p (m k : Int × List Int) : PC Tryz.prog 22 [.agg (mxC m), .agg (mxC k)] (.v (.bool (decide (m.1 = k.1) && decide (m.2.map FloatKind.f32.nearest = k.2.map FloatKind.f32.nearest)))) := by
  refine pc_of_awp Tryz.func22 rfl Tryz.ntmps22 (rs := [.tmp 4]) Tryz.results22 (by simp) fun w0 => ?_
  refine awp_seq ?_
  refine awp_region 3 mixed (by kernel_rfl) ?_
  refine rg_q (q_box rfl (by exact .inr ⟨_, rfl⟩)) ?_
  refine rg_q (q_box rfl (by exact .inr ⟨_, rfl⟩)) ?_
  refine rg_q (q_assign (x := .d (.v _)) rfl) ?_
  refine rg_nil ?_
  refine aops_nil ?_
  change Awp _ _ _ _ _
  refine awp_seq ?_
  refine awp_region 13 mixed (by kernel_rfl) ?_
  refine rg_q (q_fieldAddr fld59_0 rfl) ?_
  refine rg_q (q_load sz3 rfl rfl) ?_
  refine rg_q (q_fieldAddr fld59_0 rfl) ?_
  refine rg_q (q_load sz3 rfl rfl) ?_
  refine rg_q (q_eql rfl rfl) ?_
  refine rg_q (q_move (x := .d (.v _)) rfl) ?_
  refine rg_g rfl rfl (fun hG => (q_fieldAddr fld59_1 rfl)) ?_
  refine rg_g rfl rfl (fun hG => (q_load sz57 rfl rfl)) ?_
  refine rg_g rfl rfl (fun hG => (q_fieldAddr fld59_1 rfl)) ?_
  refine rg_g rfl rfl (fun hG => (q_load sz57 rfl rfl)) ?_
  refine rg_g rfl rfl (fun hG => (q_call en53 (.cons rfl (.cons rfl .nil)) rfl ((by have h := sameFloats_p (m.2.map FloatKind.f32.nearest) (k.2.map FloatKind.f32.nearest); rw [fvC_map, fvC_map] at h; exact h)))) ?_
  refine rg_pick rfl rfl rfl rfl rfl rfl ?_
  refine rg_q (q_assign (x := .d (.v _)) rfl) ?_
  refine rg_nil ?_
  refine aops_nil ?_
  change Awp _ _ _ _ _
  refine awp_ret ?_
  refine ⟨_, (.cons (.tmp (by exact .d _)) .nil), ?_⟩
  simp only [bif_and]; rfl
theorem same_self (m : Int × List Int) : (decide (m.1 = m.1) && decide (m.2.map FloatKind.f32.nearest = m.2.map FloatKind.f32.nearest)) = true := by simp
end Go.Proofs.YtblbnagdhcpnoaaGreat.Am.M
