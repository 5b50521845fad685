/- Contracts over the abstract machine: full matrices: the reference; BenchMatrices. Conditions: none. -/
import Derived.Test.YtblbnagdhcpnoaaGreatK25
import Derived.Test.YtblbnagdhcpnoaaGreatAmE
import Derived.Test.YtblbnagdhcpnoaaGreatY3
set_option linter.unusedVariables false
set_option linter.unusedSimpArgs false
-- mini
namespace Go.Proofs.YtblbnagdhcpnoaaGreat.Am.M
open Go

theorem matrix_p (s : Spc) : PC Tryz.prog 20 [.agg (spcC s)] (.tup [.agg (mxC (mxR s).1), .v (.int .i64 ((mxR s).2))]) := by
  by_cases h : (ckSpc s).2 = 0
  · exact matrixOk_p s h
  · exact matrixBad_p s h
set_option maxRecDepth 100000 in
theorem rmatrix_p (s : Spc) (h0 : (ckSpc s).2 = 0) : PC Tryz.prog 21 [.agg (spcC s)] (.tup [.agg (mxC (mxR s).1), .v (.int .i64 ((mxR s).2))]) := by
  have hsp := spc_ok h0
  have hok := hsp.ar
  have hn2 := hok.n2
  have hpl := prL_len hn2
  refine pc_of_awpN Tryz.func21 rfl Tryz.ntmps21 (rs := [.cell 2 59, .tmp 3]) Tryz.results21 (by simp) fun w0 hmine hrnd hpn => ?_
  refine awp_seq ?_
  refine awp_region 1 mixed (by kernel_rfl) ?_
  refine rg_q (q_box rfl (by exact .inr ⟨_, rfl⟩)) ?_
  refine rg_nil ?_
  refine aops_alloc zr59 rfl rfl rfl ?_
  refine aops_q rfl (q_assign (x := .d (.v _)) rfl) ?_
  refine aops_nil ?_
  change Awp _ _ _ _ _
  refine awp_seq ?_
  refine awp_region 5 mixed (by kernel_rfl) ?_
  refine rg_q (q_fieldAddr fld32_0 rfl) ?_
  refine rg_q (q_fieldAddr fld28_0 rfl) ?_
  refine rg_q (q_load sz22 rfl rfl) ?_
  refine rg_q (q_len isl22 rfl (by exact len_map _ _)) ?_
  refine rg_q (q_assign (x := .d (.v _)) rfl) ?_
  refine rg_nil ?_
  refine aops_nil ?_
  change Awp _ _ _ _ _
  refine awp_len (t := 12) rfl (fun hl12 => ?_)
  (try simp only [List.length_map] at hl12)
  refine awp_seq ?_
  refine awp_region 2 mixed (by kernel_rfl) ?_
  refine rg_q (q_move (x := .d (.v _)) rfl) ?_
  refine rg_q (q_build (cs := [_, _]) pl59 zr59 rfl (.cons rfl (by exact .inl rfl) .nil) ⟨⟨rfl, by decide⟩, trivial⟩ rfl) ?_
  refine rg_nil ?_
  refine aops_alloc zr59 rfl rfl rfl ?_
  refine aops_store sz59 rfl rfl (by exact .inr ⟨_, rfl⟩) rfl rfl (by decide) rfl ?_
  refine aops_nil ?_
  change Awp _ _ _ _ _
  refine awp_seq ?_
  refine awp_seq ?_
  refine Awp.le (le_ownB 5 41 1 36 1 rfl rfl rfl) ?_
  refine awp_region 1 mixed (by kernel_rfl) ?_
  refine rg_q (q_assign (x := .d (.v _)) rfl) ?_
  refine rg_nil ?_
  refine aops_nil ?_
  change Awp _ _ _ _ _
  refine awp_block ?_
  refine awp_loopH [3, 6, 7, 8, 9, 16, 17, 18, 19, 20, 21, 22, 23, 24, 25, 26, 27, 28, 29, 30, 31, 32, 33, 34, 35, 36, 37, 38, 39, 40, 41, 42] [5, 41] (α := Nat) (fun i => [(6, T.i (i : Int))]) (fun i => [(5, .tbox [.d (.v (.int .i64 ((s.ar.el.length : Int)))), .rs 41]), (41, .row 36 1 ((mxB s (prF s.ar.el.length i)).map fvC))]) (fun i => i ≤ s.ar.el.length ∧ (prF s.ar.el.length i).any (bigP s) = false) (fun i => s.ar.el.length - i) 0 ⟨Nat.zero_le _, rfl⟩ ?_ ?_
  · exact le_head (ms := [5, 41]) (by repeat (exact Out.refl _)) ⟨(by rfl), trivial⟩ ⟨(by rfl), (by rfl), trivial⟩ rfl rfl rfl rfl
  ·
    intro i ⟨hi, hf⟩
    refine awp_seq ?_
    refine awp_seq ?_
    refine awp_region 3 mixed (by kernel_rfl) ?_
    refine rg_q (q_move (x := .d (.v _)) rfl) ?_
    refine rg_q (q_move (x := .d (.v _)) rfl) ?_
    refine rg_q (q_lss rfl rfl) ?_
    refine rg_nil ?_
    refine aops_nil ?_
    change Awp _ _ _ _ _
    refine awp_cond rfl (fun hc4 => ?_) (fun hc4 => ?_)
    ·
      (try simp only [decide_eq_true_eq, decide_eq_false_iff_not, Bool.and_eq_true, Bool.or_eq_true, Bool.and_eq_false_iff, Bool.or_eq_false_iff, Bool.not_eq_true', Bool.not_eq_false', Bool.not_true, Bool.not_false, bif_and, bif_or, Bool.not_not, ne_eq, Decidable.not_not, not_true_eq_false, not_false_eq_true, Int.not_le, Int.not_lt] at hc4)
      have hlt : i < s.ar.el.length := by omega
      refine awp_skip ?_
      change Awp _ _ _ _ _
      refine awp_seq ?_
      refine awp_block ?_
      refine awp_seq ?_
      refine awp_region 1 mixed (by kernel_rfl) ?_
      refine rg_q (q_assign (x := .d (.v _)) rfl) ?_
      refine rg_nil ?_
      refine aops_nil ?_
      change Awp _ _ _ _ _
      refine awp_block ?_
      refine awp_loopH [3, 7, 8, 9, 21, 22, 23, 24, 25, 26, 27, 28, 29, 30, 31, 32, 33, 34, 35, 36, 37, 38, 39, 40, 41, 42] [5, 41] (α := Nat) (fun j => [(7, T.i (j : Int))]) (fun j => [(5, .tbox [.d (.v (.int .i64 ((s.ar.el.length : Int)))), .rs 41]), (41, .row 36 1 ((mxB s (prF s.ar.el.length i ++ prR i j)).map fvC))]) (fun j => j ≤ s.ar.el.length ∧ (prF s.ar.el.length i ++ prR i j).any (bigP s) = false) (fun j => s.ar.el.length - j) 0 ⟨Nat.zero_le _, by simp only [prR, List.range_zero, List.map_nil, List.append_nil]; exact hf⟩ ?_ ?_
      · exact le_head (ms := [5, 41]) (by repeat (exact Out.refl _)) ⟨(by rfl), trivial⟩ ⟨(by rfl), (by ((show Site.row _ _ _ = Site.row _ _ _; simp [prR]; done))), trivial⟩ rfl rfl rfl rfl
      ·
        intro j ⟨hj, hg⟩
        refine awp_seq ?_
        refine awp_seq ?_
        refine awp_region 3 mixed (by kernel_rfl) ?_
        refine rg_q (q_move (x := .d (.v _)) rfl) ?_
        refine rg_q (q_move (x := .d (.v _)) rfl) ?_
        refine rg_q (q_lss rfl rfl) ?_
        refine rg_nil ?_
        refine aops_nil ?_
        change Awp _ _ _ _ _
        refine awp_cond rfl (fun hc7 => ?_) (fun hc7 => ?_)
        ·
          (try simp only [decide_eq_true_eq, decide_eq_false_iff_not, Bool.and_eq_true, Bool.or_eq_true, Bool.and_eq_false_iff, Bool.or_eq_false_iff, Bool.not_eq_true', Bool.not_eq_false', Bool.not_true, Bool.not_false, bif_and, bif_or, Bool.not_not, ne_eq, Decidable.not_not, not_true_eq_false, not_false_eq_true, Int.not_le, Int.not_lt] at hc7)
          have hlj : j < s.ar.el.length := by omega
          have hpk : (0 ≤ ((i : Int), (j : Int)).1 ∧ ((i : Int), (j : Int)).1 < s.ar.el.length) ∧ 0 ≤ ((i : Int), (j : Int)).2 ∧ ((i : Int), (j : Int)).2 < s.ar.el.length := ⟨⟨by simp only; omega, by simp only; omega⟩, by simp only; omega, by simp only; omega⟩
          have hml := mxB_len s (prF s.ar.el.length i ++ prR i j)
          have hm64 := mtS_len s ((i : Int), (j : Int))
          have hle : (prF s.ar.el.length i ++ prR i j).length ≤ 256 := by
            have h2 := (pr_pre hlt (Nat.le_of_lt hlj)).length_le
            omega
          have hpre : (prF s.ar.el.length i ++ prR i j) ++ [((i : Int), (j : Int))] <+: prL s.ar.el.length := by rw [List.append_assoc, ← prR_succ]; exact pr_pre hlt (by omega)
          have hmem : ((i : Int), (j : Int)) ∈ prL s.ar.el.length := hpre.subset (by simp)
          have hsp2 : prF s.ar.el.length i ++ prR i (j + 1) = (prF s.ar.el.length i ++ prR i j) ++ [((i : Int), (j : Int))] := by rw [prR_succ, List.append_assoc]
          have hs1 : (mxB s (prF s.ar.el.length i ++ prR i j)).map fvC ++ (mtS s ((i : Int), (j : Int))).map fvC = (mxB s (prF s.ar.el.length i ++ prR i (j + 1))).map fvC := by rw [hsp2, mxB_snoc, List.map_append]
          refine awp_skip ?_
          change Awp _ _ _ _ _
          refine awp_seq ?_
          refine awp_block ?_
          refine awp_seq ?_
          refine awp_region 8 mixed (by kernel_rfl) ?_
          refine rg_q (q_loadA sz32 rfl rfl rfl) ?_
          refine rg_q (q_move (x := .d (.v _)) rfl) ?_
          refine rg_q (q_move (x := .d (.v _)) rfl) ?_
          refine rg_q (q_buildA (cs := [_, _]) ar33 zr33 rfl (.cons rfl (by exact .inl rfl) (.cons rfl (by exact .inl rfl) .nil)) ⟨⟨rfl, by decide⟩, ⟨rfl, by decide⟩, trivial⟩ rfl) ?_
          refine rg_q (q_call en15 (.cons rfl (.cons rfl .nil)) rfl (rtraceOf_p s ((i : Int), (j : Int)) h0 hpk)) ?_
          refine rg_q (q_move (x := .d (.tup _)) rfl) ?_
          refine rg_q (q_extract rfl rfl) ?_
          refine rg_q (q_extract rfl rfl) ?_
          refine rg_nil ?_
          refine aops_allocD zr38 rfl sz38 rfl rfl (by exact .inr ⟨_, rfl⟩) (trR_len s _) rfl ?_
          refine aops_q rfl (q_assign (x := .d (.v _)) rfl) ?_
          refine aops_nil ?_
          change Awp _ _ _ _ _
          refine awp_seq ?_
          refine awp_seq ?_
          refine awp_region 2 mixed (by kernel_rfl) ?_
          refine rg_q (q_move (x := .d (.v _)) rfl) ?_
          refine rg_q (q_neq rfl rfl) ?_
          refine rg_nil ?_
          refine aops_nil ?_
          change Awp _ _ _ _ _
          refine awp_cond rfl (fun hc10 => ?_) (fun hc10 => ?_)
          ·
            (try simp only [decide_eq_true_eq, decide_eq_false_iff_not, Bool.and_eq_true, Bool.or_eq_true, Bool.and_eq_false_iff, Bool.or_eq_false_iff, Bool.not_eq_true', Bool.not_eq_false', Bool.not_true, Bool.not_false, bif_and, bif_or, Bool.not_not, ne_eq, Decidable.not_not, not_true_eq_false, not_false_eq_true, Int.not_le, Int.not_lt] at hc10)
            have hb : bigP s ((i : Int), (j : Int)) = true := by
              cases q : bigP s ((i : Int), (j : Int)) with
              | true => rfl
              | false => rw [trc_ok q] at hc10; exact absurd rfl hc10
            rw [trc_big hb]
            have hz : mxR s = ((0, []), 8) := by unfold mxR; rw [if_neg (fun q => q h0), if_pos (List.any_eq_true.2 ⟨_, hmem, hb⟩)]
            refine awp_seq ?_
            refine awp_region 2 mixed (by kernel_rfl) ?_
            refine rg_q (q_build (cs := [_, _]) pl59 zr59 rfl .nil trivial rfl) ?_
            refine rg_q (q_move (x := .d (.v _)) rfl) ?_
            refine rg_nil ?_
            refine aops_store sz59 rfl rfl (by exact .inr ⟨_, rfl⟩) rfl rfl (by decide) rfl ?_
            refine aops_q rfl (q_assign (x := .d (.v _)) rfl) ?_
            refine aops_nil ?_
            change Awp _ _ _ _ _
            refine Awp.le (le_upB 2 (mxC (0, [])) rfl (.cons (.same _) (.cons (.nil 1) .nil))) ?_
            refine awp_ret ?_
            refine ⟨_, (.cons (.cellA rfl rfl sz59 rfl) (.cons (.tmp (by exact .d _)) .nil)), ?_⟩
            rw [hz]; rfl
          ·
            (try simp only [decide_eq_true_eq, decide_eq_false_iff_not, Bool.and_eq_true, Bool.or_eq_true, Bool.and_eq_false_iff, Bool.or_eq_false_iff, Bool.not_eq_true', Bool.not_eq_false', Bool.not_true, Bool.not_false, bif_and, bif_or, Bool.not_not, ne_eq, Decidable.not_not, not_true_eq_false, not_false_eq_true, Int.not_le, Int.not_lt] at hc10)
            have hb : bigP s ((i : Int), (j : Int)) = false := by
              cases q : bigP s ((i : Int), (j : Int)) with
              | false => rfl
              | true => rw [trc_big q] at hc10; cases hc10
            rw [trc_ok hb]
            have hg2 : (prF s.ar.el.length i ++ prR i (j + 1)).any (bigP s) = false := by rw [hsp2]; exact any_snoc hg hb
            refine awp_skip ?_
            change Awp _ _ _ _ _
            refine awp_early (i := 4) mixed rfl (by kernel_rfl) fld59_1 rfl ?_
            refine any_regionC 6 [0, 1, 3, 5] [41, 5] (by kernel_rfl) ?_
            refine rgc_c rfl rfl (c_q (q_fieldAddr_ref fld59_1 rfl)) ?_
            refine rgc_c rfl rfl (c_q (q_load_tb (x := .rs _) sz57 rfl rfl rfl)) ?_
            refine rgc_q rfl (q_sliceP (es := (mtS s ((i : Int), (j : Int))).map fvC) ar38 rfl (by show ((mtS s ((i : Int), (j : Int))).map fv).length = 64; rw [List.length_map, mtS_len]) (by decide) (by decide) (by show (((mtS s ((i : Int), (j : Int))).map fv).map fun d => [d]) = _; exact mt_row s _)) rfl ?_
            refine rgc_c rfl rfl (c_append (es' := (mxB s (prF s.ar.el.length i ++ prR i (j + 1))).map fvC) sl57 zr36 by36 rfl (by decide) rfl rfl rfl rfl (by (try simp only [List.length_map, List.length_append, List.length_cons, List.length_nil]); omega) (by (try simp only [List.length_map, List.length_append, List.length_cons, List.length_nil]); omega) hs1) ?_
            refine rgc_q rfl (q_move (x := .d (.v (.bool true))) rfl) rfl ?_
            refine rgc_c rfl rfl ((c_storeR sz57 rfl rfl rfl (by simp) rfl)) ?_
            refine rgc_nil ?_
            refine aops_nil ?_
            refine ⟨rfl, ?_⟩
            change Awp _ _ _ _ _
            refine awp_region 3 mixed (by kernel_rfl) ?_
            refine rg_q (q_move (x := .d (.v _)) rfl) ?_
            refine rg_q (q_add rfl rfl (In64.mk (by omega) (by omega))) ?_
            refine rg_q (q_assign (x := .d (.v _)) rfl) ?_
            refine rg_nil ?_
            refine aops_nil ?_
            refine ⟨j + 1, ⟨by omega, hg2⟩, by omega, ?_⟩
            exact le_head (ms := [5, 41]) (by repeat (first | exact Out.head rfl rfl | (refine Out.put ?_ rfl) | (refine Out.site ?_ rfl) | (refine Out.killS ?_ rfl) | (refine Out.ovD ?_ rfl))) ⟨(by rfl), trivial⟩ ⟨(by rfl), (by rfl), trivial⟩ rfl rfl rfl rfl
        ·
          (try simp only [decide_eq_true_eq, decide_eq_false_iff_not, Bool.and_eq_true, Bool.or_eq_true, Bool.and_eq_false_iff, Bool.or_eq_false_iff, Bool.not_eq_true', Bool.not_eq_false', Bool.not_true, Bool.not_false, bif_and, bif_or, Bool.not_not, ne_eq, Decidable.not_not, not_true_eq_false, not_false_eq_true, Int.not_le, Int.not_lt] at hc7)
          have hjn : j = s.ar.el.length := by omega
          have hs2 : (mxB s (prF s.ar.el.length i ++ prR i j)).map fvC = (mxB s (prF s.ar.el.length (i + 1))).map fvC := by rw [hjn, prF_succ]
          have hf2 : (prF s.ar.el.length (i + 1)).any (bigP s) = false := by rw [prF_succ]; rw [hjn] at hg; exact hg
          refine awp_exit ?_
          change Awp _ _ _ _ _
          refine awp_region 3 mixed (by kernel_rfl) ?_
          refine rg_q (q_move (x := .d (.v _)) rfl) ?_
          refine rg_q (q_add rfl rfl (In64.mk (by omega) (by omega))) ?_
          refine rg_q (q_assign (x := .d (.v _)) rfl) ?_
          refine rg_nil ?_
          refine aops_nil ?_
          refine ⟨i + 1, ⟨by omega, hf2⟩, by omega, ?_⟩
          exact le_head (ms := [5, 41]) (by repeat (first | exact Out.head rfl rfl | (refine Out.put ?_ rfl) | (refine Out.headIn ?_ rfl rfl rfl))) ⟨(by rfl), trivial⟩ ⟨(by rfl), (by (show Site.row _ _ _ = Site.row _ _ _; rw [hs2])), trivial⟩ rfl rfl rfl rfl
    ·
      (try simp only [decide_eq_true_eq, decide_eq_false_iff_not, Bool.and_eq_true, Bool.or_eq_true, Bool.and_eq_false_iff, Bool.or_eq_false_iff, Bool.not_eq_true', Bool.not_eq_false', Bool.not_true, Bool.not_false, bif_and, bif_or, Bool.not_not, ne_eq, Decidable.not_not, not_true_eq_false, not_false_eq_true, Int.not_le, Int.not_lt] at hc4)
      have hin : i = s.ar.el.length := by omega
      subst hin
      have hz : mxR s = (((s.ar.el.length : Int), mxB s (prL s.ar.el.length)), 0) := by unfold mxR; rw [if_neg (fun q => q h0), if_neg (by unfold prL; rw [hf]; decide)]
      refine awp_exit ?_
      change Awp _ _ _ _ _
      refine awp_seq ?_
      refine Awp.le (le_freezeTB 5 41 1 rfl rfl rfl rfl hmine) ?_
      refine Awp.le (le_boxT 5 (mxC ((s.ar.el.length : Int), mxB s (prF s.ar.el.length s.ar.el.length))) rfl rfl (by intro j d h; match j, h with | 0, h => cases h; rfl | 1, h => cases h; rfl)) ?_
      refine awp_region 1 mixed (by kernel_rfl) ?_
      refine rg_q (q_load_refA (ds := [_, _]) sz59 rfl rfl rfl rfl) ?_
      refine rg_nil ?_
      refine aops_store sz59 rfl rfl (by exact .inr ⟨_, rfl⟩) rfl rfl (by decide) rfl ?_
      refine aops_q rfl (q_assign (x := .d (.v _)) rfl) ?_
      refine aops_nil ?_
      change Awp _ _ _ _ _
      refine awp_ret ?_
      refine ⟨_, (.cons (.cellA rfl rfl sz59 rfl) (.cons (.tmp (by exact .d _)) .nil)), ?_⟩
      rw [hz]; rfl

theorem fvC_map (l : List Int) : (l.map FloatKind.f32.nearest).map fC = l.map fvC := by rw [List.map_map]; rfl
set_option maxRecDepth 100000 in
theorem sameMatrix_p (m k : Int × List Int) : PC Tryz.prog 22 [.agg (mxC m), .agg (mxC k)] (.v (.bool (decide (m.1 = k.1) && decide (m.2.map FloatKind.f32.nearest = k.2.map FloatKind.f32.nearest)))) := by
  refine pc_of_awp Tryz.func22 rfl Tryz.ntmps22 (rs := [.tmp 4]) Tryz.results22 (by simp) fun w0 => ?_
  refine awp_seq ?_
  refine awp_region 3 mixed (by kernel_rfl) ?_
  refine rg_q (q_box rfl (by exact .inr ⟨_, rfl⟩)) ?_
  refine rg_q (q_box rfl (by exact .inr ⟨_, rfl⟩)) ?_
  refine rg_q (q_assign (x := .d (.v _)) rfl) ?_
  refine rg_nil ?_
  refine aops_nil ?_
  change Awp _ _ _ _ _
  refine awp_seq ?_
  refine awp_region 13 mixed (by kernel_rfl) ?_
  refine rg_q (q_fieldAddr fld59_0 rfl) ?_
  refine rg_q (q_load sz3 rfl rfl) ?_
  refine rg_q (q_fieldAddr fld59_0 rfl) ?_
  refine rg_q (q_load sz3 rfl rfl) ?_
  refine rg_q (q_eql rfl rfl) ?_
  refine rg_q (q_move (x := .d (.v _)) rfl) ?_
  refine rg_g rfl rfl (fun hG => (q_fieldAddr fld59_1 rfl)) ?_
  refine rg_g rfl rfl (fun hG => (q_load sz57 rfl rfl)) ?_
  refine rg_g rfl rfl (fun hG => (q_fieldAddr fld59_1 rfl)) ?_
  refine rg_g rfl rfl (fun hG => (q_load sz57 rfl rfl)) ?_
  refine rg_g rfl rfl (fun hG => (q_call en53 (.cons rfl (.cons rfl .nil)) rfl ((by have h := sameFloats_p (m.2.map FloatKind.f32.nearest) (k.2.map FloatKind.f32.nearest); rw [fvC_map, fvC_map] at h; exact h)))) ?_
  refine rg_pick rfl rfl rfl rfl rfl rfl ?_
  refine rg_q (q_assign (x := .d (.v _)) rfl) ?_
  refine rg_nil ?_
  refine aops_nil ?_
  change Awp _ _ _ _ _
  refine awp_ret ?_
  refine ⟨_, (.cons (.tmp (by exact .d _)) .nil), ?_⟩
  simp only [bif_and]; rfl
set_option maxRecDepth 100000 in
theorem plainD_p (n : Int) (B : List Int) (hb : ∀ v ∈ B, -2047 ≤ v ∧ v ≤ 2047) (hB : B.length ≤ 100000) : PC Tryz.prog 61 [.agg (mxC (n, B))] (.agg (mxC (n, B))) := by
  refine pc_of_awpN Tryz.func61 rfl Tryz.ntmps61 (rs := [.cell 2 59]) Tryz.results61 (by simp) fun w0 hmine hrnd hpn => ?_
  refine awp_seq ?_
  refine awp_region 1 mixed (by kernel_rfl) ?_
  refine rg_q (q_box rfl (by exact .inr ⟨_, rfl⟩)) ?_
  refine rg_nil ?_
  refine aops_alloc zr59 rfl rfl rfl ?_
  refine aops_nil ?_
  change Awp _ _ _ _ _
  refine awp_seq ?_
  refine awp_region 3 mixed (by kernel_rfl) ?_
  refine rg_q (q_fieldAddr fld59_0 rfl) ?_
  refine rg_q (q_load sz3 rfl rfl) ?_
  refine rg_q (q_build (cs := [_, _]) pl59 zr59 rfl (.cons rfl (by exact .inl rfl) .nil) ⟨⟨rfl, by decide⟩, trivial⟩ rfl) ?_
  refine rg_nil ?_
  refine aops_alloc zr59 rfl rfl rfl ?_
  refine aops_store sz59 rfl rfl (by exact .inr ⟨_, rfl⟩) rfl rfl (by decide) rfl ?_
  refine aops_nil ?_
  change Awp _ _ _ _ _
  refine awp_seq ?_
  refine awp_seq ?_
  refine Awp.le (le_ownB 3 25 1 36 1 rfl rfl rfl) ?_
  refine awp_region 1 mixed (by kernel_rfl) ?_
  refine rg_q (q_assign (x := .d (.v _)) rfl) ?_
  refine rg_nil ?_
  refine aops_nil ?_
  change Awp _ _ _ _ _
  refine awp_block ?_
  refine awp_loopH [4, 8, 9, 10, 11, 12, 13, 14, 15, 16, 17, 18, 19, 20, 21, 22, 23, 24, 25, 26] [3, 25] (α := Nat) (fun k => [(4, T.i (k : Int))]) (fun k => [(3, .tbox [.d (.v (.int .i64 (n))), .rs 25]), (25, .row 36 1 ((B.take k).map fvC))]) (fun k => k ≤ B.length) (fun k => B.length - k) 0 (Nat.zero_le _) ?_ ?_
  · exact le_head (ms := [3, 25]) (by repeat (exact Out.refl _)) ⟨(by rfl), trivial⟩ ⟨(by rfl), (by rfl), trivial⟩ rfl rfl rfl rfl
  ·
    intro k hk
    refine awp_seq ?_
    refine awp_seq ?_
    refine awp_region 5 mixed (by kernel_rfl) ?_
    refine rg_q (q_move (x := .d (.v _)) rfl) ?_
    refine rg_q (q_fieldAddr fld59_1 rfl) ?_
    refine rg_q (q_load sz57 rfl rfl) ?_
    refine rg_q (q_len isl57 rfl (by exact len_map _ _)) ?_
    refine rg_q (q_lss rfl rfl) ?_
    refine rg_nil ?_
    refine aops_nil ?_
    change Awp _ _ _ _ _
    refine awp_len (t := 10) rfl (fun hl10 => ?_)
    (try simp only [List.length_map] at hl10)
    refine awp_cond rfl (fun hc3 => ?_) (fun hc3 => ?_)
    ·
      (try simp only [decide_eq_true_eq, decide_eq_false_iff_not, Bool.and_eq_true, Bool.or_eq_true, Bool.and_eq_false_iff, Bool.or_eq_false_iff, Bool.not_eq_true', Bool.not_eq_false', Bool.not_true, Bool.not_false, bif_and, bif_or, Bool.not_not, ne_eq, Decidable.not_not, not_true_eq_false, not_false_eq_true, Int.not_le, Int.not_lt] at hc3)
      have hlt : k < B.length := by omega
      obtain ⟨x, hx⟩ : ∃ x, B[k]? = some x := ⟨_, List.getElem?_eq_getElem hlt⟩
      obtain ⟨hx1, hx2⟩ := hb x (List.mem_of_getElem? hx)
      have htl : (B.take k).length ≤ 100000 := by rw [List.length_take]; omega
      have hs1 : (B.take k).map fvC ++ [fvC x] = (B.take (k + 1)).map fvC := by rw [List.take_succ_eq_append_getElem hlt, (List.getElem?_eq_some_iff.1 hx).2, List.map_append]; rfl
      refine awp_skip ?_
      change Awp _ _ _ _ _
      refine awp_seq ?_
      refine awp_block ?_
      refine awp_early (i := 11) mixed rfl (by kernel_rfl) fld59_1 rfl ?_
      refine any_regionC 13 [0, 1, 10, 12] [25, 3] (by kernel_rfl) ?_
      refine rgc_c rfl rfl (c_q (q_fieldAddr_ref fld59_1 rfl)) ?_
      refine rgc_c rfl rfl (c_q (q_load_tb (x := .rs _) sz57 rfl rfl rfl)) ?_
      refine rgc_q rfl (q_fieldAddr fld59_1 rfl) rfl ?_
      refine rgc_q rfl (q_load sz57 rfl rfl) rfl ?_
      refine rgc_q rfl (q_move (x := .d (.v _)) rfl) rfl ?_
      refine rgc_q rfl (q_indexAddr sl57 rfl rfl (by omega) (map_at (by omega) hx)) rfl ?_
      refine rgc_q rfl (q_load sz36 rfl rfl) rfl ?_
      refine rgc_q rfl (q_convfi flt36 int3 rfl (f32_int (f32_of (by omega) (by omega)))) rfl ?_
      refine rgc_q rfl (q_convf int3 flt36 rfl) rfl ?_
      refine rgc_q rfl (q_buildSlice sl57 zr36 rfl rfl (by decide) (.cons rfl (by exact .inl rfl) .nil) ⟨rfl, rfl, trivial⟩ rfl (by decide) rfl) rfl ?_
      refine rgc_c rfl rfl (c_append (es' := (B.take (k + 1)).map fvC) sl57 zr36 by36 rfl (by decide) rfl rfl rfl rfl (by (try simp only [List.length_map, List.length_append, List.length_cons, List.length_nil]); omega) (by (try simp only [List.length_map, List.length_append, List.length_cons, List.length_nil]); omega) hs1) ?_
      refine rgc_q rfl (q_move (x := .d (.v (.bool true))) rfl) rfl ?_
      refine rgc_c rfl rfl ((c_storeR sz57 rfl rfl rfl (by simp) rfl)) ?_
      refine rgc_nil ?_
      refine aops_nil ?_
      refine ⟨rfl, ?_⟩
      change Awp _ _ _ _ _
      refine awp_region 3 mixed (by kernel_rfl) ?_
      refine rg_q (q_move (x := .d (.v _)) rfl) ?_
      refine rg_q (q_add rfl rfl (In64.mk (by omega) (by omega))) ?_
      refine rg_q (q_assign (x := .d (.v _)) rfl) ?_
      refine rg_nil ?_
      refine aops_nil ?_
      refine ⟨k + 1, by omega, by omega, ?_⟩
      exact le_head (ms := [3, 25]) (by repeat (first | exact Out.head rfl rfl | (refine Out.put ?_ rfl) | (refine Out.site ?_ rfl) | (refine Out.killS ?_ rfl) | (refine Out.ovD ?_ rfl))) ⟨(by rfl), trivial⟩ ⟨(by rfl), (by rfl), trivial⟩ rfl rfl rfl rfl
    ·
      (try simp only [decide_eq_true_eq, decide_eq_false_iff_not, Bool.and_eq_true, Bool.or_eq_true, Bool.and_eq_false_iff, Bool.or_eq_false_iff, Bool.not_eq_true', Bool.not_eq_false', Bool.not_true, Bool.not_false, bif_and, bif_or, Bool.not_not, ne_eq, Decidable.not_not, not_true_eq_false, not_false_eq_true, Int.not_le, Int.not_lt] at hc3)
      have hkn : k = B.length := by omega
      subst hkn
      rw [List.take_length]
      refine awp_exit ?_
      change Awp _ _ _ _ _
      refine awp_seq ?_
      refine Awp.le (le_freezeTB 3 25 1 rfl rfl rfl rfl hmine) ?_
      refine Awp.le (le_boxT 3 (mxC (n, B)) rfl rfl (by intro j d h; match j, h with | 0, h => cases h; rfl | 1, h => cases h; rfl)) ?_
      refine awp_region 1 mixed (by kernel_rfl) ?_
      refine rg_q (q_load_refA (ds := [_, _]) sz59 rfl rfl rfl rfl) ?_
      refine rg_nil ?_
      refine aops_store sz59 rfl rfl (by exact .inr ⟨_, rfl⟩) rfl rfl (by decide) rfl ?_
      refine aops_nil ?_
      change Awp _ _ _ _ _
      refine awp_ret ?_
      refine ⟨_, (.cons (.cellA rfl rfl sz59 rfl) .nil), ?_⟩
      rfl
set_option maxRecDepth 100000 in
theorem plainS_p (n : Int) (B : List Int) (hb : ∀ v ∈ B, -2047 ≤ v ∧ v ≤ 2047) (hB : B.length ≤ 100000) : PCS Tryz.prog 61 [.d (.agg (mxC (n, B)))] [] (.ag 0 [.int .i64 n] []) [.row 36 1 (B.map fvC)] := by
  refine pcs_of_awpA Tryz.func61 rfl Tryz.ntmps61 Tryz.results61 (by simp) fun w0 hrnd => ?_
  refine awp_seq ?_
  refine awp_region 1 mixed (by kernel_rfl) ?_
  refine rg_q (q_box rfl (by exact .inr ⟨_, rfl⟩)) ?_
  refine rg_nil ?_
  refine aops_alloc zr59 rfl rfl rfl ?_
  refine aops_nil ?_
  change Awp _ _ _ _ _
  refine awp_seq ?_
  refine awp_region 3 mixed (by kernel_rfl) ?_
  refine rg_q (q_fieldAddr fld59_0 rfl) ?_
  refine rg_q (q_load sz3 rfl rfl) ?_
  refine rg_q (q_build (cs := [_, _]) pl59 zr59 rfl (.cons rfl (by exact .inl rfl) .nil) ⟨⟨rfl, by decide⟩, trivial⟩ rfl) ?_
  refine rg_nil ?_
  refine aops_alloc zr59 rfl rfl rfl ?_
  refine aops_store sz59 rfl rfl (by exact .inr ⟨_, rfl⟩) rfl rfl (by decide) rfl ?_
  refine aops_nil ?_
  change Awp _ _ _ _ _
  refine awp_seq ?_
  refine awp_seq ?_
  refine Awp.le (le_ownB 3 25 1 36 1 rfl rfl rfl) ?_
  refine Awp.le (le_tbox (k := 2) (ts := [_, _]) rfl rfl) ?_
  refine awp_region 1 mixed (by kernel_rfl) ?_
  refine rg_q (q_assign (x := .d (.v _)) rfl) ?_
  refine rg_nil ?_
  refine aops_nil ?_
  change Awp _ _ _ _ _
  refine awp_block ?_
  refine awp_loopH [4, 8, 9, 10, 11, 12, 13, 14, 15, 16, 17, 18, 19, 20, 21, 22, 23, 24, 25, 26] [3, 25] (α := Nat) (fun k => [(4, T.i (k : Int))]) (fun k => [(3, .tbox [.d (.v (.int .i64 (n))), .rs 25]), (25, .row 36 1 ((B.take k).map fvC))]) (fun k => k ≤ B.length) (fun k => B.length - k) 0 (Nat.zero_le _) ?_ ?_
  · exact le_head (ms := [3, 25]) (by repeat (exact Out.refl _)) ⟨(by rfl), trivial⟩ ⟨(by rfl), (by rfl), trivial⟩ rfl rfl rfl rfl
  ·
    intro k hk
    refine awp_seq ?_
    refine awp_seq ?_
    refine awp_region 5 mixed (by kernel_rfl) ?_
    refine rg_q (q_move (x := .d (.v _)) rfl) ?_
    refine rg_q (q_fieldAddr fld59_1 rfl) ?_
    refine rg_q (q_load sz57 rfl rfl) ?_
    refine rg_q (q_len isl57 rfl (by exact len_map _ _)) ?_
    refine rg_q (q_lss rfl rfl) ?_
    refine rg_nil ?_
    refine aops_nil ?_
    change Awp _ _ _ _ _
    refine awp_len (t := 10) rfl (fun hl10 => ?_)
    (try simp only [List.length_map] at hl10)
    refine awp_cond rfl (fun hc3 => ?_) (fun hc3 => ?_)
    ·
      (try simp only [decide_eq_true_eq, decide_eq_false_iff_not, Bool.and_eq_true, Bool.or_eq_true, Bool.and_eq_false_iff, Bool.or_eq_false_iff, Bool.not_eq_true', Bool.not_eq_false', Bool.not_true, Bool.not_false, bif_and, bif_or, Bool.not_not, ne_eq, Decidable.not_not, not_true_eq_false, not_false_eq_true, Int.not_le, Int.not_lt] at hc3)
      have hlt : k < B.length := by omega
      obtain ⟨x, hx⟩ : ∃ x, B[k]? = some x := ⟨_, List.getElem?_eq_getElem hlt⟩
      obtain ⟨hx1, hx2⟩ := hb x (List.mem_of_getElem? hx)
      have htl : (B.take k).length ≤ 100000 := by rw [List.length_take]; omega
      have hs1 : (B.take k).map fvC ++ [fvC x] = (B.take (k + 1)).map fvC := by rw [List.take_succ_eq_append_getElem hlt, (List.getElem?_eq_some_iff.1 hx).2, List.map_append]; rfl
      refine awp_skip ?_
      change Awp _ _ _ _ _
      refine awp_seq ?_
      refine awp_block ?_
      refine awp_early (i := 11) mixed rfl (by kernel_rfl) fld59_1 rfl ?_
      refine any_regionC 13 [0, 1, 10, 12] [25, 3] (by kernel_rfl) ?_
      refine rgc_c rfl rfl (c_q (q_fieldAddr_ref fld59_1 rfl)) ?_
      refine rgc_c rfl rfl (c_q (q_load_tb (x := .rs _) sz57 rfl rfl rfl)) ?_
      refine rgc_q rfl (q_fieldAddr fld59_1 rfl) rfl ?_
      refine rgc_q rfl (q_load sz57 rfl rfl) rfl ?_
      refine rgc_q rfl (q_move (x := .d (.v _)) rfl) rfl ?_
      refine rgc_q rfl (q_indexAddr sl57 rfl rfl (by omega) (map_at (by omega) hx)) rfl ?_
      refine rgc_q rfl (q_load sz36 rfl rfl) rfl ?_
      refine rgc_q rfl (q_convfi flt36 int3 rfl (f32_int (f32_of (by omega) (by omega)))) rfl ?_
      refine rgc_q rfl (q_convf int3 flt36 rfl) rfl ?_
      refine rgc_q rfl (q_buildSlice sl57 zr36 rfl rfl (by decide) (.cons rfl (by exact .inl rfl) .nil) ⟨rfl, rfl, trivial⟩ rfl (by decide) rfl) rfl ?_
      refine rgc_c rfl rfl (c_append (es' := (B.take (k + 1)).map fvC) sl57 zr36 by36 rfl (by decide) rfl rfl rfl rfl (by (try simp only [List.length_map, List.length_append, List.length_cons, List.length_nil]); omega) (by (try simp only [List.length_map, List.length_append, List.length_cons, List.length_nil]); omega) hs1) ?_
      refine rgc_q rfl (q_move (x := .d (.v (.bool true))) rfl) rfl ?_
      refine rgc_c rfl rfl ((c_storeR sz57 rfl rfl rfl (by simp) rfl)) ?_
      refine rgc_nil ?_
      refine aops_nil ?_
      refine ⟨rfl, ?_⟩
      change Awp _ _ _ _ _
      refine awp_region 3 mixed (by kernel_rfl) ?_
      refine rg_q (q_move (x := .d (.v _)) rfl) ?_
      refine rg_q (q_add rfl rfl (In64.mk (by omega) (by omega))) ?_
      refine rg_q (q_assign (x := .d (.v _)) rfl) ?_
      refine rg_nil ?_
      refine aops_nil ?_
      refine ⟨k + 1, by omega, by omega, ?_⟩
      exact le_head (ms := [3, 25]) (by repeat (first | exact Out.head rfl rfl | (refine Out.put ?_ rfl) | (refine Out.site ?_ rfl) | (refine Out.killS ?_ rfl) | (refine Out.ovD ?_ rfl))) ⟨(by rfl), trivial⟩ ⟨(by rfl), (by rfl), trivial⟩ rfl rfl rfl rfl
    ·
      (try simp only [decide_eq_true_eq, decide_eq_false_iff_not, Bool.and_eq_true, Bool.or_eq_true, Bool.and_eq_false_iff, Bool.or_eq_false_iff, Bool.not_eq_true', Bool.not_eq_false', Bool.not_true, Bool.not_false, bif_and, bif_or, Bool.not_not, ne_eq, Decidable.not_not, not_true_eq_false, not_false_eq_true, Int.not_le, Int.not_lt] at hc3)
      have hkn : k = B.length := by omega
      subst hkn
      rw [List.take_length]
      refine awp_exit ?_
      change Awp _ _ _ _ _
      refine awp_seq ?_
      refine awp_region 1 mixed (by kernel_rfl) ?_
      refine rg_q (q_load_ag (u := [.int .i64 n]) (v := []) sz59 rfl rfl rfl rfl) ?_
      refine rg_nil ?_
      refine aops_storeAg sz59 rfl rfl rfl rfl rfl rfl rfl ?_
      refine aops_nil ?_
      change Awp _ _ _ _ _
      refine awp_ret ?_
      exact enda_mk (.inl rfl) [25] ⟨2, 25, 2, [.int .i64 n], [], rfl, rfl, sz59, rfl, rfl⟩ (by repeat (first | exact trivial | refine ⟨rfl, ?_⟩)) rfl

theorem fvC_flat (x : Int) : ∀ d ∈ fvC x, D.Flat d := by
  intro d hd
  simp only [fvC, List.mem_cons, List.not_mem_nil, or_false] at hd
  rcases hd with rfl; exact .v _
def offI (n f r : Int) : Int := (f * n + r) * 64
theorem off_in {n f r : Int} (hn : n ≤ 16) (f0 : 0 ≤ f) (f1 : f < n) (r0 : 0 ≤ r) (r1 : r < n) : (0 ≤ f * n ∧ f * n ≤ 256) ∧ 0 ≤ offI n f r ∧ offI n f r + 64 ≤ n * n * 64 := by
  have h1 := Int.mul_nonneg f0 (show 0 ≤ n by omega)
  have h2 := Int.mul_le_mul_of_nonneg_right (show f ≤ n - 1 by omega) (show 0 ≤ n by omega)
  have h3 : (n - 1) * n = n * n - n := by grind
  have h4 := Int.mul_le_mul_of_nonneg_right hn (show 0 ≤ n by omega)
  unfold offI
  omega
set_option maxRecDepth 100000 in
theorem at3_p (n : Int) (B : List Int) (u v : Int) (hn : n ≤ 16) (u0 : 0 ≤ u) (u1 : u < n) (v0 : 0 ≤ v) (v1 : v < n) : PC Tryz.prog 93 [.agg (mxC (n, B)), .v (.int .i64 (u)), .v (.int .i64 (v))] (.v (.int .i64 (offI n u v))) := by
  obtain ⟨⟨a1, a2⟩, a3, a4⟩ := off_in hn u0 u1 v0 v1
  have hn2 := mulb (a := n) (b := n) (A := 16) (B := 16) (by omega) (by omega) (by omega) (by omega)
  unfold offI at *
  refine pc_of_awp Tryz.func93 rfl Tryz.ntmps93 (rs := [.tmp 6]) Tryz.results93 (by simp) fun w0 => ?_
  refine awp_seq ?_
  refine awp_region 2 mixed (by kernel_rfl) ?_
  refine rg_q (q_box rfl (by exact .inr ⟨_, rfl⟩)) ?_
  refine rg_q (q_assign (x := .d (.v _)) rfl) ?_
  refine rg_nil ?_
  refine aops_nil ?_
  change Awp _ _ _ _ _
  refine awp_seq ?_
  refine awp_region 8 mixed (by kernel_rfl) ?_
  refine rg_q (q_move (x := .d (.v _)) rfl) ?_
  refine rg_q (q_fieldAddr fld59_0 rfl) ?_
  refine rg_q (q_load sz3 rfl rfl) ?_
  refine rg_q (q_mul rfl rfl (In64.mk (by (simp only; omega)) (by (simp only; omega)))) ?_
  refine rg_q (q_move (x := .d (.v _)) rfl) ?_
  refine rg_q (q_add rfl rfl (In64.mk (by (simp only; omega)) (by (simp only; omega)))) ?_
  refine rg_q (q_mul rfl rfl (In64.mk (by (simp only; omega)) (by (simp only; omega)))) ?_
  refine rg_q (q_assign (x := .d (.v _)) rfl) ?_
  refine rg_nil ?_
  refine aops_nil ?_
  change Awp _ _ _ _ _
  refine awp_ret ?_
  refine ⟨_, (.cons (.tmp (by exact .d _)) .nil), ?_⟩
  rfl

theorem flat_fv (V : List Int) : (D.agg (V.map fv)).Flat := .agg _ (fun d hd => by
  obtain ⟨x, _, rfl⟩ := List.mem_map.1 hd
  exact .v _)
set_option maxRecDepth 100000 in
theorem trace3_p (S : List Int) (hS : S.length = 64) : PC Tryz.prog 94 [.sl 1 (S.map iC)] (.agg (S.map fv)) := by
  refine pc_of_awp Tryz.func94 rfl Tryz.ntmps94 (rs := [.cell 2 38]) Tryz.results94 (by simp) fun w0 => ?_
  refine awp_seq ?_
  refine awp_region 0 mixed (by kernel_rfl) ?_
  refine rg_nil ?_
  refine aops_alloc zr38 rfl rfl rfl ?_
  refine aops_nil ?_
  change Awp _ _ _ _ _
  refine awp_seq ?_
  refine awp_region 0 mixed (by kernel_rfl) ?_
  refine rg_nil ?_
  refine aops_alloc zr38 rfl rfl rfl ?_
  refine aops_nil ?_
  change Awp _ _ _ _ _
  refine awp_seq ?_
  refine awp_seq ?_
  refine awp_region 1 mixed (by kernel_rfl) ?_
  refine rg_q (q_assign (x := .d (.v _)) rfl) ?_
  refine rg_nil ?_
  refine aops_nil ?_
  change Awp _ _ _ _ _
  refine awp_block ?_
  refine awp_loopH [4, 5, 6, 7, 8, 9, 10, 11, 12, 13, 14, 15, 16, 17, 18, 19, 20, 21] [3] (α := Nat) (fun k => [(4, T.i (k : Int))]) (fun k => [(3, .box (outT S k))]) (fun k => k ≤ 64) (fun k => 64 - k) 0 (Nat.zero_le _) ?_ ?_
  · exact le_head (ms := [3]) (by repeat (exact Out.refl _)) ⟨(by rfl), trivial⟩ ⟨(by rfl), trivial⟩ rfl rfl rfl rfl
  ·
    intro k hk
    refine awp_seq ?_
    refine awp_seq ?_
    refine awp_region 8 mixed (by kernel_rfl) ?_
    refine rg_q (q_move (x := .d (.v _)) rfl) ?_
    refine rg_q (q_lss rfl rfl) ?_
    refine rg_q (q_move (x := .d (.v _)) rfl) ?_
    refine rg_g rfl rfl (fun hG => (q_move (x := .d (.v _)) rfl)) ?_
    refine rg_g rfl rfl (fun hG => (q_move (x := .d (.sl _ _)) rfl)) ?_
    refine rg_g rfl rfl (fun hG => (q_len isl29 rfl (by exact len_map _ _))) ?_
    refine rg_g rfl rfl (fun hG => (q_lss rfl rfl)) ?_
    refine rg_pick rfl rfl rfl rfl rfl rfl ?_
    refine rg_nil ?_
    refine aops_nil ?_
    change Awp _ _ _ _ _
    refine awp_cond rfl (fun hc3 => ?_) (fun hc3 => ?_)
    ·
      (try simp only [decide_eq_true_eq, decide_eq_false_iff_not, Bool.and_eq_true, Bool.or_eq_true, Bool.and_eq_false_iff, Bool.or_eq_false_iff, Bool.not_eq_true', Bool.not_eq_false', Bool.not_true, Bool.not_false, bif_and, bif_or, Bool.not_not, ne_eq, Decidable.not_not, not_true_eq_false, not_false_eq_true, Int.not_le, Int.not_lt] at hc3)
      have hlt : k < S.length := by omega
      obtain ⟨x, hx⟩ : ∃ x, S[k]? = some x := ⟨_, List.getElem?_eq_getElem hlt⟩
      have hst := outT_set hS hx
      have hol : (outT S k).length = 64 := by unfold outT; rw [List.length_append, List.length_map, List.length_take, List.length_replicate]; omega
      refine awp_skip ?_
      change Awp _ _ _ _ _
      refine awp_seq ?_
      refine awp_block ?_
      refine awp_region 7 mixed (by kernel_rfl) ?_
      refine rg_q (q_move (x := .d (.v _)) rfl) ?_
      refine rg_q (q_move (x := .d (.sl _ _)) rfl) ?_
      refine rg_q (q_move (x := .d (.v _)) rfl) ?_
      refine rg_q (q_indexAddr sl29 rfl rfl (by omega) (map_at (by omega) hx)) ?_
      refine rg_q (q_load sz3 rfl rfl) ?_
      refine rg_q (q_convf int3 flt36 rfl) ?_
      refine rg_q (q_indexAddr_aref ar38 rfl rfl (by omega) (by omega)) ?_
      refine rg_nil ?_
      refine aops_store (cs' := outT S (k + 1)) sz36 rfl rfl (by exact .inl rfl) rfl rfl (by rw [hol]; omega) hst ?_
      refine aops_nil ?_
      change Awp _ _ _ _ _
      refine awp_region 3 mixed (by kernel_rfl) ?_
      refine rg_q (q_move (x := .d (.v _)) rfl) ?_
      refine rg_q (q_add rfl rfl (In64.mk (by omega) (by omega))) ?_
      refine rg_q (q_assign (x := .d (.v _)) rfl) ?_
      refine rg_nil ?_
      refine aops_nil ?_
      refine ⟨k + 1, by omega, by omega, ?_⟩
      exact le_head (ms := [3]) (by repeat (first | exact Out.head rfl rfl | (refine Out.put ?_ rfl) | (refine Out.site ?_ rfl))) ⟨(by rfl), trivial⟩ ⟨(by rfl), trivial⟩ rfl rfl rfl rfl
    ·
      (try simp only [decide_eq_true_eq, decide_eq_false_iff_not, Bool.and_eq_true, Bool.or_eq_true, Bool.and_eq_false_iff, Bool.or_eq_false_iff, Bool.not_eq_true', Bool.not_eq_false', Bool.not_true, Bool.not_false, bif_and, bif_or, Bool.not_not, ne_eq, Decidable.not_not, not_true_eq_false, not_false_eq_true, Int.not_le, Int.not_lt] at hc3)
      have hk64 : k = 64 := by omega
      subst hk64
      rw [outT_all hS]
      refine awp_exit ?_
      change Awp _ _ _ _ _
      refine awp_seq ?_
      refine awp_region 1 mixed (by kernel_rfl) ?_
      refine rg_q (q_load_refA (ds := S.map fv) sz38 rfl rfl (by rw [List.drop_zero]; exact List.take_of_length_le (by rw [List.length_map]; omega)) (by rw [List.length_map]; exact hS)) ?_
      refine rg_nil ?_
      refine aops_store (cs' := S.map fv) sz38 rfl rfl (by exact .inr ⟨_, rfl⟩) (by show (S.map fv).length = 64; rw [List.length_map]; exact hS) rfl (Nat.le_of_ble_eq_true rfl) (setCs_all (by show (S.map fv).length = 64; rw [List.length_map]; exact hS)) ?_
      refine aops_nil ?_
      change Awp _ _ _ _ _
      refine awp_ret ?_
      refine ⟨_, (.cons (.cellA rfl rfl sz38 (by show (S.map fv).length = _; rw [List.length_map]; exact hS)) .nil), ?_⟩
      rfl
set_option maxRecDepth 100000 in
theorem traceOf3_p (n : Int) (B : List Int) (p : Int × Int) (hn : n ≤ 16) (p1 : 0 ≤ p.1 ∧ p.1 < n) (p2 : 0 ≤ p.2 ∧ p.2 < n) (hb : ∀ v ∈ B, -2047 ≤ v ∧ v ≤ 2047) (hl : (B.length : Int) = n * n * 64) (V : List Int) (hV : V.length = 64) (hat : ∀ i : Nat, i < 64 → B[(offI n p.1 p.2).toNat + i]? = V[i]?) : PC Tryz.prog 63 [.agg (mxC (n, B)), .agg (shC p)] (.agg (V.map fv)) := by
  obtain ⟨⟨a1, a2⟩, a3, a4⟩ := off_in hn p1.1 p1.2 p2.1 p2.2
  have hn2 := mulb (a := n) (b := n) (A := 16) (B := 16) (by omega) (by omega) (by omega) (by omega)
  have hBl : B.length ≤ 100000 := by omega
  refine pc_of_awpN Tryz.func63 rfl Tryz.ntmps63 (rs := [.cell 4 38]) Tryz.results63 (by simp) fun w0 hmine hrnd hpn => ?_
  refine awp_seq ?_
  refine awp_region 2 mixed (by kernel_rfl) ?_
  refine rg_q (q_box rfl (by exact .inr ⟨_, rfl⟩)) ?_
  refine rg_q (q_box rfl (by exact .inr ⟨_, rfl⟩)) ?_
  refine rg_nil ?_
  refine aops_alloc zr38 rfl rfl rfl ?_
  refine aops_nil ?_
  change Awp _ _ _ _ _
  refine awp_seq ?_
  refine awp_region 1 mixed (by kernel_rfl) ?_
  refine rg_q (q_assign_nil) ?_
  refine rg_nil ?_
  refine aops_nil ?_
  change Awp _ _ _ _ _
  refine Awp.le (le_own (k := 5) (e := 3) (sz := 1) rfl rfl) ?_
  refine awp_seq ?_
  refine awp_seq ?_
  refine awp_region 1 mixed (by kernel_rfl) ?_
  refine rg_q (q_assign (x := .d (.v _)) rfl) ?_
  refine rg_nil ?_
  refine aops_nil ?_
  change Awp _ _ _ _ _
  refine awp_block ?_
  refine awp_loopH [5, 6, 7, 8, 9, 10, 11, 12, 13, 14, 15, 16, 17, 18, 19, 20, 21, 22, 23, 24, 25, 26] [5] (α := Nat) (fun k => [(6, T.i (k : Int)), (5, .rs 5)]) (fun k => [(5, .row 3 1 ((V.take k).map iC))]) (fun k => k ≤ 64) (fun k => 64 - k) 0 (Nat.zero_le _) ?_ ?_
  · exact le_head (ms := [5]) (by repeat (exact Out.refl _)) ⟨(by rfl), (by rfl), trivial⟩ ⟨(by rfl), trivial⟩ rfl rfl rfl rfl
  ·
    intro k hk
    refine awp_seq ?_
    refine awp_seq ?_
    refine awp_region 2 mixed (by kernel_rfl) ?_
    refine rg_q (q_move (x := .d (.v _)) rfl) ?_
    refine rg_q (q_lss rfl rfl) ?_
    refine rg_nil ?_
    refine aops_nil ?_
    change Awp _ _ _ _ _
    refine awp_cond rfl (fun hc3 => ?_) (fun hc3 => ?_)
    ·
      (try simp only [decide_eq_true_eq, decide_eq_false_iff_not, Bool.and_eq_true, Bool.or_eq_true, Bool.and_eq_false_iff, Bool.or_eq_false_iff, Bool.not_eq_true', Bool.not_eq_false', Bool.not_true, Bool.not_false, bif_and, bif_or, Bool.not_not, ne_eq, Decidable.not_not, not_true_eq_false, not_false_eq_true, Int.not_le, Int.not_lt] at hc3)
      have hlt : k < 64 := by omega
      obtain ⟨x, hx⟩ : ∃ x, V[k]? = some x := ⟨_, List.getElem?_eq_getElem (by omega)⟩
      have hbx : B[(offI n p.1 p.2).toNat + k]? = some x := by rw [hat k hlt, hx]
      obtain ⟨hx1, hx2⟩ := hb x (List.mem_of_getElem? hbx)
      have hin : (offI n p.1 p.2).toNat + k < B.length := (List.getElem?_eq_some_iff.1 hbx).1
      have hml : (B.map fvC).length = B.length := List.length_map _
      have hcast : (((offI n p.1 p.2).toNat + k : Nat) : Int) = offI n p.1 p.2 + (k : Int) := by omega
      have hs1 : (V.take k).map iC ++ [iC x] = (V.take (k + 1)).map iC := by rw [List.take_succ_eq_append_getElem (by omega), (List.getElem?_eq_some_iff.1 hx).2, List.map_append]; rfl
      have htl : (V.take k).length ≤ 64 := by rw [List.length_take]; omega
      refine awp_skip ?_
      change Awp _ _ _ _ _
      refine awp_seq ?_
      refine awp_block ?_
      refine awp_region 15 mixed (by kernel_rfl) ?_
      refine rg_q (q_move (x := .rs _) rfl) ?_
      refine rg_q (q_fieldAddr fld59_1 rfl) ?_
      refine rg_q (q_load sz57 rfl rfl) ?_
      refine rg_q (q_loadA (ds := [_, _]) sz59 rfl rfl rfl) ?_
      refine rg_q (q_indexAddr_ar ar33 rfl rfl (by omega) (by omega)) ?_
      refine rg_q (q_load sz3 rfl rfl) ?_
      refine rg_q (q_indexAddr_ar ar33 rfl rfl (by omega) (by omega)) ?_
      refine rg_q (q_load sz3 rfl rfl) ?_
      refine rg_q (q_call en93 (.cons rfl (.cons rfl (.cons rfl .nil))) rfl (at3_p n B p.1 p.2 hn p1.1 p1.2 p2.1 p2.2)) ?_
      refine rg_q (q_move (x := .d (.v _)) rfl) ?_
      refine rg_q (q_add rfl rfl (In64.mk (by omega) (by omega))) ?_
      refine rg_q (q_indexAddr sl57 rfl rfl (by omega) (map_at (k := (offI n p.1 p.2).toNat + k) (by omega) hbx)) ?_
      refine rg_q (q_load sz36 rfl rfl) ?_
      refine rg_q (q_convfi flt36 int3 rfl (f32_int (f32_of (by omega) (by omega)))) ?_
      refine rg_q (q_buildSlice sl29 zr3 rfl rfl (by decide) (.cons rfl (by exact .inl rfl) .nil) ⟨rfl, rfl, trivial⟩ rfl (by decide) rfl) ?_
      refine rg_nil ?_
      refine aops_append sl29 zr3 by3 rfl (by decide) rfl rfl rfl rfl (by (try simp only [List.length_map, List.length_append, List.length_cons, List.length_nil]); omega) (by (try simp only [List.length_map, List.length_append, List.length_cons, List.length_nil]); omega) rfl rfl ?_
      refine aops_q rfl (q_assign (x := .rs _) rfl) ?_
      refine aops_nil ?_
      change Awp _ _ _ _ _
      refine awp_region 3 mixed (by kernel_rfl) ?_
      refine rg_q (q_move (x := .d (.v _)) rfl) ?_
      refine rg_q (q_add rfl rfl (In64.mk (by omega) (by omega))) ?_
      refine rg_q (q_assign (x := .d (.v _)) rfl) ?_
      refine rg_nil ?_
      refine aops_nil ?_
      refine ⟨k + 1, by omega, by omega, ?_⟩
      exact le_head (ms := [5]) (by repeat (first | exact Out.head rfl rfl | (refine Out.put ?_ rfl) | (refine Out.site ?_ rfl) | (refine Out.killS ?_ rfl))) ⟨(by rfl), (by rfl), trivial⟩ ⟨(by (show Site.row _ _ _ = Site.row _ _ _; rw [← hs1]; rfl)), trivial⟩ rfl rfl rfl rfl
    ·
      (try simp only [decide_eq_true_eq, decide_eq_false_iff_not, Bool.and_eq_true, Bool.or_eq_true, Bool.and_eq_false_iff, Bool.or_eq_false_iff, Bool.not_eq_true', Bool.not_eq_false', Bool.not_true, Bool.not_false, bif_and, bif_or, Bool.not_not, ne_eq, Decidable.not_not, not_true_eq_false, not_false_eq_true, Int.not_le, Int.not_lt] at hc3)
      have hk64 : k = 64 := by omega
      subst hk64
      rw [List.take_of_length_le (by omega)]
      refine awp_exit ?_
      change Awp _ _ _ _ _
      refine awp_seq ?_
      refine awp_region 2 mixed (by kernel_rfl) ?_
      refine rg_q (q_move (x := .rs _) rfl) ?_
      refine rg_q (q_callF en94 (.cons (by exact .rs rfl) .nil) rfl (trace3_p V hV) (by exact flat_fv V)) ?_
      refine rg_nil ?_
      refine aops_store (cs' := V.map fv) sz38 rfl rfl (by exact .inr ⟨_, rfl⟩) (by show (V.map fv).length = 64; rw [List.length_map]; exact hV) rfl (Nat.le_of_ble_eq_true rfl) (setCs_all (by show (V.map fv).length = 64; rw [List.length_map]; exact hV)) ?_
      refine aops_nil ?_
      change Awp _ _ _ _ _
      refine awp_ret ?_
      refine ⟨_, (.cons (.cellA rfl rfl sz38 (by show (V.map fv).length = _; rw [List.length_map]; exact hV)) .nil), ?_⟩
      rfl
theorem List.set_getElem_self_of {α : Type} {l : List α} {i : Nat} {a : α} (h : l[i]? = some a) : l.set i a = l := by
  obtain ⟨hlt, rfl⟩ := List.getElem?_eq_some_iff.1 h
  exact List.set_getElem_self hlt
set_option maxRecDepth 100000 in
theorem with_p (n : Int) (B : List Int) (p : Int × Int) (hn : n ≤ 16) (p1 : 0 ≤ p.1 ∧ p.1 < n) (p2 : 0 ≤ p.2 ∧ p.2 < n) (hb : ∀ v ∈ B, -2047 ≤ v ∧ v ≤ 2047) (hl : (B.length : Int) = n * n * 64) (V : List Int) (hV : V.length = 64) (hat : ∀ i : Nat, i < 64 → B[(offI n p.1 p.2).toNat + i]? = V[i]?) : PC Tryz.prog 62 [.agg (mxC (n, B)), .agg (shC p), .agg (V.map fv)] (.agg (mxC (n, B))) := by
  obtain ⟨⟨a1, a2⟩, a3, a4⟩ := off_in hn p1.1 p1.2 p2.1 p2.2
  have hn2 := mulb (a := n) (b := n) (A := 16) (B := 16) (by omega) (by omega) (by omega) (by omega)
  have hBl : B.length ≤ 100000 := by omega
  refine pc_of_awpN Tryz.func62 rfl Tryz.ntmps62 (rs := [.cell 6 59]) Tryz.results62 (by simp) fun w0 hmine hrnd hpn => ?_
  refine awp_seq ?_
  refine awp_region 3 mixed (by kernel_rfl) ?_
  refine rg_q (q_box rfl (by exact .inr ⟨_, rfl⟩)) ?_
  refine rg_q (q_box rfl (by exact .inr ⟨_, rfl⟩)) ?_
  refine rg_q (q_box rfl (by exact .inr ⟨_, rfl⟩)) ?_
  refine rg_nil ?_
  refine aops_alloc zr59 rfl rfl rfl ?_
  refine aops_nil ?_
  change Awp _ _ _ _ _
  refine awp_seq ?_
  refine awp_region 1 mixed (by kernel_rfl) ?_
  refine rg_q (q_loadA (ds := [_, _]) sz59 rfl rfl rfl) ?_
  refine rg_nil ?_
  refine aops_callN [10] en61 (plainS_p n B hb hBl) rfl (.cons (by exact .d _) .nil) rfl (newS.none rfl rfl) rfl (fun s hs => by rcases List.mem_singleton.1 hs with rfl; exact flat_row fvC 36 1 B fvC_flat) trivial ?_
  refine aops_alloc zr59 rfl rfl rfl ?_
  refine aops_le (le_tbox (k := 7) (ts := [_, _]) rfl rfl) ?_
  refine aops_storeAg sz59 rfl rfl rfl rfl rfl rfl rfl ?_
  refine aops_nil ?_
  change Awp _ _ _ _ _
  refine awp_seq ?_
  refine awp_seq ?_
  refine awp_region 1 mixed (by kernel_rfl) ?_
  refine rg_q (q_assign (x := .d (.v _)) rfl) ?_
  refine rg_nil ?_
  refine aops_nil ?_
  change Awp _ _ _ _ _
  refine awp_block ?_
  refine awp_loopH [8, 11, 12, 13, 14, 15, 16, 17, 18, 19, 20, 21, 22, 23, 24, 25, 26, 27, 28, 29, 30] [7, 10] (α := Nat) (fun k => [(8, T.i (k : Int))]) (fun k => [(7, .tbox [.d (.v (.int .i64 (n))), .rs 10]), (10, .row 36 1 (B.map fvC))]) (fun k => k ≤ 64) (fun k => 64 - k) 0 (Nat.zero_le _) ?_ ?_
  · exact le_head (ms := [7, 10]) (by repeat (exact Out.refl _)) ⟨(by rfl), trivial⟩ ⟨(by rfl), (by rfl), trivial⟩ rfl rfl rfl rfl
  ·
    intro k hk
    refine awp_seq ?_
    refine awp_seq ?_
    refine awp_region 2 mixed (by kernel_rfl) ?_
    refine rg_q (q_move (x := .d (.v _)) rfl) ?_
    refine rg_q (q_lss rfl rfl) ?_
    refine rg_nil ?_
    refine aops_nil ?_
    change Awp _ _ _ _ _
    refine awp_cond rfl (fun hc3 => ?_) (fun hc3 => ?_)
    ·
      (try simp only [decide_eq_true_eq, decide_eq_false_iff_not, Bool.and_eq_true, Bool.or_eq_true, Bool.and_eq_false_iff, Bool.or_eq_false_iff, Bool.not_eq_true', Bool.not_eq_false', Bool.not_true, Bool.not_false, bif_and, bif_or, Bool.not_not, ne_eq, Decidable.not_not, not_true_eq_false, not_false_eq_true, Int.not_le, Int.not_lt] at hc3)
      have hlt : k < 64 := by omega
      obtain ⟨x, hx⟩ : ∃ x, V[k]? = some x := ⟨_, List.getElem?_eq_getElem (by omega)⟩
      have hbx : B[(offI n p.1 p.2).toNat + k]? = some x := by rw [hat k hlt, hx]
      obtain ⟨hx1, hx2⟩ := hb x (List.mem_of_getElem? hbx)
      have hin : (offI n p.1 p.2).toNat + k < B.length := (List.getElem?_eq_some_iff.1 hbx).1
      have hml : (B.map fvC).length = B.length := List.length_map _
      have hcast : (((offI n p.1 p.2).toNat + k : Nat) : Int) = offI n p.1 p.2 + (k : Int) := by omega
      have hld : (V.map fv)[0 + (k : Int).toNat * 1]? = some (fv x) := by rw [Int.toNat_natCast, Nat.zero_add, Nat.mul_one, List.getElem?_map, hx]; rfl
      have hrow : (B.map fvC)[(offI n p.1 p.2).toNat + k]? = some (fvC x) := by rw [List.getElem?_map, hbx]; rfl
      have hset : (B.map fvC).set ((offI n p.1 p.2).toNat + k) (setCs (fvC x) 0 [fv x]) = B.map fvC := by
        rw [show setCs (fvC x) 0 [fv x] = fvC x from rfl]
        exact List.set_getElem_self_of hrow
      refine awp_skip ?_
      change Awp _ _ _ _ _
      refine awp_seq ?_
      refine awp_block ?_
      refine awp_region 16 mixed (by kernel_rfl) ?_
      refine rg_q (q_fieldAddr_ref fld59_1 rfl) ?_
      refine rg_q (q_load_tb (x := .rs _) sz57 rfl rfl rfl) ?_
      refine rg_q (q_loadA (ds := [_, _]) sz59 rfl rfl rfl) ?_
      refine rg_q (q_indexAddr_ar ar33 rfl rfl (by omega) (by omega)) ?_
      refine rg_q (q_load sz3 rfl rfl) ?_
      refine rg_q (q_indexAddr_ar ar33 rfl rfl (by omega) (by omega)) ?_
      refine rg_q (q_load sz3 rfl rfl) ?_
      refine rg_q (q_call en93 (.cons rfl (.cons rfl (.cons rfl .nil))) rfl (at3_p n B p.1 p.2 hn p1.1 p1.2 p2.1 p2.2)) ?_
      refine rg_q (q_move (x := .d (.v _)) rfl) ?_
      refine rg_q (q_add rfl rfl (In64.mk (by omega) (by omega))) ?_
      refine rg_q (q_move (x := .d (.v _)) rfl) ?_
      refine rg_q (q_indexAddr_ar ar38 rfl rfl (by omega) (by omega)) ?_
      refine rg_q (q_load sz36 rfl hld) ?_
      refine rg_q (q_convfi flt36 int3 rfl (f32_int (f32_of (by omega) (by omega)))) ?_
      refine rg_q (q_convf int3 flt36 rfl) ?_
      refine rg_q (q_indexAddr_rs sl57 rfl rfl rfl (by omega) (by omega)) ?_
      refine rg_nil ?_
      refine aops_store_row sz36 rfl rfl (by exact .inl rfl) rfl rfl (i := (offI n p.1 p.2).toNat + k) (j := 0) (by rw [Nat.mul_one, Nat.add_zero]; omega) hrow (by decide) hset ?_
      refine aops_nil ?_
      change Awp _ _ _ _ _
      refine awp_region 3 mixed (by kernel_rfl) ?_
      refine rg_q (q_move (x := .d (.v _)) rfl) ?_
      refine rg_q (q_add rfl rfl (In64.mk (by omega) (by omega))) ?_
      refine rg_q (q_assign (x := .d (.v _)) rfl) ?_
      refine rg_nil ?_
      refine aops_nil ?_
      refine ⟨k + 1, by omega, by omega, ?_⟩
      exact le_head (ms := [7, 10]) (by repeat (first | exact Out.head rfl rfl | (refine Out.put ?_ rfl) | (refine Out.site ?_ rfl))) ⟨(by rfl), trivial⟩ ⟨(by rfl), (by rfl), trivial⟩ rfl rfl rfl rfl
    ·
      (try simp only [decide_eq_true_eq, decide_eq_false_iff_not, Bool.and_eq_true, Bool.or_eq_true, Bool.and_eq_false_iff, Bool.or_eq_false_iff, Bool.not_eq_true', Bool.not_eq_false', Bool.not_true, Bool.not_false, bif_and, bif_or, Bool.not_not, ne_eq, Decidable.not_not, not_true_eq_false, not_false_eq_true, Int.not_le, Int.not_lt] at hc3)
      refine awp_exit ?_
      change Awp _ _ _ _ _
      refine awp_seq ?_
      refine Awp.le (le_freezeTB 7 10 1 rfl rfl rfl rfl hmine) ?_
      refine Awp.le (le_boxT 7 (mxC (n, B)) rfl rfl (by intro j d h; match j, h with | 0, h => cases h; rfl | 1, h => cases h; rfl)) ?_
      refine awp_region 1 mixed (by kernel_rfl) ?_
      refine rg_q (q_load_refA (ds := [_, _]) sz59 rfl rfl rfl rfl) ?_
      refine rg_nil ?_
      refine aops_store sz59 rfl rfl (by exact .inr ⟨_, rfl⟩) rfl rfl (by decide) rfl ?_
      refine aops_nil ?_
      change Awp _ _ _ _ _
      refine awp_ret ?_
      refine ⟨_, (.cons (.cellA rfl rfl sz59 rfl) .nil), ?_⟩
      rfl

theorem mx_at (s : Spc) {n f r : Nat} (hf : f < n) (hr : r < n) {i : Nat} (hi : i < 64) : (mxB s (prL n))[(f * n + r) * 64 + i]? = (mtS s ((f : Int), (r : Int)))[i]? := by
  obtain ⟨t, ht⟩ := pr_pre (n := n) (i := f) (j := r + 1) hf hr
  have e : mxB s (prL n) = mxB s (prF n f ++ prR f r) ++ (mtS s ((f : Int), (r : Int)) ++ mxB s t) := by
    rw [← ht, prR_succ]; unfold mxB; simp only [List.flatMap_append, List.append_assoc]; simp
  have hl : (mxB s (prF n f ++ prR f r)).length = (f * n + r) * 64 := by
    rw [mxB_len, List.length_append, prF_len]; unfold prR; rw [List.length_map, List.length_range, Nat.mul_comm]
  rw [e, ← hl, List.getElem?_append_right (by omega), Nat.add_sub_cancel_left, List.getElem?_append_left (by rw [mtS_len]; exact hi)]
theorem offI_nat (n f r : Nat) : (offI (n : Int) (f : Int) (r : Int)).toNat = (f * n + r) * 64 := by
  have : offI (n : Int) (f : Int) (r : Int) = (((f * n + r) * 64 : Nat) : Int) := by unfold offI; push_cast; rfl
  rw [this, Int.toNat_natCast]
theorem mx_off (s : Spc) {n f r : Nat} (hf : f < n) (hr : r < n) : ∀ i : Nat, i < 64 → (mxB s (prL n))[(offI (n : Int) (f : Int) (r : Int)).toNat + i]? = (mtS s ((f : Int), (r : Int)))[i]? := fun i hi => by
  rw [offI_nat]; exact mx_at s hf hr hi
theorem big_in {v : Int} (h : bigB v ≠ true) : -2047 ≤ v ∧ v ≤ 2047 := by
  unfold bigB inR at h
  simp at h; omega
theorem mx_in {s : Spc} {n : Nat} (h : (prL n).any (bigP s) = false) : ∀ v ∈ mxB s (prL n), -2047 ≤ v ∧ v ≤ 2047 := by
  intro v hv
  obtain ⟨p, hp, hv⟩ := List.mem_flatMap.1 hv
  have h1 := List.any_eq_false.1 h p hp
  exact big_in fun q => h1 (List.any_eq_true.2 ⟨v, hv, q⟩)
theorem mx_ll (s : Spc) (n : Nat) : ((mxB s (prL n)).length : Int) = (n : Int) * n * 64 := by
  rw [mxB_len]; unfold prL; rw [prF_len]; push_cast; omega
theorem smp_sw {a : Arr} (h : a.ou = a.ba) (t : Int × Int) (f r : Int) : smpI a t (f, r) = smpI a t (r, f) := by
  unfold smpI echI; rw [h]; simp only; rw [Int.add_comm]
theorem smT_sw {a : Arr} {pl : List Int} {P : List ((Int × Int) × Int)} (h : a.ou = a.ba) (f r : Int) : ∀ k : Nat, smT a pl (f, r) P k = smT a pl (r, f) P k
  | 0 => rfl
  | k + 1 => by show adT _ _ _ _ _ = adT _ _ _ _ _; rw [smT_sw h f r k, smp_sw h]
theorem mtS_sw {s : Spc} (h : s.ar.ou = s.ar.ba) (f r : Int) : mtS s (f, r) = mtS s (r, f) := smT_sw h f r _
theorem mxR_ok {s : Spc} (h : (mxR s).2 = 0) : (ckSpc s).2 = 0 ∧ (prL s.ar.el.length).any (bigP s) = false ∧ mxR s = (((s.ar.el.length : Int), mxB s (prL s.ar.el.length)), 0) := by
  unfold mxR at h ⊢
  by_cases h0 : (ckSpc s).2 ≠ 0
  · rw [if_pos h0] at h; exact absurd h h0
  rw [if_neg h0] at h ⊢
  by_cases h1 : (prL s.ar.el.length).any (bigP s) = true
  · rw [if_pos h1] at h; exact absurd h (by decide)
  rw [if_neg h1] at h ⊢
  exact ⟨Decidable.not_not.1 h0, by simpa using h1, rfl⟩
set_option maxRecDepth 100000 in
theorem transposed_p (s : Spc) (N : Nat) (hN : N ≤ 16) (hg : (prL N).any (bigP s) = false) (he : s.ar.ou = s.ar.ba) : PC Tryz.prog 23 [.agg (mxC ((N : Int), mxB s (prL N)))] (.agg (mxC ((N : Int), mxB s (prL N)))) := by
  have hb := mx_in hg
  have hl := mx_ll s N
  have hn : (N : Int) ≤ 16 := by omega
  have hn2 := mulb (a := (N : Int)) (b := N) (A := 16) (B := 16) (by omega) (by omega) (by omega) (by omega)
  have hBl : (mxB s (prL N)).length ≤ 100000 := by omega
  refine pc_of_awp Tryz.func23 rfl Tryz.ntmps23 (rs := [.cell 2 59]) Tryz.results23 (by simp) fun w0 => ?_
  refine awp_seq ?_
  refine awp_region 1 mixed (by kernel_rfl) ?_
  refine rg_q (q_box rfl (by exact .inr ⟨_, rfl⟩)) ?_
  refine rg_nil ?_
  refine aops_alloc zr59 rfl rfl rfl ?_
  refine aops_nil ?_
  change Awp _ _ _ _ _
  refine awp_seq ?_
  refine awp_region 2 mixed (by kernel_rfl) ?_
  refine rg_q (q_loadA (ds := [_, _]) sz59 rfl rfl rfl) ?_
  refine rg_q (q_call en61 (.cons rfl .nil) rfl (plainD_p _ _ hb hBl)) ?_
  refine rg_nil ?_
  refine aops_alloc zr59 rfl rfl rfl ?_
  refine aops_store sz59 rfl rfl (by exact .inr ⟨_, rfl⟩) rfl rfl (by decide) rfl ?_
  refine aops_nil ?_
  change Awp _ _ _ _ _
  refine awp_seq ?_
  refine awp_seq ?_
  refine awp_region 1 mixed (by kernel_rfl) ?_
  refine rg_q (q_assign (x := .d (.v _)) rfl) ?_
  refine rg_nil ?_
  refine aops_nil ?_
  change Awp _ _ _ _ _
  refine awp_block ?_
  refine awp_loopH [4, 5, 8, 9, 10, 11, 12, 13, 14, 15, 16, 17, 18, 19, 20, 21, 22, 23, 24, 25, 26, 27, 28, 29] [3] (α := Nat) (fun i => [(4, T.i (i : Int))]) (fun i => [(3, .box (mxC ((N : Int), mxB s (prL N))))]) (fun i => i ≤ N) (fun i => N - i) 0 (Nat.zero_le _) ?_ ?_
  · exact le_head (ms := [3]) (by repeat (exact Out.refl _)) ⟨(by rfl), trivial⟩ ⟨(by rfl), trivial⟩ rfl rfl rfl rfl
  ·
    intro i hi
    refine awp_seq ?_
    refine awp_seq ?_
    refine awp_region 4 mixed (by kernel_rfl) ?_
    refine rg_q (q_move (x := .d (.v _)) rfl) ?_
    refine rg_q (q_fieldAddr fld59_0 rfl) ?_
    refine rg_q (q_load sz3 rfl rfl) ?_
    refine rg_q (q_lss rfl rfl) ?_
    refine rg_nil ?_
    refine aops_nil ?_
    change Awp _ _ _ _ _
    refine awp_cond rfl (fun hc3 => ?_) (fun hc3 => ?_)
    ·
      (try simp only [decide_eq_true_eq, decide_eq_false_iff_not, Bool.and_eq_true, Bool.or_eq_true, Bool.and_eq_false_iff, Bool.or_eq_false_iff, Bool.not_eq_true', Bool.not_eq_false', Bool.not_true, Bool.not_false, bif_and, bif_or, Bool.not_not, ne_eq, Decidable.not_not, not_true_eq_false, not_false_eq_true, Int.not_le, Int.not_lt] at hc3)
      have hlt : i < N := by omega
      refine awp_skip ?_
      change Awp _ _ _ _ _
      refine awp_seq ?_
      refine awp_block ?_
      refine awp_seq ?_
      refine awp_region 1 mixed (by kernel_rfl) ?_
      refine rg_q (q_assign (x := .d (.v _)) rfl) ?_
      refine rg_nil ?_
      refine aops_nil ?_
      change Awp _ _ _ _ _
      refine awp_block ?_
      refine awp_loopH [5, 14, 15, 16, 17, 18, 19, 20, 21, 22, 23, 24, 25, 26, 27, 28, 29] [3] (α := Nat) (fun j => [(5, T.i (j : Int))]) (fun j => [(3, .box (mxC ((N : Int), mxB s (prL N))))]) (fun j => j ≤ N) (fun j => N - j) 0 (Nat.zero_le _) ?_ ?_
      · exact le_head (ms := [3]) (by repeat (exact Out.refl _)) ⟨(by rfl), trivial⟩ ⟨(by rfl), trivial⟩ rfl rfl rfl rfl
      ·
        intro j hj
        refine awp_seq ?_
        refine awp_seq ?_
        refine awp_region 4 mixed (by kernel_rfl) ?_
        refine rg_q (q_move (x := .d (.v _)) rfl) ?_
        refine rg_q (q_fieldAddr fld59_0 rfl) ?_
        refine rg_q (q_load sz3 rfl rfl) ?_
        refine rg_q (q_lss rfl rfl) ?_
        refine rg_nil ?_
        refine aops_nil ?_
        change Awp _ _ _ _ _
        refine awp_cond rfl (fun hc6 => ?_) (fun hc6 => ?_)
        ·
          (try simp only [decide_eq_true_eq, decide_eq_false_iff_not, Bool.and_eq_true, Bool.or_eq_true, Bool.and_eq_false_iff, Bool.or_eq_false_iff, Bool.not_eq_true', Bool.not_eq_false', Bool.not_true, Bool.not_false, bif_and, bif_or, Bool.not_not, ne_eq, Decidable.not_not, not_true_eq_false, not_false_eq_true, Int.not_le, Int.not_lt] at hc6)
          have hlj : j < N := by omega
          refine awp_skip ?_
          change Awp _ _ _ _ _
          refine awp_seq ?_
          refine awp_block ?_
          refine awp_region 10 mixed (by kernel_rfl) ?_
          refine rg_q (q_load_refA (ds := [_, _]) sz59 rfl rfl rfl rfl) ?_
          refine rg_q (q_move (x := .d (.v _)) rfl) ?_
          refine rg_q (q_move (x := .d (.v _)) rfl) ?_
          refine rg_q (q_buildA (cs := [_, _]) ar33 zr33 rfl (.cons rfl (by exact .inl rfl) (.cons rfl (by exact .inl rfl) .nil)) ⟨⟨rfl, by decide⟩, ⟨rfl, by decide⟩, trivial⟩ rfl) ?_
          refine rg_q (q_loadA (ds := [_, _]) sz59 rfl rfl rfl) ?_
          refine rg_q (q_move (x := .d (.v _)) rfl) ?_
          refine rg_q (q_move (x := .d (.v _)) rfl) ?_
          refine rg_q (q_buildA (cs := [_, _]) ar33 zr33 rfl (.cons rfl (by exact .inl rfl) (.cons rfl (by exact .inl rfl) .nil)) ⟨⟨rfl, by decide⟩, ⟨rfl, by decide⟩, trivial⟩ rfl) ?_
          refine rg_q (q_call en63 (.cons rfl (.cons rfl .nil)) rfl (traceOf3_p _ _ ((j : Int), (i : Int)) hn ⟨by simp only; omega, by simp only; omega⟩ ⟨by simp only; omega, by simp only; omega⟩ hb hl (mtS s ((i : Int), (j : Int))) (mtS_len _ _) (by rw [mtS_sw he]; exact mx_off s hlj hlt))) ?_
          refine rg_q (q_call en62 (.cons rfl (.cons rfl (.cons rfl .nil))) rfl (with_p _ _ ((i : Int), (j : Int)) hn ⟨by simp only; omega, by simp only; omega⟩ ⟨by simp only; omega, by simp only; omega⟩ hb hl (mtS s ((i : Int), (j : Int))) (mtS_len _ _) (mx_off s hlt hlj))) ?_
          refine rg_nil ?_
          refine aops_store sz59 rfl rfl (by exact .inr ⟨_, rfl⟩) rfl rfl (by exact Nat.le_of_ble_eq_true rfl) rfl ?_
          refine aops_nil ?_
          change Awp _ _ _ _ _
          refine awp_region 3 mixed (by kernel_rfl) ?_
          refine rg_q (q_move (x := .d (.v _)) rfl) ?_
          refine rg_q (q_add rfl rfl (In64.mk (by omega) (by omega))) ?_
          refine rg_q (q_assign (x := .d (.v _)) rfl) ?_
          refine rg_nil ?_
          refine aops_nil ?_
          refine ⟨j + 1, by omega, by omega, ?_⟩
          exact le_head (ms := [3]) (by repeat (first | exact Out.head rfl rfl | (refine Out.put ?_ rfl) | (refine Out.site ?_ rfl))) ⟨(by rfl), trivial⟩ ⟨(by rfl), trivial⟩ rfl rfl rfl rfl
        ·
          (try simp only [decide_eq_true_eq, decide_eq_false_iff_not, Bool.and_eq_true, Bool.or_eq_true, Bool.and_eq_false_iff, Bool.or_eq_false_iff, Bool.not_eq_true', Bool.not_eq_false', Bool.not_true, Bool.not_false, bif_and, bif_or, Bool.not_not, ne_eq, Decidable.not_not, not_true_eq_false, not_false_eq_true, Int.not_le, Int.not_lt] at hc6)
          refine awp_exit ?_
          change Awp _ _ _ _ _
          refine awp_region 3 mixed (by kernel_rfl) ?_
          refine rg_q (q_move (x := .d (.v _)) rfl) ?_
          refine rg_q (q_add rfl rfl (In64.mk (by omega) (by omega))) ?_
          refine rg_q (q_assign (x := .d (.v _)) rfl) ?_
          refine rg_nil ?_
          refine aops_nil ?_
          refine ⟨i + 1, by omega, by omega, ?_⟩
          exact le_head (ms := [3]) (by repeat (first | exact Out.head rfl rfl | (refine Out.put ?_ rfl) | (refine Out.headIn ?_ rfl rfl rfl))) ⟨(by rfl), trivial⟩ ⟨(by rfl), trivial⟩ rfl rfl rfl rfl
    ·
      (try simp only [decide_eq_true_eq, decide_eq_false_iff_not, Bool.and_eq_true, Bool.or_eq_true, Bool.and_eq_false_iff, Bool.or_eq_false_iff, Bool.not_eq_true', Bool.not_eq_false', Bool.not_true, Bool.not_false, bif_and, bif_or, Bool.not_not, ne_eq, Decidable.not_not, not_true_eq_false, not_false_eq_true, Int.not_le, Int.not_lt] at hc3)
      have hin : i = N := by omega
      refine awp_exit ?_
      change Awp _ _ _ _ _
      refine awp_seq ?_
      refine awp_region 1 mixed (by kernel_rfl) ?_
      refine rg_q (q_load_refA (ds := [_, _]) sz59 rfl rfl rfl rfl) ?_
      refine rg_nil ?_
      refine aops_store sz59 rfl rfl (by exact .inr ⟨_, rfl⟩) rfl rfl (by decide) rfl ?_
      refine aops_nil ?_
      change Awp _ _ _ _ _
      refine awp_ret ?_
      refine ⟨_, (.cons (.cellA rfl rfl sz59 rfl) .nil), ?_⟩
      rfl

theorem transposedR_p (s : Spc) (h : (mxR s).2 = 0) (he : s.ar.ou = s.ar.ba) : PC Tryz.prog 23 [.agg (mxC (mxR s).1)] (.agg (mxC (mxR s).1)) := by
  obtain ⟨h0, h1, h2⟩ := mxR_ok h
  rw [h2]
  exact transposed_p s _ (spc_ok h0).ar.n2 h1 he
theorem md_ext {a b : Md} (h : a.w = b.w ∧ a.m = b.m ∧ a.k = b.k ∧ a.t = b.t) : a = b := by
  cases a; cases b; simp only at h; obtain ⟨rfl, rfl, rfl, rfl⟩ := h; rfl
set_option maxRecDepth 100000 in
theorem benchMatrices_p (s : Spc) : PC Tryz.prog 5 [.agg (spcC s)] (.v (.bool (true))) := by
  refine pc_of_awpN Tryz.func5 rfl Tryz.ntmps5 (rs := [.tmp 2]) Tryz.results5 (by simp) fun w0 hmine hrnd hpn => ?_
  refine awp_seq ?_
  refine awp_region 2 mixed (by kernel_rfl) ?_
  refine rg_q (q_box rfl (by exact .inr ⟨_, rfl⟩)) ?_
  refine rg_q (q_assign (x := .d (.v _)) rfl) ?_
  refine rg_nil ?_
  refine aops_nil ?_
  change Awp _ _ _ _ _
  refine awp_seq ?_
  refine awp_seq ?_
  refine awp_region 2 mixed (by kernel_rfl) ?_
  refine rg_q (q_call en9 .nil rfl (awake_p)) ?_
  refine rg_q (q_not rfl) ?_
  refine rg_nil ?_
  refine aops_nil ?_
  change Awp _ _ _ _ _
  refine awp_cond rfl (fun hc1 => ?_) (fun hc1 => ?_)
  ·
    simp at hc1
  ·
    (try simp only [decide_eq_true_eq, decide_eq_false_iff_not, Bool.and_eq_true, Bool.or_eq_true, Bool.and_eq_false_iff, Bool.or_eq_false_iff, Bool.not_eq_true', Bool.not_eq_false', Bool.not_true, Bool.not_false, bif_and, bif_or, Bool.not_not, ne_eq, Decidable.not_not, not_true_eq_false, not_false_eq_true, Int.not_le, Int.not_lt] at hc1)
    refine awp_skip ?_
    change Awp _ _ _ _ _
    refine awp_seq ?_
    refine awp_seq ?_
    refine awp_region 3 mixed (by kernel_rfl) ?_
    refine rg_q (q_loadA sz32 rfl rfl rfl) ?_
    refine rg_q (q_call en10 (.cons rfl .nil) rfl (slight_p _)) ?_
    refine rg_q (q_not rfl) ?_
    refine rg_nil ?_
    refine aops_nil ?_
    change Awp _ _ _ _ _
    refine awp_cond rfl (fun hc3 => ?_) (fun hc3 => ?_)
    ·
      (try simp only [decide_eq_true_eq, decide_eq_false_iff_not, Bool.and_eq_true, Bool.or_eq_true, Bool.and_eq_false_iff, Bool.or_eq_false_iff, Bool.not_eq_true', Bool.not_eq_false', Bool.not_true, Bool.not_false, bif_and, bif_or, Bool.not_not, ne_eq, Decidable.not_not, not_true_eq_false, not_false_eq_true, Int.not_le, Int.not_lt] at hc3)
      refine awp_seq ?_
      refine awp_region 1 mixed (by kernel_rfl) ?_
      refine rg_q (q_assign (x := .d (.v _)) rfl) ?_
      refine rg_nil ?_
      refine aops_nil ?_
      change Awp _ _ _ _ _
      refine awp_ret ?_
      refine ⟨_, (.cons (.tmp (by exact .d _)) .nil), ?_⟩
      rfl
    ·
      (try simp only [decide_eq_true_eq, decide_eq_false_iff_not, Bool.and_eq_true, Bool.or_eq_true, Bool.and_eq_false_iff, Bool.or_eq_false_iff, Bool.not_eq_true', Bool.not_eq_false', Bool.not_true, Bool.not_false, bif_and, bif_or, Bool.not_not, ne_eq, Decidable.not_not, not_true_eq_false, not_false_eq_true, Int.not_le, Int.not_lt] at hc3)
      have hfw : sliB s = true := by simpa using hc3
      obtain ⟨l1, l2, l3⟩ := sli_le hfw
      refine awp_skip ?_
      change Awp _ _ _ _ _
      refine awp_seq ?_
      refine awp_region 6 mixed (by kernel_rfl) ?_
      refine rg_q (q_loadA sz32 rfl rfl rfl) ?_
      refine rg_q (q_call en12 (.cons rfl .nil) rfl (copySpc_p s (by omega) (by omega) (by omega))) ?_
      refine rg_q (q_call en20 (.cons rfl .nil) rfl (matrix_p s)) ?_
      refine rg_q (q_move (x := .d (.tup _)) rfl) ?_
      refine rg_q (q_extract rfl rfl) ?_
      refine rg_q (q_extract rfl rfl) ?_
      refine rg_nil ?_
      refine aops_alloc zr59 rfl rfl rfl ?_
      refine aops_store sz59 rfl rfl (by exact .inr ⟨_, rfl⟩) rfl rfl (by decide) rfl ?_
      refine aops_q rfl (q_assign (x := .d (.v _)) rfl) ?_
      refine aops_nil ?_
      change Awp _ _ _ _ _
      refine awp_seq ?_
      refine awp_region 3 mixed (by kernel_rfl) ?_
      refine rg_q (q_loadA sz32 rfl rfl rfl) ?_
      refine rg_q (q_call en13 (.cons rfl .nil) rfl (specimenErr_p _)) ?_
      refine rg_q (q_assign (x := .d (.v _)) rfl) ?_
      refine rg_nil ?_
      refine aops_nil ?_
      change Awp _ _ _ _ _
      refine awp_seq ?_
      refine awp_region 0 mixed (by kernel_rfl) ?_
      refine rg_nil ?_
      refine aops_alloc zr59 rfl rfl rfl ?_
      refine aops_nil ?_
      change Awp _ _ _ _ _
      refine Awp.le (le_upB 6 (mxC (0, [])) rfl (.cons (.same _) (.cons (.nil 1) .nil))) ?_
      refine awp_seq ?_
      refine awp_seq ?_
      refine awp_region 2 mixed (by kernel_rfl) ?_
      refine rg_q (q_move (x := .d (.v _)) rfl) ?_
      refine rg_q (q_eql rfl rfl) ?_
      refine rg_nil ?_
      refine aops_nil ?_
      change Awp _ _ _ _ _
      refine awp_cond rfl (fun hc8 => ?_) (fun hc8 => ?_)
      ·
        (try simp only [decide_eq_true_eq, decide_eq_false_iff_not, Bool.and_eq_true, Bool.or_eq_true, Bool.and_eq_false_iff, Bool.or_eq_false_iff, Bool.not_eq_true', Bool.not_eq_false', Bool.not_true, Bool.not_false, bif_and, bif_or, Bool.not_not, ne_eq, Decidable.not_not, not_true_eq_false, not_false_eq_true, Int.not_le, Int.not_lt] at hc8)
        have h0 : (ckSpc s).2 = 0 := hc8
        refine awp_region 5 mixed (by kernel_rfl) ?_
        refine rg_q (q_loadA sz32 rfl rfl rfl) ?_
        refine rg_q (q_call en21 (.cons rfl .nil) rfl (rmatrix_p s h0)) ?_
        refine rg_q (q_move (x := .d (.tup _)) rfl) ?_
        refine rg_q (q_extract rfl rfl) ?_
        refine rg_q (q_extract rfl rfl) ?_
        refine rg_nil ?_
        refine aops_store sz59 rfl rfl (by exact .inr ⟨_, rfl⟩) rfl rfl (by decide) rfl ?_
        refine aops_q rfl (q_assign (x := .d (.v _)) rfl) ?_
        refine aops_nil ?_
        change Awp _ _ _ _ _
        refine awp_seq ?_
        refine awp_seq ?_
        refine awp_region 9 mixed (by kernel_rfl) ?_
        refine rg_q (q_move (x := .d (.v _)) rfl) ?_
        refine rg_q (q_move (x := .d (.v _)) rfl) ?_
        refine rg_q (q_neq rfl rfl) ?_
        refine rg_q (q_move (x := .d (.v _)) rfl) ?_
        refine rg_g rfl rfl (fun hG => (q_load_refA (ds := [_, _]) sz59 rfl rfl rfl rfl)) ?_
        refine rg_g rfl rfl (fun hG => (q_load_refA (ds := [_, _]) sz59 rfl rfl rfl rfl)) ?_
        refine rg_g rfl rfl (fun hG => (q_call en22 (.cons rfl (.cons rfl .nil)) rfl (sameMatrix_p _ _))) ?_
        refine rg_g rfl rfl (fun hG => (q_not rfl)) ?_
        refine rg_pick rfl rfl rfl rfl rfl rfl ?_
        refine rg_nil ?_
        refine aops_nil ?_
        change Awp _ _ _ _ _
        refine awp_cond rfl (fun hc10 => ?_) (fun hc10 => ?_)
        ·
          simp at hc10
        ·
          (try simp only [decide_eq_true_eq, decide_eq_false_iff_not, Bool.and_eq_true, Bool.or_eq_true, Bool.and_eq_false_iff, Bool.or_eq_false_iff, Bool.not_eq_true', Bool.not_eq_false', Bool.not_true, Bool.not_false, bif_and, bif_or, Bool.not_not, ne_eq, Decidable.not_not, not_true_eq_false, not_false_eq_true, Int.not_le, Int.not_lt] at hc10)
          refine awp_skip ?_
          change Awp _ _ _ _ _
          refine awp_seq ?_
          refine awp_region 18 mixed (by kernel_rfl) ?_
          refine rg_q (q_move (x := .d (.v _)) rfl) ?_
          refine rg_q (q_neq rfl rfl) ?_
          refine rg_q (q_move (x := .d (.v _)) rfl) ?_
          refine rg_g rfl rfl (fun hG => (q_fieldAddr fld32_0 rfl)) ?_
          refine rg_g rfl rfl (fun hG => (q_fieldAddr fld28_1 rfl)) ?_
          refine rg_g rfl rfl (fun hG => (q_loadA (ds := [_, _, _, _]) sz24 rfl rfl rfl)) ?_
          refine rg_g rfl rfl (fun hG => (q_fieldAddr fld32_0 rfl)) ?_
          refine rg_g rfl rfl (fun hG => (q_fieldAddr fld28_2 rfl)) ?_
          refine rg_g rfl rfl (fun hG => (q_loadA (ds := [_, _, _, _]) sz24 rfl rfl rfl)) ?_
          refine rg_g rfl rfl (fun hG => (q_neqI (xs := [_, _, _, _]) (ys := [_, _, _, _]) eqi24 rfl rfl rfl rfl)) ?_
          refine rg_pick rfl rfl rfl rfl rfl rfl ?_
          refine rg_q (q_move (x := .d (.v _)) rfl) ?_
          refine rg_g rfl rfl (fun hG => (q_load_refA (ds := [_, _]) sz59 rfl rfl rfl rfl)) ?_
          refine rg_g rfl rfl (fun hG => (q_call en23 (.cons rfl .nil) rfl (transposedR_p s (by have hg0 := T.bool_inj (a := _) hG.1; simp at hg0; exact hg0.1) (by have hg0 := T.bool_inj (a := _) hG.1; simp at hg0; exact md_ext hg0.2)))) ?_
          refine rg_g rfl rfl (fun hG => (q_load_refA (ds := [_, _]) sz59 rfl rfl rfl rfl)) ?_
          refine rg_g rfl rfl (fun hG => (q_call en22 (.cons rfl (.cons rfl .nil)) rfl (sameMatrix_p _ _))) ?_
          refine rg_pick rfl rfl rfl rfl rfl rfl ?_
          refine rg_q (q_assign (x := .d (.v _)) rfl) ?_
          refine rg_nil ?_
          refine aops_nil ?_
          change Awp _ _ _ _ _
          refine awp_ret ?_
          refine ⟨_, (.cons (.tmp (by exact .d _)) .nil), ?_⟩
          (simp [retD]; done)
      ·
        (try simp only [decide_eq_true_eq, decide_eq_false_iff_not, Bool.and_eq_true, Bool.or_eq_true, Bool.and_eq_false_iff, Bool.or_eq_false_iff, Bool.not_eq_true', Bool.not_eq_false', Bool.not_true, Bool.not_false, bif_and, bif_or, Bool.not_not, ne_eq, Decidable.not_not, not_true_eq_false, not_false_eq_true, Int.not_le, Int.not_lt] at hc8)
        have h0 : (ckSpc s).2 ≠ 0 := hc8
        have hz : mxR s = ((0, []), (ckSpc s).2) := by unfold mxR; rw [if_pos h0]
        rw [show mxC (0, []) = mxC (mxR s).1 from by rw [hz], show (ckSpc s).2 = (mxR s).2 from by rw [hz]]
        refine awp_skip ?_
        change Awp _ _ _ _ _
        refine awp_seq ?_
        refine awp_seq ?_
        refine awp_region 9 mixed (by kernel_rfl) ?_
        refine rg_q (q_move (x := .d (.v _)) rfl) ?_
        refine rg_q (q_move (x := .d (.v _)) rfl) ?_
        refine rg_q (q_neq rfl rfl) ?_
        refine rg_q (q_move (x := .d (.v _)) rfl) ?_
        refine rg_g rfl rfl (fun hG => (q_load_refA (ds := [_, _]) sz59 rfl rfl rfl rfl)) ?_
        refine rg_g rfl rfl (fun hG => (q_load_refA (ds := [_, _]) sz59 rfl rfl rfl rfl)) ?_
        refine rg_g rfl rfl (fun hG => (q_call en22 (.cons rfl (.cons rfl .nil)) rfl (sameMatrix_p _ _))) ?_
        refine rg_g rfl rfl (fun hG => (q_not rfl)) ?_
        refine rg_pick rfl rfl rfl rfl rfl rfl ?_
        refine rg_nil ?_
        refine aops_nil ?_
        change Awp _ _ _ _ _
        refine awp_cond rfl (fun hc10 => ?_) (fun hc10 => ?_)
        ·
          simp at hc10
        ·
          (try simp only [decide_eq_true_eq, decide_eq_false_iff_not, Bool.and_eq_true, Bool.or_eq_true, Bool.and_eq_false_iff, Bool.or_eq_false_iff, Bool.not_eq_true', Bool.not_eq_false', Bool.not_true, Bool.not_false, bif_and, bif_or, Bool.not_not, ne_eq, Decidable.not_not, not_true_eq_false, not_false_eq_true, Int.not_le, Int.not_lt] at hc10)
          refine awp_skip ?_
          change Awp _ _ _ _ _
          refine awp_seq ?_
          refine awp_region 18 mixed (by kernel_rfl) ?_
          refine rg_q (q_move (x := .d (.v _)) rfl) ?_
          refine rg_q (q_neq rfl rfl) ?_
          refine rg_q (q_move (x := .d (.v _)) rfl) ?_
          refine rg_g rfl rfl (fun hG => (q_fieldAddr fld32_0 rfl)) ?_
          refine rg_g rfl rfl (fun hG => (q_fieldAddr fld28_1 rfl)) ?_
          refine rg_g rfl rfl (fun hG => (q_loadA (ds := [_, _, _, _]) sz24 rfl rfl rfl)) ?_
          refine rg_g rfl rfl (fun hG => (q_fieldAddr fld32_0 rfl)) ?_
          refine rg_g rfl rfl (fun hG => (q_fieldAddr fld28_2 rfl)) ?_
          refine rg_g rfl rfl (fun hG => (q_loadA (ds := [_, _, _, _]) sz24 rfl rfl rfl)) ?_
          refine rg_g rfl rfl (fun hG => (q_neqI (xs := [_, _, _, _]) (ys := [_, _, _, _]) eqi24 rfl rfl rfl rfl)) ?_
          refine rg_pick rfl rfl rfl rfl rfl rfl ?_
          refine rg_q (q_move (x := .d (.v _)) rfl) ?_
          refine rg_g rfl rfl (fun hG => (q_load_refA (ds := [_, _]) sz59 rfl rfl rfl rfl)) ?_
          refine rg_g rfl rfl (fun hG => (q_call en23 (.cons rfl .nil) rfl (transposedR_p s (by have hg0 := T.bool_inj (a := _) hG.1; simp at hg0; exact hg0.1) (by have hg0 := T.bool_inj (a := _) hG.1; simp at hg0; exact md_ext hg0.2)))) ?_
          refine rg_g rfl rfl (fun hG => (q_load_refA (ds := [_, _]) sz59 rfl rfl rfl rfl)) ?_
          refine rg_g rfl rfl (fun hG => (q_call en22 (.cons rfl (.cons rfl .nil)) rfl (sameMatrix_p _ _))) ?_
          refine rg_pick rfl rfl rfl rfl rfl rfl ?_
          refine rg_q (q_assign (x := .d (.v _)) rfl) ?_
          refine rg_nil ?_
          refine aops_nil ?_
          change Awp _ _ _ _ _
          refine awp_ret ?_
          refine ⟨_, (.cons (.tmp (by exact .d _)) .nil), ?_⟩
          (simp [retD]; done)
end Go.Proofs.YtblbnagdhcpnoaaGreat.Am.M
