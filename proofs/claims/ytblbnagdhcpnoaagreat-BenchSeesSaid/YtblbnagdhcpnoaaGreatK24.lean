/- Contracts over the abstract machine: pairs of an array; BenchSees. Conditions: none. -/
import Derived.Test.YtblbnagdhcpnoaaGreatK23
set_option linter.unusedVariables false
set_option linter.unusedSimpArgs false
-- mini
namespace Go.Proofs.YtblbnagdhcpnoaaGreat.Am.M
open Go

def prR (i j : Nat) : List (Int × Int) := (List.range j).map fun r : Nat => ((i : Int), (r : Int))
def prF (n i : Nat) : List (Int × Int) := (List.range i).flatMap fun f => prR f n
/-- All pairs, by firings, then by receivers. -/
def prL (n : Nat) : List (Int × Int) := prF n n
def encP (p : Int × Int) : List D := [.agg (shC p)]
theorem prR_succ (i j : Nat) : prR i (j + 1) = prR i j ++ [((i : Int), (j : Int))] := by unfold prR; rw [List.range_succ, List.map_append]; rfl
theorem prF_succ (n i : Nat) : prF n (i + 1) = prF n i ++ prR i n := by unfold prF; rw [List.range_succ, List.flatMap_append]; simp
theorem prR_pre (i : Nat) {j : Nat} : ∀ {k : Nat}, j ≤ k → prR i j <+: prR i k
  | 0, h => by have : j = 0 := by omega
               subst this; exact List.prefix_rfl
  | k + 1, h => by
    by_cases e : j = k + 1
    · subst e; exact List.prefix_rfl
    · rw [prR_succ]; exact (prR_pre i (show j ≤ k by omega)).trans (List.prefix_append _ _)
theorem prF_pre (n : Nat) {j : Nat} : ∀ {k : Nat}, j ≤ k → prF n j <+: prF n k
  | 0, h => by have : j = 0 := by omega
               subst this; exact List.prefix_rfl
  | k + 1, h => by
    by_cases e : j = k + 1
    · subst e; exact List.prefix_rfl
    · rw [prF_succ]; exact (prF_pre n (show j ≤ k by omega)).trans (List.prefix_append _ _)
theorem pr_pre {n i j : Nat} (hi : i < n) (hj : j ≤ n) : prF n i ++ prR i j <+: prL n := by
  have h1 : prF n (i + 1) <+: prL n := prF_pre n (by omega)
  rw [prF_succ] at h1
  exact ((List.prefix_append_right_inj _).2 (prR_pre i hj)).trans h1
theorem prL_in {n : Nat} {p : Int × Int} (h : p ∈ prL n) : (0 ≤ p.1 ∧ p.1 < n) ∧ 0 ≤ p.2 ∧ p.2 < n := by
  unfold prL prF at h
  obtain ⟨i, hi, h⟩ := List.mem_flatMap.1 h
  unfold prR at h
  obtain ⟨j, hj, rfl⟩ := List.mem_map.1 h
  have := List.mem_range.1 hi
  have := List.mem_range.1 hj
  simp only; omega
theorem prF_len (n : Nat) : ∀ i : Nat, (prF n i).length = i * n
  | 0 => by simp [prF]
  | i + 1 => by rw [prF_succ, List.length_append, prF_len n i]; unfold prR; rw [List.length_map, List.length_range, Nat.succ_mul]
theorem prL_len {n : Nat} (h : n ≤ 16) : (prL n).length ≤ 256 := by
  unfold prL; rw [prF_len]
  have := Nat.mul_le_mul h h
  omega
set_option maxRecDepth 100000 in
theorem pairs_i (a : Arr) : PI Tryz.prog 56 [.agg (arrC a)] [] (encP) (prL a.el.length) true := by
  refine pi_of_iwp Tryz.func56 rfl Tryz.ntmps56 rfl rfl fun J c l0 hJ hy hdat hfin => ?_
  refine iwp_seq ?_
  apply iwp_reg hJ
  ·
    intro c1 hmine hrnd
    refine awp_region 1 mixed (by kernel_rfl) ?_
    refine rg_q (q_box rfl (by exact .inr ⟨_, rfl⟩)) ?_
    refine rg_nil ?_
    refine aops_nil ?_
    exact ⟨rfl, rfl⟩
  change Iwp _ _ _ _ _ _ _
  refine iwp_seq ?_
  apply iwp_reg hJ
  ·
    intro c1 hmine hrnd
    refine awp_region 5 mixed (by kernel_rfl) ?_
    refine rg_q (q_fieldAddr fld100_0 rfl) ?_
    refine rg_q (q_fieldAddr fld28_0 rfl) ?_
    refine rg_q (q_load sz22 rfl rfl) ?_
    refine rg_q (q_len isl22 rfl (by exact len_map _ _)) ?_
    refine rg_q (q_move (x := .d (.v _)) rfl) ?_
    refine rg_nil ?_
    refine aops_nil ?_
    exact ⟨rfl, rfl⟩
  change Iwp _ _ _ _ _ _ _
  refine iwp_len (t := 8) rfl (fun hl8 => ?_)
  (try simp only [List.length_map] at hl8)
  refine iwp_block ?_
  refine iwp_loopH [4, 5, 10, 11, 12, 13, 14, 15, 16, 17, 18, 19, 20, 21, 22, 23, 24, 25, 26, 27] [] (β := Nat) (fun i => [(10, T.i (i : Int))]) (fun i => []) (fun i => (true, prF a.el.length i)) (fun i => i ≤ a.el.length) (fun i => a.el.length - i) 0 (Nat.zero_le _) rfl (fun c1 => ?_) ?_
  · exact le_head (ms := []) (by repeat (exact Out.refl _)) ⟨(by rfl), trivial⟩ trivial rfl rfl rfl rfl
  ·
    intro i hi
    refine iwp_seq ?_
    apply iwp_reg hJ
    ·
      intro c1 hmine hrnd
      refine awp_region 1 mixed (by kernel_rfl) ?_
      refine rg_q (q_lss rfl rfl) ?_
      refine rg_nil ?_
      refine aops_nil ?_
      exact ⟨rfl, rfl⟩
    change Iwp _ _ _ _ _ _ _
    refine iwp_seq ?_
    refine iwp_cond rfl (fun hc2 => ?_) (fun hc2 => ?_)
    ·
      (try simp only [decide_eq_true_eq, decide_eq_false_iff_not, Bool.and_eq_true, Bool.or_eq_true, Bool.and_eq_false_iff, Bool.or_eq_false_iff, Bool.not_eq_true', Bool.not_eq_false', Bool.not_true, Bool.not_false, bif_and, bif_or, Bool.not_not, ne_eq, Decidable.not_not, not_true_eq_false, not_false_eq_true, Int.not_le, Int.not_lt] at hc2)
      have hlt : i < a.el.length := by omega
      refine iwp_skip ?_
      change Iwp _ _ _ _ _ _ _
      refine iwp_seq ?_
      refine iwp_block ?_
      refine iwp_seq ?_
      apply iwp_reg hJ
      ·
        intro c1 hmine hrnd
        refine awp_region 2 mixed (by kernel_rfl) ?_
        refine rg_q (q_move (x := .d (.v _)) rfl) ?_
        refine rg_q (q_assign (x := .d (.v _)) rfl) ?_
        refine rg_nil ?_
        refine aops_nil ?_
        exact ⟨rfl, rfl⟩
      change Iwp _ _ _ _ _ _ _
      refine iwp_seq ?_
      apply iwp_reg hJ
      ·
        intro c1 hmine hrnd
        refine awp_region 5 mixed (by kernel_rfl) ?_
        refine rg_q (q_fieldAddr fld100_0 rfl) ?_
        refine rg_q (q_fieldAddr fld28_0 rfl) ?_
        refine rg_q (q_load sz22 rfl rfl) ?_
        refine rg_q (q_len isl22 rfl (by exact len_map _ _)) ?_
        refine rg_q (q_move (x := .d (.v _)) rfl) ?_
        refine rg_nil ?_
        refine aops_nil ?_
        exact ⟨rfl, rfl⟩
      change Iwp _ _ _ _ _ _ _
      refine iwp_len (t := 15) rfl (fun hl15 => ?_)
      (try simp only [List.length_map] at hl15)
      refine iwp_block ?_
      refine iwp_loopH [5, 17, 18, 19, 20, 21, 22, 23, 24, 25, 26] [] (β := Nat) (fun j => [(17, T.i (j : Int))]) (fun j => []) (fun j => (true, prF a.el.length i ++ prR i j)) (fun j => j ≤ a.el.length) (fun j => a.el.length - j) 0 (Nat.zero_le _) (by show (true, _ ++ prR i 0) = (true, _); simp [prR]) (fun c1 => ?_) ?_
      · exact le_head (ms := []) (by repeat (exact Out.refl _)) ⟨(by rfl), trivial⟩ trivial rfl rfl rfl rfl
      ·
        intro j hj
        refine iwp_seq ?_
        apply iwp_reg hJ
        ·
          intro c1 hmine hrnd
          refine awp_region 1 mixed (by kernel_rfl) ?_
          refine rg_q (q_lss rfl rfl) ?_
          refine rg_nil ?_
          refine aops_nil ?_
          exact ⟨rfl, rfl⟩
        change Iwp _ _ _ _ _ _ _
        refine iwp_seq ?_
        refine iwp_cond rfl (fun hc5 => ?_) (fun hc5 => ?_)
        ·
          (try simp only [decide_eq_true_eq, decide_eq_false_iff_not, Bool.and_eq_true, Bool.or_eq_true, Bool.and_eq_false_iff, Bool.or_eq_false_iff, Bool.not_eq_true', Bool.not_eq_false', Bool.not_true, Bool.not_false, bif_and, bif_or, Bool.not_not, ne_eq, Decidable.not_not, not_true_eq_false, not_false_eq_true, Int.not_le, Int.not_lt] at hc5)
          have hlj : j < a.el.length := by omega
          have hpre : prF a.el.length i ++ prR i j ++ [((i : Int), (j : Int))] <+: prL a.el.length := by rw [List.append_assoc, ← prR_succ]; exact pr_pre hlt (by omega)
          refine iwp_skip ?_
          change Iwp _ _ _ _ _ _ _
          refine iwp_seq ?_
          refine iwp_block ?_
          refine iwp_seq ?_
          apply iwp_reg hJ
          ·
            intro c1 hmine hrnd
            refine awp_region 2 mixed (by kernel_rfl) ?_
            refine rg_q (q_move (x := .d (.v _)) rfl) ?_
            refine rg_q (q_assign (x := .d (.v _)) rfl) ?_
            refine rg_nil ?_
            refine aops_nil ?_
            exact ⟨rfl, rfl⟩
          change Iwp _ _ _ _ _ _ _
          refine iwp_seq ?_
          refine iwp_region ?_
          refine iops_of hJ rfl (fun c1 _ _ _ h => by exact aops_q rfl ((q_move (x := .d (.fn _ _)) rfl)) h) ?_
          refine iops_of hJ rfl (fun c1 _ _ _ h => by exact aops_q rfl ((q_move (x := .d (.v _)) rfl)) h) ?_
          refine iops_of hJ rfl (fun c1 _ _ _ h => by exact aops_q rfl ((q_move (x := .d (.v _)) rfl)) h) ?_
          refine iops_of hJ rfl (fun c1 _ _ _ h => by exact aops_q rfl ((q_buildA (cs := [_, _]) ar33 zr33 rfl (.cons rfl (by exact .inl rfl) (.cons rfl (by exact .inl rfl) .nil)) ⟨⟨rfl, by decide⟩, ⟨rfl, by decide⟩, trivial⟩ rfl)) h) ?_
          refine iops_yield (x := ((i : Int), (j : Int))) hy hdat rfl (.cons rfl .nil) hpre rfl (fun yb => ?_)
          refine iops_of hJ rfl (fun c1 _ _ _ h => by exact aops_q rfl ((q_not rfl)) h) ?_
          refine iops_nil ?_
          change Iwp _ _ _ _ _ _ _
          refine iwp_cond rfl (fun hc7 => ?_) (fun hc7 => ?_)
          ·
            (try simp only [decide_eq_true_eq, decide_eq_false_iff_not, Bool.and_eq_true, Bool.or_eq_true, Bool.and_eq_false_iff, Bool.or_eq_false_iff, Bool.not_eq_true', Bool.not_eq_false', Bool.not_true, Bool.not_false, bif_and, bif_or, Bool.not_not, ne_eq, Decidable.not_not, not_true_eq_false, not_false_eq_true, Int.not_le, Int.not_lt] at hc7)
            have hyb : yb = false := by cases yb <;> first | rfl | (exfalso; simp_all; done)
            refine iwp_ret ?_
            exact ⟨.inl rfl, fun h => by rw [hyb] at h; cases h⟩
          ·
            (try simp only [decide_eq_true_eq, decide_eq_false_iff_not, Bool.and_eq_true, Bool.or_eq_true, Bool.and_eq_false_iff, Bool.or_eq_false_iff, Bool.not_eq_true', Bool.not_eq_false', Bool.not_true, Bool.not_false, bif_and, bif_or, Bool.not_not, ne_eq, Decidable.not_not, not_true_eq_false, not_false_eq_true, Int.not_le, Int.not_lt] at hc7)
            have hyb : yb = true := by cases yb <;> first | rfl | (exfalso; simp_all; done)
            refine iwp_skip ?_
            change Iwp _ _ _ _ _ _ _
            apply iwp_reg hJ
            ·
              intro c1 hmine hrnd
              refine awp_region 2 mixed (by kernel_rfl) ?_
              refine rg_q (q_add rfl rfl (In64.mk (by omega) (by omega))) ?_
              refine rg_q (q_move (x := .d (.v _)) rfl) ?_
              refine rg_nil ?_
              refine aops_nil ?_
              exact ⟨rfl, rfl⟩
            refine ⟨j + 1, by omega, by omega, by rw [hyb, prR_succ, List.append_assoc], fun c1 => ?_⟩
            exact le_head (ms := []) (by repeat (first | exact Out.head rfl rfl | (refine Out.put ?_ rfl))) ⟨(by rfl), trivial⟩ trivial rfl rfl rfl rfl
        ·
          (try simp only [decide_eq_true_eq, decide_eq_false_iff_not, Bool.and_eq_true, Bool.or_eq_true, Bool.and_eq_false_iff, Bool.or_eq_false_iff, Bool.not_eq_true', Bool.not_eq_false', Bool.not_true, Bool.not_false, bif_and, bif_or, Bool.not_not, ne_eq, Decidable.not_not, not_true_eq_false, not_false_eq_true, Int.not_le, Int.not_lt] at hc5)
          have hjn : j = a.el.length := by omega
          refine iwp_exit ?_
          change Iwp _ _ _ _ _ _ _
          apply iwp_reg hJ
          ·
            intro c1 hmine hrnd
            refine awp_region 2 mixed (by kernel_rfl) ?_
            refine rg_q (q_add rfl rfl (In64.mk (by omega) (by omega))) ?_
            refine rg_q (q_move (x := .d (.v _)) rfl) ?_
            refine rg_nil ?_
            refine aops_nil ?_
            exact ⟨rfl, rfl⟩
          refine ⟨i + 1, by omega, by omega, by rw [hjn, prF_succ], fun c1 => ?_⟩
          exact le_head (ms := []) (by repeat (first | exact Out.head rfl rfl | (refine Out.put ?_ rfl) | (refine Out.headIn ?_ rfl rfl rfl))) ⟨(by rfl), trivial⟩ trivial rfl rfl rfl rfl
    ·
      (try simp only [decide_eq_true_eq, decide_eq_false_iff_not, Bool.and_eq_true, Bool.or_eq_true, Bool.and_eq_false_iff, Bool.or_eq_false_iff, Bool.not_eq_true', Bool.not_eq_false', Bool.not_true, Bool.not_false, bif_and, bif_or, Bool.not_not, ne_eq, Decidable.not_not, not_true_eq_false, not_false_eq_true, Int.not_le, Int.not_lt] at hc2)
      have hin : i = a.el.length := by omega
      refine iwp_exit ?_
      exact ⟨.inr rfl, fun _ => by rw [hin]; rfl⟩

def seeB (s : Spc) (t : Int × Int) (p : Int × Int) : Bool := inR 0 (smpI s.ar t p) (64 - (s.pl.length : Int))
def seeL (s : Spc) (t : Int × Int) : List (Int × Int) := (prL s.ar.el.length).filter (seeB s t)
def seeE (s : Spc) (t : Int × Int) : Int := if (ckSpc s).2 ≠ 0 then (ckSpc s).2 else firstE [spotE t, plateE t.2 s.ar.ou.t]
def seeR (s : Spc) (t : Int × Int) : List (Int × Int) × Int := if seeE s t ≠ 0 then ([], seeE s t) else (seeL s t, 0)
theorem filt_step {s : Spc} {t : Int × Int} {l : List (Int × Int)} {k : Nat} {y : Int × Int} (hy : l[k]? = some y) : (l.take (k + 1)).filter (seeB s t) = (l.take k).filter (seeB s t) ++ (if seeB s t y = true then [y] else []) := by
  rw [List.take_succ_eq_append_getElem (List.getElem?_eq_some_iff.1 hy).1, (List.getElem?_eq_some_iff.1 hy).2, List.filter_append]
  congr 1
  by_cases h : seeB s t y = true
  · rw [if_pos h, List.filter_cons_of_pos h]; rfl
  · rw [if_neg h, List.filter_cons_of_neg h]; rfl
theorem filt_le {s : Spc} {t : Int × Int} {n k : Nat} (hn : n ≤ 16) : (((prL n).take k).filter (seeB s t)).length ≤ 256 := by
  have h1 := List.length_filter_le (seeB s t) ((prL n).take k)
  have h2 := prL_len hn
  rw [List.length_take] at h1
  omega
theorem first3 (a b c : Int) : firstE [a, b, c] = if a ≠ 0 then a else firstE [b, c] := by
  unfold firstE
  by_cases h : a = 0
  · rw [if_pos h, if_neg (fun q => q h)]; rfl
  · rw [if_neg h, if_pos h]
set_option maxRecDepth 100000 in
theorem plateErrW_p (p : Int × Int) (t : Int) : PC Tryz.prog 55 [.agg (shC p), .v (.int .i64 (t))] (.v (.int .i64 (mustI (inR 1 p.2 (IntKind.i64.wrap (t - 1))) 22))) := by
  refine pc_of_awp Tryz.func55 rfl Tryz.ntmps55 (rs := [.tmp 4]) Tryz.results55 (by simp) fun w0 => ?_
  refine awp_seq ?_
  refine awp_region 2 mixed (by kernel_rfl) ?_
  refine rg_q (q_box rfl (by exact .inr ⟨_, rfl⟩)) ?_
  refine rg_q (q_assign (x := .d (.v _)) rfl) ?_
  refine rg_nil ?_
  refine aops_nil ?_
  change Awp _ _ _ _ _
  refine awp_seq ?_
  refine awp_region 8 mixed (by kernel_rfl) ?_
  refine rg_q (q_fieldAddr fld50_1 rfl) ?_
  refine rg_q (q_load sz3 rfl rfl) ?_
  refine rg_q (q_move (x := .d (.v _)) rfl) ?_
  refine rg_q (q_subw rfl rfl) ?_
  refine rg_q (q_call en57 (.cons rfl (.cons rfl (.cons rfl .nil))) rfl (bwithin_p _ _ _)) ?_
  refine rg_q (q_not rfl) ?_
  refine rg_q (q_call en83 (.cons rfl (.cons rfl .nil)) rfl (when_p _ _)) ?_
  refine rg_q (q_assign (x := .d (.v _)) rfl) ?_
  refine rg_nil ?_
  refine aops_nil ?_
  change Awp _ _ _ _ _
  refine awp_ret ?_
  refine ⟨_, (.cons (.tmp (by exact .d _)) .nil), ?_⟩
  rw [← when_must]; rfl
set_option maxRecDepth 100000 in
theorem seenBad_p (s : Spc) (t : Int × Int) (h0 : (ckSpc s).2 ≠ 0) : PC Tryz.prog 17 [.agg (spcC s), .agg (shC t)] (.tup [.sl 2 ((seeR s t).1.map shC), .v (.int .i64 ((seeR s t).2))]) := by
  have hos : osR s = (zOp, (ckSpc s).2) := by unfold osR; rw [if_pos h0]
  have hse : seeE s t = (ckSpc s).2 := by unfold seeE; rw [if_pos h0]
  have hz : seeR s t = ([], (ckSpc s).2) := by unfold seeR; rw [hse, if_pos h0]
  have hfe : ∀ b c : Int, firstE [(ckSpc s).2, b, c] = (ckSpc s).2 := fun b c => by rw [first3, if_pos h0]
  refine pc_of_awp Tryz.func17 rfl Tryz.ntmps17 (rs := [.tmp 4, .tmp 5]) Tryz.results17 (by simp) fun w0 => ?_
  refine awp_seq ?_
  refine awp_region 4 mixed (by kernel_rfl) ?_
  refine rg_q (q_box rfl (by exact .inr ⟨_, rfl⟩)) ?_
  refine rg_q (q_box rfl (by exact .inr ⟨_, rfl⟩)) ?_
  refine rg_q (q_assign_nil) ?_
  refine rg_q (q_assign (x := .d (.v _)) rfl) ?_
  refine rg_nil ?_
  refine aops_nil ?_
  change Awp _ _ _ _ _
  refine awp_seq ?_
  refine awp_region 5 mixed (by kernel_rfl) ?_
  refine rg_q (q_loadA sz32 rfl rfl rfl) ?_
  refine rg_q (q_call en44 (.cons rfl .nil) rfl ((by have h := openSpecimen_p s; rw [hos] at h; exact h))) ?_
  refine rg_q (q_move (x := .d (.tup _)) rfl) ?_
  refine rg_q (q_extract rfl rfl) ?_
  refine rg_q (q_extract rfl rfl) ?_
  refine rg_nil ?_
  refine aops_alloc zr102 rfl rfl rfl ?_
  refine aops_store sz102 rfl rfl (by exact .inr ⟨_, rfl⟩) rfl rfl (by decide) rfl ?_
  refine aops_q rfl (q_assign (x := .d (.v _)) rfl) ?_
  refine aops_nil ?_
  change Awp _ _ _ _ _
  refine awp_seq ?_
  refine awp_seq ?_
  refine awp_region 12 mixed (by kernel_rfl) ?_
  refine rg_q (q_move (x := .d (.v _)) rfl) ?_
  refine rg_q (q_loadA (ds := [_, _]) sz50 rfl rfl rfl) ?_
  refine rg_q (q_call en54 (.cons rfl .nil) rfl (bspotErr_p _)) ?_
  refine rg_q (q_loadA (ds := [_, _]) sz50 rfl rfl rfl) ?_
  refine rg_q (q_fieldAddr fld32_0 rfl) ?_
  refine rg_q (q_fieldAddr fld28_1 rfl) ?_
  refine rg_q (q_fieldAddr fld24_3 rfl) ?_
  refine rg_q (q_load sz3 rfl rfl) ?_
  refine rg_q (q_call en55 (.cons rfl (.cons rfl .nil)) rfl (plateErrW_p t s.ar.ou.t)) ?_
  refine rg_q (q_buildSlice sl146 zr39 rfl rfl (by decide) (.cons rfl (by exact .inl rfl) (.cons rfl (by exact .inl rfl) (.cons rfl (by exact .inl rfl) .nil))) ⟨rfl, rfl, rfl, rfl, rfl, rfl, trivial⟩ rfl (by decide) rfl) ?_
  refine rg_q (q_call en45 (.cons rfl .nil) rfl (bfirst_p [_, _, _])) ?_
  refine rg_q (q_assign (x := .d (.v _)) rfl) ?_
  refine rg_nil ?_
  refine aops_nil ?_
  change Awp _ _ _ _ _
  refine awp_seq ?_
  refine awp_region 2 mixed (by kernel_rfl) ?_
  refine rg_q (q_move (x := .d (.v _)) rfl) ?_
  refine rg_q (q_neq rfl rfl) ?_
  refine rg_nil ?_
  refine aops_nil ?_
  change Awp _ _ _ _ _
  refine awp_cond rfl (fun hc3 => ?_) (fun hc3 => ?_)
  ·
    (try simp only [decide_eq_true_eq, decide_eq_false_iff_not, Bool.and_eq_true, Bool.or_eq_true, Bool.and_eq_false_iff, Bool.or_eq_false_iff, Bool.not_eq_true', Bool.not_eq_false', Bool.not_true, Bool.not_false, bif_and, bif_or, Bool.not_not, ne_eq, Decidable.not_not, not_true_eq_false, not_false_eq_true, Int.not_le, Int.not_lt] at hc3)
    refine awp_seq ?_
    rw [hfe]
    refine awp_region 3 mixed (by kernel_rfl) ?_
    refine rg_q (q_move (x := .d (.v _)) rfl) ?_
    refine rg_q (q_assign_nil) ?_
    refine rg_q (q_assign (x := .d (.v _)) rfl) ?_
    refine rg_nil ?_
    refine aops_nil ?_
    change Awp _ _ _ _ _
    refine awp_ret ?_
    refine ⟨_, (.cons (.tmp (by exact .nil 2)) (.cons (.tmp (by exact .d _)) .nil)), ?_⟩
    rw [hz]; rfl
  ·
    exact absurd ((hfe _ _).symm.trans (Decidable.not_not.1 (of_decide_eq_false hc3))) h0
set_option maxRecDepth 100000 in
theorem seenOk_p (s : Spc) (t : Int × Int) (h0 : (ckSpc s).2 = 0) : PC Tryz.prog 17 [.agg (spcC s), .agg (shC t)] (.tup [.sl 2 ((seeR s t).1.map shC), .v (.int .i64 ((seeR s t).2))]) := by
  have hos : osR s = (opnS s (ptsS s), 0) := by unfold osR; rw [if_neg (fun q => q h0)]
  have hsp := spc_ok h0
  have hok := hsp.ar
  have ht1 := hok.ou.t1
  have ht2 := hok.ou.t2
  have hn2 := hok.n2
  have hp1 := hsp.p1
  have hse : seeE s t = firstE [spotE t, plateE t.2 s.ar.ou.t] := by unfold seeE; rw [if_neg (fun q => q h0)]
  have hfe : firstE [0, spotE t, plateE t.2 s.ar.ou.t] = seeE s t := by rw [first3, if_neg (by decide), hse]
  refine pc_of_awpN Tryz.func17 rfl Tryz.ntmps17 (rs := [.tmp 4, .tmp 5]) Tryz.results17 (by simp) fun w0 hmine hrnd hpn => ?_
  refine awp_seq ?_
  refine awp_region 4 mixed (by kernel_rfl) ?_
  refine rg_q (q_box rfl (by exact .inr ⟨_, rfl⟩)) ?_
  refine rg_q (q_box rfl (by exact .inr ⟨_, rfl⟩)) ?_
  refine rg_q (q_assign_nil) ?_
  refine rg_q (q_assign (x := .d (.v _)) rfl) ?_
  refine rg_nil ?_
  refine aops_nil ?_
  change Awp _ _ _ _ _
  refine awp_seq ?_
  refine awp_region 5 mixed (by kernel_rfl) ?_
  refine rg_q (q_loadA sz32 rfl rfl rfl) ?_
  refine rg_q (q_call en44 (.cons rfl .nil) rfl ((by have h := openSpecimen_p s; rw [hos] at h; exact h))) ?_
  refine rg_q (q_move (x := .d (.tup _)) rfl) ?_
  refine rg_q (q_extract rfl rfl) ?_
  refine rg_q (q_extract rfl rfl) ?_
  refine rg_nil ?_
  refine aops_alloc zr102 rfl rfl rfl ?_
  refine aops_store sz102 rfl rfl (by exact .inr ⟨_, rfl⟩) rfl rfl (by decide) rfl ?_
  refine aops_q rfl (q_assign (x := .d (.v _)) rfl) ?_
  refine aops_nil ?_
  change Awp _ _ _ _ _
  refine awp_seq ?_
  refine awp_seq ?_
  refine awp_region 12 mixed (by kernel_rfl) ?_
  refine rg_q (q_move (x := .d (.v _)) rfl) ?_
  refine rg_q (q_loadA (ds := [_, _]) sz50 rfl rfl rfl) ?_
  refine rg_q (q_call en54 (.cons rfl .nil) rfl (bspotErr_p _)) ?_
  refine rg_q (q_loadA (ds := [_, _]) sz50 rfl rfl rfl) ?_
  refine rg_q (q_fieldAddr fld32_0 rfl) ?_
  refine rg_q (q_fieldAddr fld28_1 rfl) ?_
  refine rg_q (q_fieldAddr fld24_3 rfl) ?_
  refine rg_q (q_load sz3 rfl rfl) ?_
  refine rg_q (q_call en55 (.cons rfl (.cons rfl .nil)) rfl (plateErr_p t s.ar.ou.t ht1 ht2)) ?_
  refine rg_q (q_buildSlice sl146 zr39 rfl rfl (by decide) (.cons rfl (by exact .inl rfl) (.cons rfl (by exact .inl rfl) (.cons rfl (by exact .inl rfl) .nil))) ⟨rfl, rfl, rfl, rfl, rfl, rfl, trivial⟩ rfl (by decide) rfl) ?_
  refine rg_q (q_call en45 (.cons rfl .nil) rfl (bfirst_p [0, _, _])) ?_
  refine rg_q (q_assign (x := .d (.v _)) rfl) ?_
  refine rg_nil ?_
  refine aops_nil ?_
  change Awp _ _ _ _ _
  refine awp_seq ?_
  refine awp_region 2 mixed (by kernel_rfl) ?_
  refine rg_q (q_move (x := .d (.v _)) rfl) ?_
  refine rg_q (q_neq rfl rfl) ?_
  refine rg_nil ?_
  refine aops_nil ?_
  change Awp _ _ _ _ _
  refine awp_cond rfl (fun hc3 => ?_) (fun hc3 => ?_)
  ·
    (try simp only [decide_eq_true_eq, decide_eq_false_iff_not, Bool.and_eq_true, Bool.or_eq_true, Bool.and_eq_false_iff, Bool.or_eq_false_iff, Bool.not_eq_true', Bool.not_eq_false', Bool.not_true, Bool.not_false, bif_and, bif_or, Bool.not_not, ne_eq, Decidable.not_not, not_true_eq_false, not_false_eq_true, Int.not_le, Int.not_lt] at hc3)
    rw [hfe] at hc3 ⊢
    have hz : seeR s t = ([], seeE s t) := by unfold seeR; rw [if_pos hc3]
    refine awp_seq ?_
    refine awp_region 3 mixed (by kernel_rfl) ?_
    refine rg_q (q_move (x := .d (.v _)) rfl) ?_
    refine rg_q (q_assign_nil) ?_
    refine rg_q (q_assign (x := .d (.v _)) rfl) ?_
    refine rg_nil ?_
    refine aops_nil ?_
    change Awp _ _ _ _ _
    refine awp_ret ?_
    refine ⟨_, (.cons (.tmp (by exact .nil 2)) (.cons (.tmp (by exact .d _)) .nil)), ?_⟩
    rw [hz]; rfl
  ·
    (try simp only [decide_eq_true_eq, decide_eq_false_iff_not, Bool.and_eq_true, Bool.or_eq_true, Bool.and_eq_false_iff, Bool.or_eq_false_iff, Bool.not_eq_true', Bool.not_eq_false', Bool.not_true, Bool.not_false, bif_and, bif_or, Bool.not_not, ne_eq, Decidable.not_not, not_true_eq_false, not_false_eq_true, Int.not_le, Int.not_lt] at hc3)
    rw [hfe] at hc3
    have hz : seeR s t = (seeL s t, 0) := by unfold seeR; rw [if_neg (fun q => q hc3)]
    refine awp_skip ?_
    change Awp _ _ _ _ _
    refine awp_seq ?_
    refine awp_region 0 mixed (by kernel_rfl) ?_
    refine rg_nil ?_
    refine aops_alloc zr51 rfl rfl rfl ?_
    refine aops_nil ?_
    change Awp _ _ _ _ _
    refine awp_seq ?_
    refine awp_seq ?_
    refine awp_region 3 mixed (by kernel_rfl) ?_
    refine rg_q (q_fieldAddr_ref fld102_0 rfl) ?_
    refine rg_q (q_load_refA (ds := [_, _, _, _, _, _, _, _, _, _, _]) sz100 rfl rfl rfl rfl) ?_
    refine rg_q (q_makeMfn (.cons rfl .nil)) ?_
    refine rg_nil ?_
    refine aops_nil ?_
    change Awp _ _ _ _ _
    refine awp_block ?_
    refine Awp.le (le_freeze 6 6 0 (cs := (opnS s (ptsS s))) rfl rfl rfl rfl hmine) ?_
    refine Awp.le (le_ownB 8 46 0 33 2 rfl rfl rfl) ?_
    refine awp_rangeC (α := Int × Int) (β := Nat) (n := 48) (enc := encP) (items := prL s.ar.el.length) 1000 [(3, .d (.pt (shC t) 0)), (6, .d (.pt (opnS s (ptsS s)) 0)), (8, .ref 8 0), (31, .d (.mfn (.func 56) [.agg (arrC s.ar)]))] (fun x => [(8, .tbox [.rs 46]), (46, .row 33 2 ((((prL s.ar.el.length).take x).filter (seeB s t)).map shC))]) (fun k x => x = k ∧ k ≤ (prL s.ar.el.length).length) (fun e x => False) 0 hrnd ?_ (.inl ⟨rfl, rfl⟩) en56 (pairs_i s.ar) rfl (fun _ => rfl) rfl (fun _ => by repeat first | exact trivial | refine ⟨by exact D.Flat.aggF (by repeat first | exact trivial | refine ⟨.v _, ?_⟩), ?_⟩) (fun _ => rfl) ⟨rfl, Nat.zero_le _⟩ (fun h => by cases h) ?_ ?_ ?_
    · exact le_cst (fun k => k) _ _ rfl ⟨(by rfl), (by rfl), (by rfl), (by rfl), trivial⟩ ⟨(by rfl), (by rfl), trivial⟩ rfl (fun k b h => by rw [hpn k] at h; cases h)
    ·
      intro w1 hw1 k x y hI hy
      obtain ⟨rfl, hk⟩ := hI
      have hpy := prL_in (List.mem_of_getElem? hy)
      have hxl : x < (prL s.ar.el.length).length := (List.getElem?_eq_some_iff.1 hy).1
      have hfs := filt_step (s := s) (t := t) hy
      have hle := filt_le (s := s) (t := t) (k := x) hn2
      refine awp_region 0 mixed (by kernel_rfl) ?_
      refine rg_nil ?_
      refine aops_alloc zr33 rfl rfl rfl ?_
      refine aops_store sz33 rfl rfl (by exact .inr ⟨_, rfl⟩) rfl rfl (by decide) rfl ?_
      refine aops_nil ?_
      refine ⟨rfl, fun w2 hw2 => ?_⟩
      refine awp_block ?_
      refine awp_seq ?_
      refine awp_region 10 mixed (by kernel_rfl) ?_
      refine rg_q (q_fieldAddr fld102_0 rfl) ?_
      refine rg_q (q_loadA (ds := [_, _, _, _, _, _, _, _, _, _, _]) sz100 rfl rfl rfl) ?_
      refine rg_q (q_loadA (ds := [_, _]) sz50 rfl rfl rfl) ?_
      refine rg_q (q_load_refA (ds := [_, _]) sz33 rfl rfl rfl rfl) ?_
      refine rg_q (q_call en58 (.cons rfl (.cons rfl (.cons rfl .nil))) rfl (sample_p s.ar t y hok hpy)) ?_
      refine rg_q (q_fieldAddr fld102_1 rfl) ?_
      refine rg_q (q_load sz29 rfl rfl) ?_
      refine rg_q (q_len isl29 rfl (by exact len_map _ _)) ?_
      refine rg_q (q_sub rfl rfl (In64.mk (by omega) (by omega))) ?_
      refine rg_q (q_call en57 (.cons rfl (.cons rfl (.cons rfl .nil))) rfl (bwithin_p _ _ _)) ?_
      refine rg_nil ?_
      refine aops_nil ?_
      change Awp _ _ _ _ _
      refine awp_len (t := 39) rfl (fun hl39 => ?_)
      (try simp only [List.length_map] at hl39)
      refine awp_cond rfl (fun hc8 => ?_) (fun hc8 => ?_)
      ·
        (try simp only [decide_eq_true_eq, decide_eq_false_iff_not, Bool.and_eq_true, Bool.or_eq_true, Bool.and_eq_false_iff, Bool.or_eq_false_iff, Bool.not_eq_true', Bool.not_eq_false', Bool.not_true, Bool.not_false, bif_and, bif_or, Bool.not_not, ne_eq, Decidable.not_not, not_true_eq_false, not_false_eq_true, Int.not_le, Int.not_lt] at hc8)
        have hb : seeB s t y = true := hc8
        rw [if_pos hb] at hfs
        have hs1 : (((prL s.ar.el.length).take x).filter (seeB s t)).map shC ++ [shC y] = (((prL s.ar.el.length).take (x + 1)).filter (seeB s t)).map shC := by rw [hfs, List.map_append]; rfl
        refine awp_region 3 mixed (by kernel_rfl) ?_
        refine rg_q (q_load_tb (x := .rs _) sz51 rfl rfl rfl) ?_
        refine rg_q (q_load_refA (ds := [_, _]) sz33 rfl rfl rfl rfl) ?_
        refine rg_q (q_buildSlice sl51 zr33 rfl rfl (by decide) (.cons rfl (by exact .inr ⟨_, rfl⟩) .nil) ⟨rfl, rfl, trivial⟩ rfl (by decide) rfl) ?_
        refine rg_nil ?_
        refine aops_append sl51 zr33 by33 rfl (by decide) rfl rfl rfl rfl (by (try simp only [List.length_map, List.length_append, List.length_cons, List.length_nil]); omega) (by (try simp only [List.length_map, List.length_append, List.length_cons, List.length_nil]); omega) rfl rfl ?_
        refine aops_storeT (z := .rs _) sz51 rfl rfl rfl rfl (by decide) rfl ?_
        refine aops_nil ?_
        refine .inl ⟨rfl, x + 1, ⟨rfl, hxl⟩, ?_⟩
        exact le_round [] _ hw2 rfl ⟨(by rfl), (by (show Site.row _ _ _ = Site.row _ _ _; rw [← hs1]; rfl)), trivial⟩ rfl
      ·
        (try simp only [decide_eq_true_eq, decide_eq_false_iff_not, Bool.and_eq_true, Bool.or_eq_true, Bool.and_eq_false_iff, Bool.or_eq_false_iff, Bool.not_eq_true', Bool.not_eq_false', Bool.not_true, Bool.not_false, bif_and, bif_or, Bool.not_not, ne_eq, Decidable.not_not, not_true_eq_false, not_false_eq_true, Int.not_le, Int.not_lt] at hc8)
        have hb : ¬ seeB s t y = true := by unfold seeB; rw [hc8]; decide
        rw [if_neg hb, List.append_nil] at hfs
        have hs1 : (((prL s.ar.el.length).take x).filter (seeB s t)).map shC = (((prL s.ar.el.length).take (x + 1)).filter (seeB s t)).map shC := by rw [hfs]
        refine awp_skip ?_
        refine .inl ⟨rfl, x + 1, ⟨rfl, hxl⟩, ?_⟩
        exact le_round [] _ hw2 rfl ⟨(by rfl), (by (show Site.row _ _ _ = Site.row _ _ _; rw [← hs1]; done)), trivial⟩ rfl
    ·
      intro x hI
      obtain ⟨rfl, _⟩ := hI
      rw [List.take_length]
      change Awp _ _ _ _ _
      refine awp_seq ?_
      refine awp_region 3 mixed (by kernel_rfl) ?_
      refine rg_q (q_load_tb (x := .rs _) sz51 rfl rfl rfl) ?_
      refine rg_q (q_assign (x := .rs _) rfl) ?_
      refine rg_q (q_assign (x := .d (.v _)) rfl) ?_
      refine rg_nil ?_
      refine aops_nil ?_
      change Awp _ _ _ _ _
      refine awp_ret ?_
      refine ⟨_, (.cons (.tmp (by exact .rs rfl)) (.cons (.tmp (by exact .d _)) .nil)), ?_⟩
      rw [hz]; rfl
    ·
      exact fun e x h => h.elim

theorem seen_p (s : Spc) (t : Int × Int) : PC Tryz.prog 17 [.agg (spcC s), .agg (shC t)] (.tup [.sl 2 ((seeR s t).1.map shC), .v (.int .i64 ((seeR s t).2))]) := by
  by_cases h : (ckSpc s).2 = 0
  · exact seenOk_p s t h
  · exact seenBad_p s t h
set_option maxRecDepth 100000 in
theorem rseen_p (s : Spc) (t : Int × Int) (h0 : (ckSpc s).2 = 0) (hs : spotE t = 0) (hp : plateE t.2 s.ar.ou.t = 0) : PC Tryz.prog 19 [.agg (spcC s), .agg (shC t)] (.sl 2 ((seeL s t).map shC)) := by
  have hsp := spc_ok h0
  have hok := hsp.ar
  have hn2 := hok.n2
  have hp1 := hsp.p1
  refine pc_of_awpN Tryz.func19 rfl Tryz.ntmps19 (rs := [.tmp 4]) Tryz.results19 (by simp) fun w0 hmine hrnd hpn => ?_
  refine awp_seq ?_
  refine awp_region 3 mixed (by kernel_rfl) ?_
  refine rg_q (q_box rfl (by exact .inr ⟨_, rfl⟩)) ?_
  refine rg_q (q_box rfl (by exact .inr ⟨_, rfl⟩)) ?_
  refine rg_q (q_assign_nil) ?_
  refine rg_nil ?_
  refine aops_nil ?_
  change Awp _ _ _ _ _
  refine awp_seq ?_
  refine awp_region 1 mixed (by kernel_rfl) ?_
  refine rg_q (q_assign_nil) ?_
  refine rg_nil ?_
  refine aops_nil ?_
  change Awp _ _ _ _ _
  refine Awp.le (le_own (k := 5) (e := 33) (sz := 2) rfl rfl) ?_
  refine awp_seq ?_
  refine awp_region 5 mixed (by kernel_rfl) ?_
  refine rg_q (q_fieldAddr fld32_0 rfl) ?_
  refine rg_q (q_fieldAddr fld28_0 rfl) ?_
  refine rg_q (q_load sz22 rfl rfl) ?_
  refine rg_q (q_len isl22 rfl (by exact len_map _ _)) ?_
  refine rg_q (q_assign (x := .d (.v _)) rfl) ?_
  refine rg_nil ?_
  refine aops_nil ?_
  change Awp _ _ _ _ _
  refine awp_len (t := 11) rfl (fun hl11 => ?_)
  (try simp only [List.length_map] at hl11)
  refine awp_seq ?_
  refine awp_seq ?_
  refine awp_region 1 mixed (by kernel_rfl) ?_
  refine rg_q (q_assign (x := .d (.v _)) rfl) ?_
  refine rg_nil ?_
  refine aops_nil ?_
  change Awp _ _ _ _ _
  refine awp_block ?_
  refine awp_loopH [5, 7, 8, 13, 14, 15, 16, 17, 18, 19, 20, 21, 22, 23, 24, 25, 26, 27, 28, 29, 30, 31, 32, 33, 34, 35, 36, 37, 38, 39, 40] [5] (α := Nat) (fun i => [(7, T.i (i : Int)), (5, .rs 5)]) (fun i => [(5, .row 33 2 (((prF s.ar.el.length i).filter (seeB s t)).map shC))]) (fun i => i ≤ s.ar.el.length) (fun i => s.ar.el.length - i) 0 (Nat.zero_le _) ?_ ?_
  · exact le_head (ms := [5]) (by repeat (exact Out.refl _)) ⟨(by rfl), (by rfl), trivial⟩ ⟨(by rfl), trivial⟩ rfl rfl rfl rfl
  ·
    intro i hi
    refine awp_seq ?_
    refine awp_seq ?_
    refine awp_region 3 mixed (by kernel_rfl) ?_
    refine rg_q (q_move (x := .d (.v _)) rfl) ?_
    refine rg_q (q_move (x := .d (.v _)) rfl) ?_
    refine rg_q (q_lss rfl rfl) ?_
    refine rg_nil ?_
    refine aops_nil ?_
    change Awp _ _ _ _ _
    refine awp_cond rfl (fun hc4 => ?_) (fun hc4 => ?_)
    ·
      (try simp only [decide_eq_true_eq, decide_eq_false_iff_not, Bool.and_eq_true, Bool.or_eq_true, Bool.and_eq_false_iff, Bool.or_eq_false_iff, Bool.not_eq_true', Bool.not_eq_false', Bool.not_true, Bool.not_false, bif_and, bif_or, Bool.not_not, ne_eq, Decidable.not_not, not_true_eq_false, not_false_eq_true, Int.not_le, Int.not_lt] at hc4)
      have hlt : i < s.ar.el.length := by omega
      refine awp_skip ?_
      change Awp _ _ _ _ _
      refine awp_seq ?_
      refine awp_block ?_
      refine awp_seq ?_
      refine awp_region 1 mixed (by kernel_rfl) ?_
      refine rg_q (q_assign (x := .d (.v _)) rfl) ?_
      refine rg_nil ?_
      refine aops_nil ?_
      change Awp _ _ _ _ _
      refine awp_block ?_
      refine awp_loopH [5, 8, 18, 19, 20, 21, 22, 23, 24, 25, 26, 27, 28, 29, 30, 31, 32, 33, 34, 35, 36, 37, 38, 39, 40] [5] (α := Nat) (fun j => [(8, T.i (j : Int)), (5, .rs 5)]) (fun j => [(5, .row 33 2 (((prF s.ar.el.length i ++ prR i j).filter (seeB s t)).map shC))]) (fun j => j ≤ s.ar.el.length) (fun j => s.ar.el.length - j) 0 (Nat.zero_le _) ?_ ?_
      · exact le_head (ms := [5]) (by repeat (exact Out.refl _)) ⟨(by rfl), (by rfl), trivial⟩ ⟨(by ((show Site.row _ _ _ = Site.row _ _ _; simp [prR]; done))), trivial⟩ rfl rfl rfl rfl
      ·
        intro j hj
        refine awp_seq ?_
        refine awp_seq ?_
        refine awp_region 3 mixed (by kernel_rfl) ?_
        refine rg_q (q_move (x := .d (.v _)) rfl) ?_
        refine rg_q (q_move (x := .d (.v _)) rfl) ?_
        refine rg_q (q_lss rfl rfl) ?_
        refine rg_nil ?_
        refine aops_nil ?_
        change Awp _ _ _ _ _
        refine awp_cond rfl (fun hc7 => ?_) (fun hc7 => ?_)
        ·
          (try simp only [decide_eq_true_eq, decide_eq_false_iff_not, Bool.and_eq_true, Bool.or_eq_true, Bool.and_eq_false_iff, Bool.or_eq_false_iff, Bool.not_eq_true', Bool.not_eq_false', Bool.not_true, Bool.not_false, bif_and, bif_or, Bool.not_not, ne_eq, Decidable.not_not, not_true_eq_false, not_false_eq_true, Int.not_le, Int.not_lt] at hc7)
          have hlj : j < s.ar.el.length := by omega
          have hle : ((prF s.ar.el.length i ++ prR i j).filter (seeB s t)).length ≤ 256 := by
            have h1 := List.length_filter_le (seeB s t) (prF s.ar.el.length i ++ prR i j)
            have h2 := (pr_pre hlt (Nat.le_of_lt hlj)).length_le
            have h3 := prL_len hn2
            omega
          have hsp2 : (prF s.ar.el.length i ++ prR i (j + 1)).filter (seeB s t) = (prF s.ar.el.length i ++ prR i j).filter (seeB s t) ++ ([((i : Int), (j : Int))].filter (seeB s t)) := by rw [prR_succ, ← List.append_assoc, List.filter_append]
          refine awp_skip ?_
          change Awp _ _ _ _ _
          refine awp_seq ?_
          refine awp_block ?_
          refine awp_seq ?_
          refine awp_region 12 mixed (by kernel_rfl) ?_
          refine rg_q (q_fieldAddr fld32_0 rfl) ?_
          refine rg_q (q_loadA (ds := [_, _, _, _, _, _, _, _, _, _, _]) sz28 rfl rfl rfl) ?_
          refine rg_q (q_loadA (ds := [_, _]) sz50 rfl rfl rfl) ?_
          refine rg_q (q_move (x := .d (.v _)) rfl) ?_
          refine rg_q (q_move (x := .d (.v _)) rfl) ?_
          refine rg_q (q_buildA (cs := [_, _]) ar33 zr33 rfl (.cons rfl (by exact .inl rfl) (.cons rfl (by exact .inl rfl) .nil)) ⟨⟨rfl, by decide⟩, ⟨rfl, by decide⟩, trivial⟩ rfl) ?_
          refine rg_q (q_call en32 (.cons rfl (.cons rfl (.cons rfl .nil))) rfl (rsampleOf_p s.ar t ((i : Int), (j : Int)) hok ⟨⟨by simp only; omega, by simp only; omega⟩, by simp only; omega, by simp only; omega⟩ hs hp)) ?_
          refine rg_q (q_fieldAddr fld32_1 rfl) ?_
          refine rg_q (q_load sz29 rfl rfl) ?_
          refine rg_q (q_len isl29 rfl (by exact len_map _ _)) ?_
          refine rg_q (q_sub rfl rfl (In64.mk (by omega) (by omega))) ?_
          refine rg_q (q_call en33 (.cons rfl (.cons rfl (.cons rfl .nil))) rfl (within4_p _ _ _)) ?_
          refine rg_nil ?_
          refine aops_nil ?_
          change Awp _ _ _ _ _
          refine awp_len (t := 31) rfl (fun hl31 => ?_)
          (try simp only [List.length_map] at hl31)
          refine awp_cond rfl (fun hc9 => ?_) (fun hc9 => ?_)
          ·
            (try simp only [decide_eq_true_eq, decide_eq_false_iff_not, Bool.and_eq_true, Bool.or_eq_true, Bool.and_eq_false_iff, Bool.or_eq_false_iff, Bool.not_eq_true', Bool.not_eq_false', Bool.not_true, Bool.not_false, bif_and, bif_or, Bool.not_not, ne_eq, Decidable.not_not, not_true_eq_false, not_false_eq_true, Int.not_le, Int.not_lt] at hc9)
            have hb : seeB s t ((i : Int), (j : Int)) = true := hc9
            have hs1 : ((prF s.ar.el.length i ++ prR i j).filter (seeB s t)).map shC ++ [shC ((i : Int), (j : Int))] = ((prF s.ar.el.length i ++ prR i (j + 1)).filter (seeB s t)).map shC := by rw [hsp2, List.filter_cons_of_pos hb, List.map_append]; rfl
            refine awp_region 5 mixed (by kernel_rfl) ?_
            refine rg_q (q_move (x := .rs _) rfl) ?_
            refine rg_q (q_move (x := .d (.v _)) rfl) ?_
            refine rg_q (q_move (x := .d (.v _)) rfl) ?_
            refine rg_q (q_buildA (cs := [_, _]) ar33 zr33 rfl (.cons rfl (by exact .inl rfl) (.cons rfl (by exact .inl rfl) .nil)) ⟨⟨rfl, by decide⟩, ⟨rfl, by decide⟩, trivial⟩ rfl) ?_
            refine rg_q (q_buildSlice sl51 zr33 rfl rfl (by decide) (.cons rfl (by exact .inr ⟨_, rfl⟩) .nil) ⟨rfl, rfl, trivial⟩ rfl (by decide) rfl) ?_
            refine rg_nil ?_
            refine aops_append sl51 zr33 by33 rfl (by decide) rfl rfl rfl rfl (by (try simp only [List.length_map, List.length_append, List.length_cons, List.length_nil]); omega) (by (try simp only [List.length_map, List.length_append, List.length_cons, List.length_nil]); omega) rfl rfl ?_
            refine aops_q rfl (q_assign (x := .rs _) rfl) ?_
            refine aops_nil ?_
            change Awp _ _ _ _ _
            refine awp_region 3 mixed (by kernel_rfl) ?_
            refine rg_q (q_move (x := .d (.v _)) rfl) ?_
            refine rg_q (q_add rfl rfl (In64.mk (by omega) (by omega))) ?_
            refine rg_q (q_assign (x := .d (.v _)) rfl) ?_
            refine rg_nil ?_
            refine aops_nil ?_
            refine ⟨j + 1, by omega, by omega, ?_⟩
            exact le_head (ms := [5]) (by repeat (first | exact Out.head rfl rfl | (refine Out.put ?_ rfl) | (refine Out.site ?_ rfl) | (refine Out.killS ?_ rfl))) ⟨(by rfl), (by rfl), trivial⟩ ⟨(by ((show Site.row _ _ _ = Site.row _ _ _; rw [← hs1]; rfl))), trivial⟩ rfl rfl rfl rfl
          ·
            (try simp only [decide_eq_true_eq, decide_eq_false_iff_not, Bool.and_eq_true, Bool.or_eq_true, Bool.and_eq_false_iff, Bool.or_eq_false_iff, Bool.not_eq_true', Bool.not_eq_false', Bool.not_true, Bool.not_false, bif_and, bif_or, Bool.not_not, ne_eq, Decidable.not_not, not_true_eq_false, not_false_eq_true, Int.not_le, Int.not_lt] at hc9)
            have hb : ¬ seeB s t ((i : Int), (j : Int)) = true := by unfold seeB; rw [hc9]; decide
            have hs1 : ((prF s.ar.el.length i ++ prR i j).filter (seeB s t)).map shC = ((prF s.ar.el.length i ++ prR i (j + 1)).filter (seeB s t)).map shC := by rw [hsp2, List.filter_cons_of_neg hb]; simp
            refine awp_skip ?_
            change Awp _ _ _ _ _
            refine awp_region 3 mixed (by kernel_rfl) ?_
            refine rg_q (q_move (x := .d (.v _)) rfl) ?_
            refine rg_q (q_add rfl rfl (In64.mk (by omega) (by omega))) ?_
            refine rg_q (q_assign (x := .d (.v _)) rfl) ?_
            refine rg_nil ?_
            refine aops_nil ?_
            refine ⟨j + 1, by omega, by omega, ?_⟩
            exact le_head (ms := [5]) (by repeat (first | exact Out.head rfl rfl | (refine Out.put ?_ rfl))) ⟨(by rfl), (by rfl), trivial⟩ ⟨(by ((show Site.row _ _ _ = Site.row _ _ _; rw [← hs1]; done))), trivial⟩ rfl rfl rfl rfl
        ·
          (try simp only [decide_eq_true_eq, decide_eq_false_iff_not, Bool.and_eq_true, Bool.or_eq_true, Bool.and_eq_false_iff, Bool.or_eq_false_iff, Bool.not_eq_true', Bool.not_eq_false', Bool.not_true, Bool.not_false, bif_and, bif_or, Bool.not_not, ne_eq, Decidable.not_not, not_true_eq_false, not_false_eq_true, Int.not_le, Int.not_lt] at hc7)
          have hjn : j = s.ar.el.length := by omega
          have hs1 : ((prF s.ar.el.length i ++ prR i j).filter (seeB s t)).map shC = ((prF s.ar.el.length (i + 1)).filter (seeB s t)).map shC := by rw [hjn, prF_succ]
          refine awp_exit ?_
          change Awp _ _ _ _ _
          refine awp_region 3 mixed (by kernel_rfl) ?_
          refine rg_q (q_move (x := .d (.v _)) rfl) ?_
          refine rg_q (q_add rfl rfl (In64.mk (by omega) (by omega))) ?_
          refine rg_q (q_assign (x := .d (.v _)) rfl) ?_
          refine rg_nil ?_
          refine aops_nil ?_
          refine ⟨i + 1, by omega, by omega, ?_⟩
          exact le_head (ms := [5]) (by repeat (first | exact Out.head rfl rfl | (refine Out.put ?_ rfl) | (refine Out.headIn ?_ rfl rfl rfl))) ⟨(by rfl), (by rfl), trivial⟩ ⟨(by (show Site.row _ _ _ = Site.row _ _ _; rw [hs1])), trivial⟩ rfl rfl rfl rfl
    ·
      (try simp only [decide_eq_true_eq, decide_eq_false_iff_not, Bool.and_eq_true, Bool.or_eq_true, Bool.and_eq_false_iff, Bool.or_eq_false_iff, Bool.not_eq_true', Bool.not_eq_false', Bool.not_true, Bool.not_false, bif_and, bif_or, Bool.not_not, ne_eq, Decidable.not_not, not_true_eq_false, not_false_eq_true, Int.not_le, Int.not_lt] at hc4)
      have hin : i = s.ar.el.length := by omega
      subst hin
      refine awp_exit ?_
      change Awp _ _ _ _ _
      refine awp_seq ?_
      refine awp_region 2 mixed (by kernel_rfl) ?_
      refine rg_q (q_move (x := .rs _) rfl) ?_
      refine rg_q (q_assign (x := .rs _) rfl) ?_
      refine rg_nil ?_
      refine aops_nil ?_
      change Awp _ _ _ _ _
      refine awp_ret ?_
      refine ⟨_, (.cons (.tmp (by exact .rs rfl)) .nil), ?_⟩
      rfl
set_option maxRecDepth 100000 in
theorem benchSees_p (s : Spc) (t : Int × Int) : PC Tryz.prog 4 [.agg (spcC s), .agg (shC t)] (.v (.bool (true))) := by
  refine pc_of_awpN Tryz.func4 rfl Tryz.ntmps4 (rs := [.tmp 4]) Tryz.results4 (by simp) fun w0 hmine hrnd hpn => ?_
  refine awp_seq ?_
  refine awp_region 3 mixed (by kernel_rfl) ?_
  refine rg_q (q_box rfl (by exact .inr ⟨_, rfl⟩)) ?_
  refine rg_q (q_box rfl (by exact .inr ⟨_, rfl⟩)) ?_
  refine rg_q (q_assign (x := .d (.v _)) rfl) ?_
  refine rg_nil ?_
  refine aops_nil ?_
  change Awp _ _ _ _ _
  refine awp_seq ?_
  refine awp_seq ?_
  refine awp_region 2 mixed (by kernel_rfl) ?_
  refine rg_q (q_call en9 .nil rfl (awake_p)) ?_
  refine rg_q (q_not rfl) ?_
  refine rg_nil ?_
  refine aops_nil ?_
  change Awp _ _ _ _ _
  refine awp_cond rfl (fun hc1 => ?_) (fun hc1 => ?_)
  ·
    simp at hc1
  ·
    (try simp only [decide_eq_true_eq, decide_eq_false_iff_not, Bool.and_eq_true, Bool.or_eq_true, Bool.and_eq_false_iff, Bool.or_eq_false_iff, Bool.not_eq_true', Bool.not_eq_false', Bool.not_true, Bool.not_false, bif_and, bif_or, Bool.not_not, ne_eq, Decidable.not_not, not_true_eq_false, not_false_eq_true, Int.not_le, Int.not_lt] at hc1)
    refine awp_skip ?_
    change Awp _ _ _ _ _
    refine awp_seq ?_
    refine awp_seq ?_
    refine awp_region 3 mixed (by kernel_rfl) ?_
    refine rg_q (q_loadA sz32 rfl rfl rfl) ?_
    refine rg_q (q_call en10 (.cons rfl .nil) rfl (slight_p _)) ?_
    refine rg_q (q_not rfl) ?_
    refine rg_nil ?_
    refine aops_nil ?_
    change Awp _ _ _ _ _
    refine awp_cond rfl (fun hc3 => ?_) (fun hc3 => ?_)
    ·
      (try simp only [decide_eq_true_eq, decide_eq_false_iff_not, Bool.and_eq_true, Bool.or_eq_true, Bool.and_eq_false_iff, Bool.or_eq_false_iff, Bool.not_eq_true', Bool.not_eq_false', Bool.not_true, Bool.not_false, bif_and, bif_or, Bool.not_not, ne_eq, Decidable.not_not, not_true_eq_false, not_false_eq_true, Int.not_le, Int.not_lt] at hc3)
      refine awp_seq ?_
      refine awp_region 1 mixed (by kernel_rfl) ?_
      refine rg_q (q_assign (x := .d (.v _)) rfl) ?_
      refine rg_nil ?_
      refine aops_nil ?_
      change Awp _ _ _ _ _
      refine awp_ret ?_
      refine ⟨_, (.cons (.tmp (by exact .d _)) .nil), ?_⟩
      rfl
    ·
      (try simp only [decide_eq_true_eq, decide_eq_false_iff_not, Bool.and_eq_true, Bool.or_eq_true, Bool.and_eq_false_iff, Bool.or_eq_false_iff, Bool.not_eq_true', Bool.not_eq_false', Bool.not_true, Bool.not_false, bif_and, bif_or, Bool.not_not, ne_eq, Decidable.not_not, not_true_eq_false, not_false_eq_true, Int.not_le, Int.not_lt] at hc3)
      have hfw : sliB s = true := by simpa using hc3
      obtain ⟨l1, l2, l3⟩ := sli_le hfw
      refine awp_skip ?_
      change Awp _ _ _ _ _
      refine awp_seq ?_
      refine awp_region 9 mixed (by kernel_rfl) ?_
      refine rg_q (q_loadA sz32 rfl rfl rfl) ?_
      refine rg_q (q_call en12 (.cons rfl .nil) rfl (copySpc_p s (by omega) (by omega) (by omega))) ?_
      refine rg_q (q_loadA (ds := [_, _]) sz50 rfl rfl rfl) ?_
      refine rg_q (q_call en17 (.cons rfl (.cons rfl .nil)) rfl (seen_p s t)) ?_
      refine rg_q (q_move (x := .d (.tup _)) rfl) ?_
      refine rg_q (q_extract rfl rfl) ?_
      refine rg_q (q_extract rfl rfl) ?_
      refine rg_q (q_assign (x := .d (.sl _ _)) rfl) ?_
      refine rg_q (q_assign (x := .d (.v _)) rfl) ?_
      refine rg_nil ?_
      refine aops_nil ?_
      change Awp _ _ _ _ _
      refine awp_seq ?_
      refine awp_region 3 mixed (by kernel_rfl) ?_
      refine rg_q (q_loadA sz32 rfl rfl rfl) ?_
      refine rg_q (q_call en13 (.cons rfl .nil) rfl (specimenErr_p _)) ?_
      refine rg_q (q_assign (x := .d (.v _)) rfl) ?_
      refine rg_nil ?_
      refine aops_nil ?_
      change Awp _ _ _ _ _
      refine awp_seq ?_
      refine awp_seq ?_
      refine awp_region 2 mixed (by kernel_rfl) ?_
      refine rg_q (q_move (x := .d (.v _)) rfl) ?_
      refine rg_q (q_eql rfl rfl) ?_
      refine rg_nil ?_
      refine aops_nil ?_
      change Awp _ _ _ _ _
      refine awp_cond rfl (fun hc7 => ?_) (fun hc7 => ?_)
      ·
        (try simp only [decide_eq_true_eq, decide_eq_false_iff_not, Bool.and_eq_true, Bool.or_eq_true, Bool.and_eq_false_iff, Bool.or_eq_false_iff, Bool.not_eq_true', Bool.not_eq_false', Bool.not_true, Bool.not_false, bif_and, bif_or, Bool.not_not, ne_eq, Decidable.not_not, not_true_eq_false, not_false_eq_true, Int.not_le, Int.not_lt] at hc7)
        have h0 : (ckSpc s).2 = 0 := hc7
        have hok := (spc_ok h0).ar
        have ht1 := hok.ou.t1
        have ht2 := hok.ou.t2
        have hse : seeE s t = firstE [spotE t, plateE t.2 s.ar.ou.t] := by unfold seeE; rw [if_neg (fun q => q h0)]
        refine awp_region 5 mixed (by kernel_rfl) ?_
        refine rg_q (q_fieldAddr fld32_0 rfl) ?_
        refine rg_q (q_loadA (ds := [_, _, _, _, _, _, _, _, _, _, _]) sz28 rfl rfl rfl) ?_
        refine rg_q (q_loadA (ds := [_, _]) sz50 rfl rfl rfl) ?_
        refine rg_q (q_call en18 (.cons rfl (.cons rfl .nil)) rfl (rplaceErr_p s.ar t ht1 ht2)) ?_
        refine rg_q (q_assign (x := .d (.v _)) rfl) ?_
        refine rg_nil ?_
        refine aops_nil ?_
        change Awp _ _ _ _ _
        refine awp_seq ?_
        refine awp_seq ?_
        refine awp_region 2 mixed (by kernel_rfl) ?_
        refine rg_q (q_move (x := .d (.v _)) rfl) ?_
        refine rg_q (q_neq rfl rfl) ?_
        refine rg_nil ?_
        refine aops_nil ?_
        change Awp _ _ _ _ _
        refine awp_cond rfl (fun hc9 => ?_) (fun hc9 => ?_)
        ·
          (try simp only [decide_eq_true_eq, decide_eq_false_iff_not, Bool.and_eq_true, Bool.or_eq_true, Bool.and_eq_false_iff, Bool.or_eq_false_iff, Bool.not_eq_true', Bool.not_eq_false', Bool.not_true, Bool.not_false, bif_and, bif_or, Bool.not_not, ne_eq, Decidable.not_not, not_true_eq_false, not_false_eq_true, Int.not_le, Int.not_lt] at hc9)
          have hz : seeR s t = ([], seeE s t) := by unfold seeR; rw [if_pos (by rw [hse]; exact hc9)]
          rw [hz, hse]
          refine awp_seq ?_
          refine awp_region 9 mixed (by kernel_rfl) ?_
          refine rg_q (q_move (x := .d (.v _)) rfl) ?_
          refine rg_q (q_move (x := .d (.v _)) rfl) ?_
          refine rg_q (q_eql rfl rfl) ?_
          refine rg_q (q_move (x := .d (.v _)) rfl) ?_
          refine rg_g rfl rfl (fun hG => (q_move (x := .d (.sl _ _)) rfl)) ?_
          refine rg_g rfl rfl (fun hG => (q_len isl51 rfl (by exact len_map _ _))) ?_
          refine rg_g rfl rfl (fun hG => (q_eql rfl rfl)) ?_
          refine rg_pick rfl rfl rfl rfl rfl rfl ?_
          refine rg_q (q_assign (x := .d (.v _)) rfl) ?_
          refine rg_nil ?_
          refine aops_nil ?_
          change Awp _ _ _ _ _
          refine awp_ret ?_
          refine ⟨_, (.cons (.tmp (by exact .d _)) .nil), ?_⟩
          simp [retD]
        ·
          (try simp only [decide_eq_true_eq, decide_eq_false_iff_not, Bool.and_eq_true, Bool.or_eq_true, Bool.and_eq_false_iff, Bool.or_eq_false_iff, Bool.not_eq_true', Bool.not_eq_false', Bool.not_true, Bool.not_false, bif_and, bif_or, Bool.not_not, ne_eq, Decidable.not_not, not_true_eq_false, not_false_eq_true, Int.not_le, Int.not_lt] at hc9)
          have h1 : firstE [spotE t, plateE t.2 s.ar.ou.t] = 0 := by omega
          have h2 := first_zero.1 h1
          have hs : spotE t = 0 := h2 _ (by simp)
          have hp : plateE t.2 s.ar.ou.t = 0 := h2 _ (by simp)
          have hz : seeR s t = (seeL s t, 0) := by unfold seeR; rw [if_neg (fun q => q (hse.trans h1))]
          rw [hz]
          refine awp_skip ?_
          change Awp _ _ _ _ _
          refine awp_seq ?_
          refine awp_region 4 mixed (by kernel_rfl) ?_
          refine rg_q (q_loadA sz32 rfl rfl rfl) ?_
          refine rg_q (q_loadA (ds := [_, _]) sz50 rfl rfl rfl) ?_
          refine rg_q (q_call en19 (.cons rfl (.cons rfl .nil)) rfl (rseen_p s t h0 hs hp)) ?_
          refine rg_q (q_assign (x := .d (.sl _ _)) rfl) ?_
          refine rg_nil ?_
          refine aops_nil ?_
          change Awp _ _ _ _ _
          refine awp_seq ?_
          refine awp_seq ?_
          refine awp_region 9 mixed (by kernel_rfl) ?_
          refine rg_q (q_move (x := .d (.v _)) rfl) ?_
          refine rg_q (q_neq rfl rfl) ?_
          refine rg_q (q_move (x := .d (.v _)) rfl) ?_
          refine rg_g rfl rfl (fun hG => (q_move (x := .d (.sl _ _)) rfl)) ?_
          refine rg_g rfl rfl (fun hG => (q_len isl51 rfl (by exact len_map _ _))) ?_
          refine rg_g rfl rfl (fun hG => (q_move (x := .d (.sl _ _)) rfl)) ?_
          refine rg_g rfl rfl (fun hG => (q_len isl51 rfl (by exact len_map _ _))) ?_
          refine rg_g rfl rfl (fun hG => (q_neq rfl rfl)) ?_
          refine rg_pick rfl rfl rfl rfl rfl rfl ?_
          refine rg_nil ?_
          refine aops_nil ?_
          change Awp _ _ _ _ _
          refine awp_cond rfl (fun hc12 => ?_) (fun hc12 => ?_)
          ·
            simp at hc12
          ·
            (try simp only [decide_eq_true_eq, decide_eq_false_iff_not, Bool.and_eq_true, Bool.or_eq_true, Bool.and_eq_false_iff, Bool.or_eq_false_iff, Bool.not_eq_true', Bool.not_eq_false', Bool.not_true, Bool.not_false, bif_and, bif_or, Bool.not_not, ne_eq, Decidable.not_not, not_true_eq_false, not_false_eq_true, Int.not_le, Int.not_lt] at hc12)
            refine awp_skip ?_
            change Awp _ _ _ _ _
            refine awp_seq ?_
            refine awp_seq ?_
            refine awp_region 1 mixed (by kernel_rfl) ?_
            refine rg_q (q_assign (x := .d (.v _)) rfl) ?_
            refine rg_nil ?_
            refine aops_nil ?_
            change Awp _ _ _ _ _
            refine awp_block ?_
            refine awp_loopH [4, 9, 52, 53, 54, 55, 56, 57, 58, 59, 60, 61, 62, 63, 64, 65, 66] [] (α := Nat) (fun k => [(9, T.i (k : Int))]) (fun k => []) (fun k => k ≤ (seeL s t).length) (fun k => (seeL s t).length - k) 0 (Nat.zero_le _) ?_ ?_
            · exact le_head (ms := []) (by repeat (exact Out.refl _)) ⟨(by rfl), trivial⟩ trivial rfl rfl rfl rfl
            ·
              intro k hk
              refine awp_seq ?_
              refine awp_seq ?_
              refine awp_region 4 mixed (by kernel_rfl) ?_
              refine rg_q (q_move (x := .d (.v _)) rfl) ?_
              refine rg_q (q_move (x := .d (.sl _ _)) rfl) ?_
              refine rg_q (q_len isl51 rfl (by exact len_map _ _)) ?_
              refine rg_q (q_lss rfl rfl) ?_
              refine rg_nil ?_
              refine aops_nil ?_
              change Awp _ _ _ _ _
              refine awp_len (t := 53) rfl (fun hl53 => ?_)
              (try simp only [List.length_map] at hl53)
              refine awp_cond rfl (fun hc15 => ?_) (fun hc15 => ?_)
              ·
                (try simp only [decide_eq_true_eq, decide_eq_false_iff_not, Bool.and_eq_true, Bool.or_eq_true, Bool.and_eq_false_iff, Bool.or_eq_false_iff, Bool.not_eq_true', Bool.not_eq_false', Bool.not_true, Bool.not_false, bif_and, bif_or, Bool.not_not, ne_eq, Decidable.not_not, not_true_eq_false, not_false_eq_true, Int.not_le, Int.not_lt] at hc15)
                have hlt : k < (seeL s t).length := by omega
                obtain ⟨y, hx⟩ : ∃ y, (seeL s t)[k]? = some y := ⟨_, List.getElem?_eq_getElem hlt⟩
                refine awp_skip ?_
                change Awp _ _ _ _ _
                refine awp_seq ?_
                refine awp_block ?_
                refine awp_seq ?_
                refine awp_region 9 mixed (by kernel_rfl) ?_
                refine rg_q (q_move (x := .d (.sl _ _)) rfl) ?_
                refine rg_q (q_move (x := .d (.v _)) rfl) ?_
                refine rg_q (q_indexAddr sl51 rfl rfl (by omega) (map_at (k := k) (by omega) hx)) ?_
                refine rg_q (q_loadA (ds := [_, _]) sz33 rfl rfl rfl) ?_
                refine rg_q (q_move (x := .d (.sl _ _)) rfl) ?_
                refine rg_q (q_move (x := .d (.v _)) rfl) ?_
                refine rg_q (q_indexAddr sl51 rfl rfl (by omega) (map_at (k := k) (by omega) hx)) ?_
                refine rg_q (q_loadA (ds := [_, _]) sz33 rfl rfl rfl) ?_
                refine rg_q (q_neqI (xs := [_, _]) (ys := [_, _]) eqi33 rfl rfl rfl rfl) ?_
                refine rg_nil ?_
                refine aops_nil ?_
                change Awp _ _ _ _ _
                refine awp_cond rfl (fun hc17 => ?_) (fun hc17 => ?_)
                ·
                  simp at hc17
                ·
                  (try simp only [decide_eq_true_eq, decide_eq_false_iff_not, Bool.and_eq_true, Bool.or_eq_true, Bool.and_eq_false_iff, Bool.or_eq_false_iff, Bool.not_eq_true', Bool.not_eq_false', Bool.not_true, Bool.not_false, bif_and, bif_or, Bool.not_not, ne_eq, Decidable.not_not, not_true_eq_false, not_false_eq_true, Int.not_le, Int.not_lt] at hc17)
                  refine awp_skip ?_
                  change Awp _ _ _ _ _
                  refine awp_region 3 mixed (by kernel_rfl) ?_
                  refine rg_q (q_move (x := .d (.v _)) rfl) ?_
                  refine rg_q (q_add rfl rfl (In64.mk (by omega) (by omega))) ?_
                  refine rg_q (q_assign (x := .d (.v _)) rfl) ?_
                  refine rg_nil ?_
                  refine aops_nil ?_
                  refine ⟨k + 1, by omega, by omega, ?_⟩
                  exact le_head (ms := []) (by repeat (first | exact Out.head rfl rfl | (refine Out.put ?_ rfl))) ⟨(by rfl), trivial⟩ trivial rfl rfl rfl rfl
              ·
                (try simp only [decide_eq_true_eq, decide_eq_false_iff_not, Bool.and_eq_true, Bool.or_eq_true, Bool.and_eq_false_iff, Bool.or_eq_false_iff, Bool.not_eq_true', Bool.not_eq_false', Bool.not_true, Bool.not_false, bif_and, bif_or, Bool.not_not, ne_eq, Decidable.not_not, not_true_eq_false, not_false_eq_true, Int.not_le, Int.not_lt] at hc15)
                refine awp_exit ?_
                change Awp _ _ _ _ _
                refine awp_seq ?_
                refine awp_region 1 mixed (by kernel_rfl) ?_
                refine rg_q (q_assign (x := .d (.v _)) rfl) ?_
                refine rg_nil ?_
                refine aops_nil ?_
                change Awp _ _ _ _ _
                refine awp_ret ?_
                refine ⟨_, (.cons (.tmp (by exact .d _)) .nil), ?_⟩
                rfl
      ·
        (try simp only [decide_eq_true_eq, decide_eq_false_iff_not, Bool.and_eq_true, Bool.or_eq_true, Bool.and_eq_false_iff, Bool.or_eq_false_iff, Bool.not_eq_true', Bool.not_eq_false', Bool.not_true, Bool.not_false, bif_and, bif_or, Bool.not_not, ne_eq, Decidable.not_not, not_true_eq_false, not_false_eq_true, Int.not_le, Int.not_lt] at hc7)
        have h0 : (ckSpc s).2 ≠ 0 := hc7
        have hse : seeE s t = (ckSpc s).2 := by unfold seeE; rw [if_pos h0]
        refine awp_skip ?_
        change Awp _ _ _ _ _
        refine awp_seq ?_
        refine awp_seq ?_
        refine awp_region 2 mixed (by kernel_rfl) ?_
        refine rg_q (q_move (x := .d (.v _)) rfl) ?_
        refine rg_q (q_neq rfl rfl) ?_
        refine rg_nil ?_
        refine aops_nil ?_
        change Awp _ _ _ _ _
        refine awp_cond rfl (fun hc9 => ?_) (fun hc9 => ?_)
        ·
          (try simp only [decide_eq_true_eq, decide_eq_false_iff_not, Bool.and_eq_true, Bool.or_eq_true, Bool.and_eq_false_iff, Bool.or_eq_false_iff, Bool.not_eq_true', Bool.not_eq_false', Bool.not_true, Bool.not_false, bif_and, bif_or, Bool.not_not, ne_eq, Decidable.not_not, not_true_eq_false, not_false_eq_true, Int.not_le, Int.not_lt] at hc9)
          have hz : seeR s t = ([], seeE s t) := by unfold seeR; rw [if_pos (by rw [hse]; exact hc9)]
          rw [hz, hse]
          refine awp_seq ?_
          refine awp_region 9 mixed (by kernel_rfl) ?_
          refine rg_q (q_move (x := .d (.v _)) rfl) ?_
          refine rg_q (q_move (x := .d (.v _)) rfl) ?_
          refine rg_q (q_eql rfl rfl) ?_
          refine rg_q (q_move (x := .d (.v _)) rfl) ?_
          refine rg_g rfl rfl (fun hG => (q_move (x := .d (.sl _ _)) rfl)) ?_
          refine rg_g rfl rfl (fun hG => (q_len isl51 rfl (by exact len_map _ _))) ?_
          refine rg_g rfl rfl (fun hG => (q_eql rfl rfl)) ?_
          refine rg_pick rfl rfl rfl rfl rfl rfl ?_
          refine rg_q (q_assign (x := .d (.v _)) rfl) ?_
          refine rg_nil ?_
          refine aops_nil ?_
          change Awp _ _ _ _ _
          refine awp_ret ?_
          refine ⟨_, (.cons (.tmp (by exact .d _)) .nil), ?_⟩
          simp [retD]
        ·
          exact absurd (Decidable.not_not.1 (of_decide_eq_false hc9)) h0
end Go.Proofs.YtblbnagdhcpnoaaGreat.Am.M
