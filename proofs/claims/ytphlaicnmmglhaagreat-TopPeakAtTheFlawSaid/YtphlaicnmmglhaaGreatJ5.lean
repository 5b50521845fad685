/- Contracts over the abstract machine, joined. Conditions: none. -/
import Derived.Test.YtphlaicnmmglhaaGreatJ3
import Derived.Test.YtphlaicnmmglhaaGreatAmE
import Derived.Test.YtphlaicnmmglhaaGreatJ1
import Derived.Test.YtphlaicnmmglhaaGreatJ4
set_option linter.unusedVariables false
set_option linter.unusedSimpArgs false
-- mini
namespace Go.Proofs.YtphlaicnmmglhaaGreat.Am.M
open Go

def prR (i j : Nat) : List (Int × Int) := (List.range j).map fun r : Nat => ((i : Int), (r : Int))
def prF (n i : Nat) : List (Int × Int) := (List.range i).flatMap fun f => prR f n
def prL (n : Nat) : List (Int × Int) := prF n n
def encP (p : Int × Int) : List D := [.agg (shC p)]
theorem prK_succ (i j : Nat) : prR i (j + 1) = prR i j ++ [((i : Int), (j : Int))] := by unfold prR; rw [List.range_succ, List.map_append]; rfl
theorem prF_succ (n i : Nat) : prF n (i + 1) = prF n i ++ prR i n := by unfold prF; rw [List.range_succ, List.flatMap_append]; simp
theorem prR_pre (i : Nat) {j : Nat} : ∀ {k : Nat}, j ≤ k → prR i j <+: prR i k
  | 0, h => by have : j = 0 := by omega
               subst this; exact List.prefix_rfl
  | k + 1, h => by
    by_cases e : j = k + 1
    · subst e; exact List.prefix_rfl
    · rw [prK_succ]; exact (prR_pre i (show j ≤ k by omega)).trans (List.prefix_append _ _)
theorem prF_pre (n : Nat) {j : Nat} : ∀ {k : Nat}, j ≤ k → prF n j <+: prF n k
  | 0, h => by have : j = 0 := by omega
               subst this; exact List.prefix_rfl
  | k + 1, h => by
    by_cases e : j = k + 1
    · subst e; exact List.prefix_rfl
    · rw [prF_succ]; exact (prF_pre n (show j ≤ k by omega)).trans (List.prefix_append _ _)
theorem pr_pre {n i j : Nat} (hi : i < n) (hj : j ≤ n) : prF n i ++ prR i j <+: prL n := by
  have h1 : prF n (i + 1) <+: prL n := prF_pre n (by omega)
  rw [prF_succ] at h1
  exact ((List.prefix_append_right_inj _).2 (prR_pre i hj)).trans h1
theorem prL_in {n : Nat} {p : Int × Int} (h : p ∈ prL n) : (0 ≤ p.1 ∧ p.1 < n) ∧ 0 ≤ p.2 ∧ p.2 < n := by
  unfold prL prF at h
  obtain ⟨i, hi, h⟩ := List.mem_flatMap.1 h
  unfold prR at h
  obtain ⟨j, hj, rfl⟩ := List.mem_map.1 h
  have := List.mem_range.1 hi
  have := List.mem_range.1 hj
  simp only; omega
theorem prF_len (n : Nat) : ∀ i : Nat, (prF n i).length = i * n
  | 0 => by simp [prF]
  | i + 1 => by rw [prF_succ, List.length_append, prF_len n i]; unfold prR; rw [List.length_map, List.length_range, Nat.succ_mul]
theorem prL_len {n : Nat} (h : n ≤ 16) : (prL n).length ≤ 256 := by
  unfold prL; rw [prF_len]
  have := Nat.mul_le_mul h h
  omega
set_option maxRecDepth 100000 in
theorem pairs_i (a : Arr) : PI Tryz.prog 147 [.agg (arrC a)] [] (encP) (prL a.el.length) true := by
  refine pi_of_iwp Tryz.func147 rfl Tryz.ntmps147 rfl rfl fun J c l0 hJ hy hdat hfin => ?_
  refine iwp_seq ?_
  apply iwp_reg hJ
  ·
    intro c1 hmine hrnd
    refine awp_region 1 mixed (by kernel_rfl) ?_
    refine rg_q (q_box rfl (by exact .inr ⟨_, rfl⟩)) ?_
    refine rn ?_
    exact ⟨rfl, rfl⟩
  change Iwp _ _ _ _ _ _ _
  refine iwp_seq ?_
  apply iwp_reg hJ
  ·
    intro c1 hmine hrnd
    refine awp_region 5 mixed (by kernel_rfl) ?_
    refine rg_q (q_fieldAddr fld242_0 rfl) (rg_q (q_fieldAddr fld28_0 rfl) (rg_q (q_load sz22 rfl rfl) ?_))
    refine rg_q (q_len isl22 rfl (by exact len_map _ _)) ?_
    refine rg_q (q_m rfl) ?_
    refine rn ?_
    exact ⟨rfl, rfl⟩
  change Iwp _ _ _ _ _ _ _
  refine iwp_len (t := 8) rfl (fun hl8 => ?_)
  (try simp only [List.length_map] at hl8)
  refine iwp_block ?_
  refine iwp_loopH [4, 5, 10, 11, 12, 13, 14, 15, 16, 17, 18, 19, 20, 21, 22, 23, 24, 25, 26, 27] [] (β := Nat) (fun i => [(10, T.i (i : Int))]) (fun i => []) (fun i => (true, prF a.el.length i)) (fun i => i ≤ a.el.length) (fun i => a.el.length - i) 0 (Nat.zero_le _) rfl (fun c1 => ?_) ?_
  · exact le_head (ms := []) (by repeat (exact Out.refl _)) ⟨(by rfl), trivial⟩ trivial rfl rfl rfl rfl
  ·
    intro i hi
    refine iwp_seq ?_
    apply iwp_reg hJ
    ·
      intro c1 hmine hrnd
      refine awp_region 1 mixed (by kernel_rfl) ?_
      refine rg_q (q_lss rfl rfl) ?_
      refine rn ?_
      exact ⟨rfl, rfl⟩
    change Iwp _ _ _ _ _ _ _
    refine iwp_seq ?_
    refine iwp_cond rfl (fun hc2 => ?_) (fun hc2 => ?_)
    ·
      (try simp only [nb, ne_eq] at hc2)
      have hlt : i < a.el.length := by omega
      refine iwp_skip ?_
      change Iwp _ _ _ _ _ _ _
      refine iwp_seq ?_
      refine iwp_block ?_
      refine iwp_seq ?_
      apply iwp_reg hJ
      ·
        intro c1 hmine hrnd
        refine awp_region 2 mixed (by kernel_rfl) ?_
        refine rg_q (q_m rfl) (rg_q (q_a rfl) ?_)
        refine rn ?_
        exact ⟨rfl, rfl⟩
      change Iwp _ _ _ _ _ _ _
      refine iwp_seq ?_
      apply iwp_reg hJ
      ·
        intro c1 hmine hrnd
        refine awp_region 5 mixed (by kernel_rfl) ?_
        refine rg_q (q_fieldAddr fld242_0 rfl) (rg_q (q_fieldAddr fld28_0 rfl) (rg_q (q_load sz22 rfl rfl) ?_))
        refine rg_q (q_len isl22 rfl (by exact len_map _ _)) ?_
        refine rg_q (q_m rfl) ?_
        refine rn ?_
        exact ⟨rfl, rfl⟩
      change Iwp _ _ _ _ _ _ _
      refine iwp_len (t := 15) rfl (fun hl15 => ?_)
      (try simp only [List.length_map] at hl15)
      refine iwp_block ?_
      refine iwp_loopH [5, 17, 18, 19, 20, 21, 22, 23, 24, 25, 26] [] (β := Nat) (fun j => [(17, T.i (j : Int))]) (fun j => []) (fun j => (true, prF a.el.length i ++ prR i j)) (fun j => j ≤ a.el.length) (fun j => a.el.length - j) 0 (Nat.zero_le _) (by show (true, _ ++ prR i 0) = (true, _); simp [prR]) (fun c1 => ?_) ?_
      · exact le_head (ms := []) (by repeat (exact Out.refl _)) ⟨(by rfl), trivial⟩ trivial rfl rfl rfl rfl
      ·
        intro j hj
        refine iwp_seq ?_
        apply iwp_reg hJ
        ·
          intro c1 hmine hrnd
          refine awp_region 1 mixed (by kernel_rfl) ?_
          refine rg_q (q_lss rfl rfl) ?_
          refine rn ?_
          exact ⟨rfl, rfl⟩
        change Iwp _ _ _ _ _ _ _
        refine iwp_seq ?_
        refine iwp_cond rfl (fun hc5 => ?_) (fun hc5 => ?_)
        ·
          (try simp only [nb, ne_eq] at hc5)
          have hlj : j < a.el.length := by omega
          have hpre : prF a.el.length i ++ prR i j ++ [((i : Int), (j : Int))] <+: prL a.el.length := by rw [List.append_assoc, ← prK_succ]; exact pr_pre hlt (by omega)
          refine iwp_skip ?_
          change Iwp _ _ _ _ _ _ _
          refine iwp_seq ?_
          refine iwp_block ?_
          refine iwp_seq ?_
          apply iwp_reg hJ
          ·
            intro c1 hmine hrnd
            refine awp_region 2 mixed (by kernel_rfl) ?_
            refine rg_q (q_m rfl) (rg_q (q_a rfl) ?_)
            refine rn ?_
            exact ⟨rfl, rfl⟩
          change Iwp _ _ _ _ _ _ _
          refine iwp_seq ?_
          refine iwp_region ?_
          refine iops_of hJ rfl (fun c1 _ _ _ h => by exact aops_q rfl ((q_move (x := .d (.fn _ _)) rfl)) h) ?_
          refine iops_of hJ rfl (fun c1 _ _ _ h => by exact aops_q rfl ((q_m rfl)) h) ?_
          refine iops_of hJ rfl (fun c1 _ _ _ h => by exact aops_q rfl ((q_m rfl)) h) ?_
          refine iops_of hJ rfl (fun c1 _ _ _ h => by exact aops_q rfl ((q_buildA (cs := [_, _]) ar63 zr63 rfl (.cons rfl (by exact .inl rfl) (.cons rfl (by exact .inl rfl) .nil)) ⟨⟨rfl, by decide⟩, ⟨rfl, by decide⟩, trivial⟩ rfl)) h) ?_
          refine iops_yield (x := ((i : Int), (j : Int))) hy hdat rfl (.cons rfl .nil) hpre rfl (fun yb => ?_)
          refine iops_of hJ rfl (fun c1 _ _ _ h => by exact aops_q rfl ((q_not rfl)) h) ?_
          refine iops_nil ?_
          change Iwp _ _ _ _ _ _ _
          refine iwp_cond rfl (fun hc7 => ?_) (fun hc7 => ?_)
          ·
            (try simp only [nb, ne_eq] at hc7)
            have hyb : yb = false := by cases yb <;> first | rfl | (exfalso; simp_all; done)
            refine iwp_ret ?_
            exact ⟨.inl rfl, fun h => by rw [hyb] at h; cases h⟩
          ·
            (try simp only [nb, ne_eq] at hc7)
            have hyb : yb = true := by cases yb <;> first | rfl | (exfalso; simp_all; done)
            refine iwp_skip ?_
            change Iwp _ _ _ _ _ _ _
            apply iwp_reg hJ
            ·
              intro c1 hmine hrnd
              refine awp_region 2 mixed (by kernel_rfl) ?_
              refine rg_q (q_add rfl rfl (In64.mk (by omega) (by omega))) ?_
              refine rg_q (q_m rfl) ?_
              refine rn ?_
              exact ⟨rfl, rfl⟩
            refine ⟨j + 1, by omega, by omega, by rw [hyb, prK_succ, List.append_assoc], fun c1 => ?_⟩
            exact le_head (ms := []) (by repeat (first | exact Out.head rfl rfl | (refine Out.put ?_ rfl))) ⟨(by rfl), trivial⟩ trivial rfl rfl rfl rfl
        ·
          (try simp only [nb, ne_eq] at hc5)
          have hjn : j = a.el.length := by omega
          refine iwp_exit ?_
          change Iwp _ _ _ _ _ _ _
          apply iwp_reg hJ
          ·
            intro c1 hmine hrnd
            refine awp_region 2 mixed (by kernel_rfl) ?_
            refine rg_q (q_add rfl rfl (In64.mk (by omega) (by omega))) ?_
            refine rg_q (q_m rfl) ?_
            refine rn ?_
            exact ⟨rfl, rfl⟩
          refine ⟨i + 1, by omega, by omega, by rw [hjn, prF_succ], fun c1 => ?_⟩
          exact le_head (ms := []) (by repeat (first | exact Out.head rfl rfl | (refine Out.put ?_ rfl) | (refine Out.headIn ?_ rfl rfl rfl))) ⟨(by rfl), trivial⟩ trivial rfl rfl rfl rfl
    ·
      (try simp only [nb, ne_eq] at hc2)
      have hin : i = a.el.length := by omega
      refine iwp_exit ?_
      exact ⟨.inr rfl, fun _ => by rw [hin]; rfl⟩

end Go.Proofs.YtphlaicnmmglhaaGreat.Am.M
-- mini
namespace Go.Proofs.YtphlaicnmmglhaaGreat.Am.M
open Go

def fvC (v : Int) : List D := [fv v]
def mtS (s : Spc) (p : Int × Int) : List Int := smT s.ar s.pl p (ptsS s) (ptsS s).length
def bigP (s : Spc) (p : Int × Int) : Bool := (mtS s p).any bigB
def mxB (s : Spc) (l : List (Int × Int)) : List Int := l.flatMap (mtS s)
def mxR (s : Spc) : (Int × List Int) × Int := if (ckSpc s).2 ≠ 0 then ((0, []), (ckSpc s).2) else if (prL s.ar.el.length).any (bigP s) = true then ((0, []), 8) else (((s.ar.el.length : Int), mxB s (prL s.ar.el.length)), 0)
def mxC (m : Int × List Int) : List D := [.v (.int .i64 m.1), .sl 1 (m.2.map fvC)]
theorem mtS_len (s : Spc) (p : Int × Int) : (mtS s p).length = 64 := smT_len _
theorem mt_row (s : Spc) (p : Int × Int) : (((mtS s p).map fv).map fun d => [d]) = (mtS s p).map fvC := by rw [List.map_map]; rfl
theorem mxB_len (s : Spc) : ∀ l : List (Int × Int), (mxB s l).length = 64 * l.length
  | [] => rfl
  | p :: l => by
    have ih := mxB_len s l
    unfold mxB at ih ⊢
    rw [List.flatMap_cons, List.length_append, mtS_len, ih, List.length_cons]; omega
theorem mxB_snoc (s : Spc) (l : List (Int × Int)) (p : Int × Int) : mxB s (l ++ [p]) = mxB s l ++ mtS s p := by unfold mxB; rw [List.flatMap_append]; simp
theorem trc_big {s : Spc} {p : Int × Int} (h : bigP s p = true) : trcR s (ptsS s) p = (z64, 8) := by unfold trcR; rw [if_pos (show (smT s.ar s.pl p (ptsS s) (ptsS s).length).any bigB = true from h)]
theorem trc_ok {s : Spc} {p : Int × Int} (h : bigP s p = false) : trcR s (ptsS s) p = ((mtS s p).map fv, 0) := by unfold trcR; rw [if_neg (by rw [show (smT s.ar s.pl p (ptsS s) (ptsS s).length).any bigB = false from h]; decide)]; rfl
theorem any_snoc {s : Spc} {l : List (Int × Int)} {p : Int × Int} (h1 : l.any (bigP s) = false) (h2 : bigP s p = false) : (l ++ [p]).any (bigP s) = false := by rw [List.any_append, h1, List.any_cons, h2]; rfl
theorem take_snoc {α : Type} {l : List α} {k : Nat} {y : α} (hy : l[k]? = some y) : l.take (k + 1) = l.take k ++ [y] := by rw [List.take_succ_eq_append_getElem (List.getElem?_eq_some_iff.1 hy).1, (List.getElem?_eq_some_iff.1 hy).2]
theorem trR_len (s : Spc) (p : Int × Int) : (trcR s (ptsS s) p).1.length = 64 := trcR_len s (ptsS s) p
set_option maxRecDepth 100000 in
theorem matrixBad_p (s : Spc) (h0 : (ckSpc s).2 ≠ 0) : PC Tryz.prog 78 [.agg (spcC s)] (.tup [.agg (mxC (mxR s).1), .v (.int .i64 ((mxR s).2))]) := by
 have hos : osR s = (zOp, (ckSpc s).2) := by unfold osR; rw [if_pos h0]
 have hz : mxR s = ((0, []), (ckSpc s).2) := by unfold mxR; rw [if_pos h0]
 refine pc_of_awpN Tryz.func78 rfl Tryz.ntmps78 (rs := [.cell 2 31, .cell 3 40]) Tryz.results78 (by simp) fun w0 hmine hrnd hpn => ?_
 refine awp_seq ?_
 refine awp_region 1 mixed (by kernel_rfl) ?_
 refine rg_q (q_box rfl (by exact .inr ⟨_, rfl⟩)) ?_
 refine rg_nil ?_
 refine aops_alloc zr31 rfl rfl rfl ?_
 refine aops_alloc zr40 rfl rfl rfl ?_
 refine aops_nil ?_
 change Awp _ _ _ _ _
 refine awp_seq ?_
 refine awp_region 5 mixed (by kernel_rfl) ?_
 refine rg_q (q_loadA sz130 rfl rfl rfl) ?_
 refine rg_q (q_call en146 (.cons rfl .nil) rfl ((by have h := openSpecimen_p s; rw [hos] at h; exact h))) ?_
 refine rg_q (q_move (x := .d (.tup _)) rfl) (rg_q (q_extract rfl rfl) (rg_q (q_extract rfl rfl) ?_))
 refine rg_nil ?_
 refine aops_alloc zr245 rfl rfl rfl ?_
 refine aops_store sz245 rfl rfl (by exact .inr ⟨_, rfl⟩) rfl rfl (by decide) rfl ?_
 refine aops_q rfl (q_a rfl) ?_
 refine aops_nil ?_
 change Awp _ _ _ _ _
 refine awp_seq ?_
 refine awp_seq ?_
 refine awp_region 2 mixed (by kernel_rfl) ?_
 refine rg_q (q_m rfl) (rg_q (q_neq rfl rfl) ?_)
 refine rn ?_
 change Awp _ _ _ _ _
 refine awp_cond rfl (fun hc2 => ?_) (fun hc2 => ?_)
 ·
  (try simp only [nb, ne_eq] at hc2)
  refine awp_seq ?_
  refine awp_region 2 mixed (by kernel_rfl) ?_
  refine rg_q (q_build (cs := [_, _]) pl31 zr31 rfl .nil trivial rfl) ?_
  refine rg_q (q_m rfl) ?_
  refine rg_nil ?_
  refine aops_store sz31 rfl rfl (by exact .inr ⟨_, rfl⟩) rfl rfl (by decide) rfl ?_
  refine aops_store sz40 rfl rfl (by exact .inl rfl) rfl rfl (by decide) rfl ?_
  refine aops_nil ?_
  change Awp _ _ _ _ _
  refine Awp.le (le_upB 2 (mxC (0, [])) rfl (.cons (.same _) (.cons (.nil 1) .nil))) ?_
  refine awp_ret ?_
  refine ⟨_, (.cons (.cellA rfl rfl sz31 rfl) (.cons (.cell1 rfl rfl sz40) .nil)), ?_⟩
  rw [hz]; rfl
 ·
  exact absurd (Decidable.not_not.1 (of_decide_eq_false hc2)) h0
set_option maxRecDepth 100000 in
theorem matrixOk_p (s : Spc) (h0 : (ckSpc s).2 = 0) : PC Tryz.prog 78 [.agg (spcC s)] (.tup [.agg (mxC (mxR s).1), .v (.int .i64 ((mxR s).2))]) := by
 have hos : osR s = (opnS s (ptsS s), 0) := by unfold osR; rw [if_neg (fun q => q h0)]
 have hsp := spc_ok h0
 have hok := hsp.ar
 have hn2 := hok.n2
 have hp1 := hsp.p1
 have hpl := prL_len hn2
 obtain ⟨hP1, hP2⟩ := ptsS_in hsp
 refine pc_of_awpN Tryz.func78 rfl Tryz.ntmps78 (rs := [.cell 2 31, .cell 3 40]) Tryz.results78 (by simp) fun w0 hmine hrnd hpn => ?_
 refine awp_seq ?_
 refine awp_region 1 mixed (by kernel_rfl) ?_
 refine rg_q (q_box rfl (by exact .inr ⟨_, rfl⟩)) ?_
 refine rg_nil ?_
 refine aops_alloc zr31 rfl rfl rfl ?_
 refine aops_alloc zr40 rfl rfl rfl ?_
 refine aops_nil ?_
 change Awp _ _ _ _ _
 refine awp_seq ?_
 refine awp_region 5 mixed (by kernel_rfl) ?_
 refine rg_q (q_loadA sz130 rfl rfl rfl) ?_
 refine rg_q (q_call en146 (.cons rfl .nil) rfl ((by have h := openSpecimen_p s; rw [hos] at h; exact h))) ?_
 refine rg_q (q_move (x := .d (.tup _)) rfl) (rg_q (q_extract rfl rfl) (rg_q (q_extract rfl rfl) ?_))
 refine rg_nil ?_
 refine aops_alloc zr245 rfl rfl rfl ?_
 refine aops_store sz245 rfl rfl (by exact .inr ⟨_, rfl⟩) rfl rfl (by decide) rfl ?_
 refine aops_q rfl (q_a rfl) ?_
 refine aops_nil ?_
 change Awp _ _ _ _ _
 refine awp_seq ?_
 refine awp_seq ?_
 refine awp_region 2 mixed (by kernel_rfl) ?_
 refine rg_q (q_m rfl) (rg_q (q_neq rfl rfl) ?_)
 refine rn ?_
 change Awp _ _ _ _ _
 refine awp_cond rfl (fun hc2 => ?_) (fun hc2 => ?_)
 ·
  exact absurd rfl (of_decide_eq_true hc2)
 ·
  (try simp only [nb, ne_eq] at hc2)
  refine awp_skip ?_
  change Awp _ _ _ _ _
  refine awp_seq ?_
  refine awp_region 6 mixed (by kernel_rfl) ?_
  refine rg_q (q_fieldAddr_ref fld245_0 rfl) (rg_q (q_fieldAddr_ref fld242_0 rfl) (rg_q (q_fieldAddr_ref fld28_0 rfl) (rg_q (q_load_ref sz22 rfl rfl rfl) ?_)))
  refine rg_q (q_len isl22 rfl (by exact len_map _ _)) ?_
  refine rg_q (q_build (cs := [_, _]) pl31 zr31 rfl (.cons rfl (by exact .inl rfl) .nil) ⟨⟨rfl, by decide⟩, trivial⟩ rfl) ?_
  refine rg_nil ?_
  refine aops_alloc zr31 rfl rfl rfl ?_
  refine aops_store sz31 rfl rfl (by exact .inr ⟨_, rfl⟩) rfl rfl (by decide) rfl ?_
  refine aops_nil ?_
  change Awp _ _ _ _ _
  refine awp_len (t := 22) rfl (fun hl22 => ?_)
  (try simp only [List.length_map] at hl22)
  refine awp_seq ?_
  refine awp_seq ?_
  refine awp_region 3 mixed (by kernel_rfl) ?_
  refine rg_q (q_fieldAddr_ref fld245_0 rfl) ?_
  refine rg_q (q_load_refA (ds := [_, _, _, _, _, _, _, _, _, _, _]) sz242 rfl rfl rfl rfl) ?_
  refine rg_q (q_makeMfn (.cons rfl .nil)) ?_
  refine rn ?_
  change Awp _ _ _ _ _
  refine awp_block ?_
  refine Awp.le (le_upB 2 (mxC (0, [])) rfl (.cons (.same _) (.cons (.nil 1) .nil))) ?_
  refine Awp.le (le_freeze 4 4 0 (cs := (opnS s (ptsS s))) rfl rfl rfl rfl hmine) ?_
  refine Awp.le (le_ownB 6 42 1 117 1 rfl rfl rfl) ?_
  refine awp_rangeC (α := Int × Int) (β := Nat × Int) (n := 45) (enc := encP) (items := prL s.ar.el.length) 1000 [(2, .ref 2 0), (3, .ref 3 0), (4, .d (.pt (opnS s (ptsS s)) 0)), (6, .ref 6 0), (27, .d (.mfn (.func 147) [.agg (arrC s.ar)]))] (fun x => [(2, .box (mxC (0, []))), (3, .box [.v (.int .i64 (x.2))]), (6, .tbox [.d (.v (.int .i64 ((s.ar.el.length : Int)))), .rs 42]), (42, .row 117 1 ((mxB s ((prL s.ar.el.length).take x.1)).map fvC))]) (fun k x => x.1 = k ∧ k ≤ (prL s.ar.el.length).length ∧ x.2 = 0 ∧ ((prL s.ar.el.length).take k).any (bigP s) = false) (fun e x => e = Exit.ret ∧ x.2 = 8 ∧ (prL s.ar.el.length).any (bigP s) = true) (0, 0) hrnd ?_ (.inl ⟨rfl, rfl⟩) en147 (pairs_i s.ar) rfl (fun _ => rfl) rfl (fun _ => by repeat first | exact trivial | refine ⟨by exact D.Flat.aggF (by repeat first | exact trivial | refine ⟨.v _, ?_⟩), ?_⟩) (fun _ => rfl) ⟨rfl, Nat.zero_le _, rfl, rfl⟩ (fun h => by cases h) ?_ ?_ ?_
  · exact le_cst (fun k => k) _ _ rfl ⟨(by rfl), (by rfl), (by rfl), (by rfl), (by rfl), trivial⟩ ⟨(by rfl), (by rfl), (by rfl), (by rfl), trivial⟩ rfl (fun k b h => by rw [hpn k] at h; cases h)
  ·
   intro w1 hw1 k x y hI hy
   obtain ⟨h1, hk, hv0, hf⟩ := hI
   obtain ⟨x, e0⟩ := x
   simp only at h1 hv0
   subst h1 hv0
   have hpy := prL_in (List.mem_of_getElem? hy)
   have hxl : x < (prL s.ar.el.length).length := (List.getElem?_eq_some_iff.1 hy).1
   have hml := mxB_len s ((prL s.ar.el.length).take x)
   have hm64 := mtS_len s y
   have htl : ((prL s.ar.el.length).take x).length ≤ 256 := by rw [List.length_take]; omega
   have hs1 : (mxB s ((prL s.ar.el.length).take x)).map fvC ++ (mtS s y).map fvC = (mxB s ((prL s.ar.el.length).take (x + 1))).map fvC := by rw [take_snoc hy, mxB_snoc, List.map_append]
   refine awp_region 0 mixed (by kernel_rfl) ?_
   refine rg_nil ?_
   refine aops_alloc zr63 rfl rfl rfl ?_
   refine aops_store sz63 rfl rfl (by exact .inr ⟨_, rfl⟩) rfl rfl (by decide) rfl ?_
   refine aops_nil ?_
   refine ⟨rfl, fun w2 hw2 => ?_⟩
   refine awp_block ?_
   refine awp_seq ?_
   refine awp_region 6 mixed (by kernel_rfl) ?_
   refine rg_q (q_loadA sz245 rfl rfl rfl) ?_
   refine rg_q (q_load_refA (ds := [_, _]) sz63 rfl rfl rfl rfl) ?_
   refine rg_q (q_call en148 (.cons rfl (.cons rfl .nil)) rfl (traceOf_p s (ptsS s) y hok hpy hsp.p1 hsp.p2 hP1 hP2)) ?_
   refine rg_q (q_move (x := .d (.tup _)) rfl) (rg_q (q_extract rfl rfl) (rg_q (q_extract rfl rfl) ?_))
   refine rg_nil ?_
   refine aops_allocD zr236 rfl sz236 rfl rfl (by exact .inr ⟨_, rfl⟩) (trR_len s y) rfl ?_
   refine aops_q rfl (q_a rfl) ?_
   refine aops_nil ?_
   change Awp _ _ _ _ _
   refine awp_seq ?_
   refine awp_seq ?_
   refine awp_region 2 mixed (by kernel_rfl) ?_
   refine rg_q (q_m rfl) (rg_q (q_neq rfl rfl) ?_)
   refine rn ?_
   change Awp _ _ _ _ _
   refine awp_cond rfl (fun hc8 => ?_) (fun hc8 => ?_)
   ·
    (try simp only [nb, ne_eq] at hc8)
    have hb : bigP s y = true := by
     cases q : bigP s y with
     | true => rfl
     | false => rw [trc_ok q] at hc8; exact absurd rfl hc8
    rw [trc_big hb]
    refine awp_seq ?_
    refine awp_region 2 mixed (by kernel_rfl) ?_
    refine rg_q (q_build (cs := [_, _]) pl31 zr31 rfl .nil trivial rfl) ?_
    refine rg_q (q_m rfl) ?_
    refine rg_nil ?_
    refine aops_store sz31 rfl rfl (by exact .inr ⟨_, rfl⟩) rfl rfl (by decide) rfl ?_
    refine aops_store sz40 rfl rfl (by exact .inl rfl) rfl rfl (by simp; done) rfl ?_
    refine aops_nil ?_
    change Awp _ _ _ _ _
    refine Awp.le (le_upB 1002 (mxC (0, [])) rfl (.cons (.same _) (.cons (.nil 1) .nil))) ?_
    refine awp_ret ?_
    refine .inr ⟨rfl, (x, 8), ⟨rfl, rfl, List.any_eq_true.2 ⟨y, List.mem_of_getElem? hy, hb⟩⟩, ?_⟩
    exact le_round [] _ hw2 rfl ⟨(by rfl), (by rfl), (by rfl), (by rfl), trivial⟩ rfl
   ·
    (try simp only [nb, ne_eq] at hc8)
    have hb : bigP s y = false := by
     cases q : bigP s y with
     | false => rfl
     | true => rw [trc_big q] at hc8; cases hc8
    rw [trc_ok hb]
    refine awp_skip ?_
    change Awp _ _ _ _ _
    refine awp_early (i := 4) mixed rfl (by kernel_rfl) fld31_1 rfl ?_
    refine any_regionC 6 [0, 1, 3, 5] [1042, 1006] (by kernel_rfl) ?_
    refine rgc_c rfl rfl (c_q (q_fieldAddr_ref fld31_1 rfl)) ?_
    refine rgc_c rfl rfl (c_q (q_load_tb (x := .rs _) sz29 rfl rfl rfl)) ?_
    refine rgc_q rfl (q_sliceP (es := (mtS s y).map fvC) ar236 rfl (by show ((mtS s y).map fv).length = 64; rw [List.length_map, mtS_len]) (by decide) (by decide) (by show (((mtS s y).map fv).map fun d => [d]) = _; exact mt_row s y)) rfl ?_
    refine rgc_c rfl rfl (c_append (es' := (mxB s ((prL s.ar.el.length).take (x + 1))).map fvC) sl29 zr117 by117 rfl (by decide) rfl rfl rfl rfl (by (try simp only [List.length_map, List.length_append, List.length_cons, List.length_nil]); omega) (by (try simp only [List.length_map, List.length_append, List.length_cons, List.length_nil]); omega) hs1) ?_
    refine rgc_q rfl (q_move (x := .d (.v (.bool true))) rfl) rfl ?_
    refine rgc_c rfl rfl ((c_storeR sz29 rfl rfl rfl (by simp) rfl)) ?_
    refine rgc_nil ?_
    refine aops_nil ?_
    refine ⟨rfl, ?_⟩
    refine .inl ⟨rfl, (x + 1, 0), ⟨rfl, hxl, rfl, by rw [take_snoc hy]; exact any_snoc hf hb⟩, ?_⟩
    exact le_round [] _ hw2 rfl ⟨(by rfl), (by rfl), (by rfl), (by rfl), trivial⟩ rfl
  ·
   intro x hI
   obtain ⟨h1, hk, hv0, hf⟩ := hI
   obtain ⟨x, e0⟩ := x
   simp only at h1 hv0
   subst h1 hv0
   rw [List.take_length] at *
   change Awp _ _ _ _ _
   refine awp_seq ?_
   refine Awp.le (le_freezeTB 6 42 1 rfl rfl rfl rfl hmine) ?_
   refine Awp.le (le_boxT 6 (mxC ((s.ar.el.length : Int), mxB s (prL s.ar.el.length))) rfl rfl (by intro j d h; match j, h with | 0, h => cases h; rfl | 1, h => cases h; rfl)) ?_
   refine awp_region 1 mixed (by kernel_rfl) ?_
   refine rg_q (q_load_refA (ds := [_, _]) sz31 rfl rfl rfl rfl) ?_
   refine rg_nil ?_
   refine aops_store sz31 rfl rfl (by exact .inr ⟨_, rfl⟩) rfl rfl (by decide) rfl ?_
   refine aops_store sz40 rfl rfl (by exact .inl rfl) rfl rfl (by simp; done) rfl ?_
   refine aops_nil ?_
   change Awp _ _ _ _ _
   refine awp_ret ?_
   refine ⟨_, (.cons (.cellA rfl rfl sz31 rfl) (.cons (.cell1 rfl rfl sz40) .nil)), ?_⟩
   have hz : mxR s = (((s.ar.el.length : Int), mxB s (prL s.ar.el.length)), 0) := by unfold mxR; rw [if_neg (fun q => q h0), if_neg (by rw [hf]; decide)]
   rw [hz]; rfl
  ·
   rintro e x (⟨rfl, hX⟩)
   ·
    refine ⟨_, (.cons (.cellA rfl rfl sz31 rfl) (.cons (.cell1 rfl rfl sz40) .nil)), ?_⟩
    have hz : mxR s = ((0, []), 8) := by unfold mxR; rw [if_neg (fun q => q h0), if_pos hX.2]
    rw [hz, hX.1]; rfl
end Go.Proofs.YtphlaicnmmglhaaGreat.Am.M
namespace Go.Proofs.YtphlaicnmmglhaaGreat.Am.M
open Go

theorem big_in {v : Int} (h : bigB v ≠ true) : -2047 ≤ v ∧ v ≤ 2047 := by
  unfold bigB inR at h
  simp at h; omega
theorem mx_at5 (s : Spc) {n f r : Nat} (hf : f < n) (hr : r < n) {i : Nat} (hi : i < 64) : (mxB s (prL n))[(f * n + r) * 64 + i]? = (mtS s ((f : Int), (r : Int)))[i]? := by
  obtain ⟨t, ht⟩ := pr_pre (n := n) (i := f) (j := r + 1) hf hr
  have e : mxB s (prL n) = mxB s (prF n f ++ prR f r) ++ (mtS s ((f : Int), (r : Int)) ++ mxB s t) := by
    rw [← ht, prK_succ]; unfold mxB; simp only [List.flatMap_append, List.append_assoc]; simp
  have hl : (mxB s (prF n f ++ prR f r)).length = (f * n + r) * 64 := by
    rw [mxB_len, List.length_append, prF_len]; unfold prR; rw [List.length_map, List.length_range, Nat.mul_comm]
  rw [e, ← hl, List.getElem?_append_right (by omega), Nat.add_sub_cancel_left, List.getElem?_append_left (by rw [mtS_len]; exact hi)]
theorem mx_in5 {s : Spc} {n : Nat} (h : (prL n).any (bigP s) = false) : ∀ v ∈ mxB s (prL n), -2047 ≤ v ∧ v ≤ 2047 := by
  intro v hv
  obtain ⟨p, hp, hv⟩ := List.mem_flatMap.1 hv
  have h1 := List.any_eq_false.1 h p hp
  exact big_in fun q => h1 (List.any_eq_true.2 ⟨v, hv, q⟩)
theorem vI_near {v : Int} (h1 : -2047 ≤ v) (h2 : v ≤ 2047) : vI (FloatKind.f32.nearest v) = v := (whl_fn h1 h2).v
theorem chK_le5 (l : List Nat) (m : Nat) : (chK l m).length ≤ 64 := by
  unfold chK; rw [List.length_drop, List.length_take]; omega
def taS (s : Spc) (g : Grd) : Tsk := ⟨s.ar, (s.ar.el.length : Int), (mxB s (prL s.ar.el.length)).map FloatKind.f32.nearest, g⟩
theorem ta_row (s : Spc) : (mxB s (prL s.ar.el.length)).map fvC = ((mxB s (prL s.ar.el.length)).map FloatKind.f32.nearest).map fC := by rw [List.map_map]; rfl
theorem ta_smp {s : Spc} {g : Grd} (hb : (prL s.ar.el.length).any (bigP s) = false) {y : Int × Int} (hp : (0 ≤ y.1 ∧ y.1 < s.ar.el.length) ∧ 0 ≤ y.2 ∧ y.2 < s.ar.el.length) : smpS (taS s g) y = mtS s y := by
  obtain ⟨a, b⟩ := y
  obtain ⟨⟨h1, h2⟩, h3, h4⟩ := hp
  simp only at h1 h2 h3 h4
  obtain ⟨u, rfl⟩ := Int.eq_ofNat_of_zero_le h1
  obtain ⟨r, rfl⟩ := Int.eq_ofNat_of_zero_le h3
  obtain ⟨n, hn⟩ : ∃ n, n = s.ar.el.length := ⟨_, rfl⟩
  have e0 : ((u : Int) * (s.ar.el.length : Int) + (r : Int)).toNat = u * s.ar.el.length + r := by
    rw [show ((u : Int) * (s.ar.el.length : Int) + (r : Int)) = ((u * s.ar.el.length + r : Nat) : Int) by rw [Int.natCast_add, Int.natCast_mul]]
    exact Int.toNat_natCast _
  apply List.ext_getElem?
  intro i
  show ((chK ((mxB s (prL s.ar.el.length)).map FloatKind.f32.nearest) ((u : Int) * (s.ar.el.length : Int) + (r : Int)).toNat).map vI)[i]? = _
  rw [e0, List.getElem?_map]
  by_cases hi : i < 64
  · have e1 : 64 * (u * s.ar.el.length + r) + i = (u * s.ar.el.length + r) * 64 + i := by omega
    have hx := mx_at5 s (n := s.ar.el.length) (f := u) (r := r) (by omega) (by omega) hi
    obtain ⟨v, hv⟩ : ∃ v, (mtS s ((u : Int), (r : Int)))[i]? = some v := ⟨_, List.getElem?_eq_getElem (by rw [mtS_len]; exact hi)⟩
    rw [hv] at hx
    obtain ⟨v1, v2⟩ := mx_in5 hb v (List.mem_of_getElem? hx)
    rw [chK_at hi, List.getElem?_map, e1, hx, hv]
    show some (vI (FloatKind.f32.nearest v)) = some v
    rw [vI_near v1 v2]
  · have h1 := chK_le5 ((mxB s (prL s.ar.el.length)).map FloatKind.f32.nearest) (u * s.ar.el.length + r)
    rw [List.getElem?_eq_none (by omega), List.getElem?_eq_none (by rw [mtS_len]; omega)]; rfl
def onS (ar : Arr) (p0 : Int) (x : Int × Int) (am : Int) : Spc := ⟨ar, [p0], [⟨0, x, (0, 0), 0, am, 0⟩]⟩
theorem on_mt (ar : Arr) (p0 : Int) (x : Int × Int) (am : Int) (y : Int × Int) : mtS (onS ar p0 x am) y = adT zI [p0] am (smpI ar x y) 1 := rfl
theorem on_at (ar : Arr) (p0 : Int) (x : Int × Int) (am : Int) (y : Int × Int) (i : Nat) : sAt (mtS (onS ar p0 x am) y) i = if i < 64 ∧ (i : Int) = smpI ar x y then am * p0 else 0 := by
  rw [on_mt]
  unfold sAt
  by_cases hi : i < 64
  · rw [adT_at 1 i (by show i < 64; exact hi) rfl]
    have e0 : zI.getD i 0 = 0 := by
      unfold zI
      rw [List.getD_eq_getElem?_getD, List.getElem?_replicate_of_lt hi]; rfl
    rw [e0]
    by_cases ht : (i : Int) = smpI ar x y
    · rw [if_pos ⟨by omega, by omega⟩, if_pos ⟨hi, ht⟩, show ((i : Int) - smpI ar x y).toNat = 0 by omega]
      show 0 + am * p0 = _
      omega
    · rw [if_neg (by omega), if_neg (fun q => ht q.2)]; rfl
  · rw [if_neg (fun q => hi q.1), List.getD_eq_getElem?_getD, List.getElem?_eq_none (by rw [adT_len]; show 64 ≤ i; omega)]; rfl
theorem on_le (ar : Arr) (p0 : Int) (x : Int × Int) (am : Int) (y : Int × Int) (k : Nat) (hk : k ≤ 60) : (reI (mtS (onS ar p0 x am) y) k).natAbs + (imI (mtS (onS ar p0 x am) y) k).natAbs ≤ (am * p0).natAbs := by
  unfold reI imI
  rw [on_at, on_at, on_at, on_at]
  generalize am * p0 = A
  generalize smpI ar x y = t
  (repeat' split) <;> omega
theorem on_eq (ar : Arr) (p0 : Int) (x : Int × Int) (am : Int) (y : Int × Int) (k : Nat) (hk : k ≤ 60) (ht : (k : Int) = smpI ar x y) : reI (mtS (onS ar p0 x am) y) k = am * p0 ∧ imI (mtS (onS ar p0 x am) y) k = 0 := by
  unfold reI imI
  rw [on_at, on_at, on_at, on_at, if_pos ⟨by omega, ht⟩, if_neg (by omega), if_neg (by omega), if_neg (by omega)]
  omega
theorem vlA_cons (t : Tsk) (c : Int) (y : Int × Int) (l : List (Int × Int)) : vlA t c [] (y :: l) = (((vlF t c [] ((0, 0), 0) y).1.1 + (vlA t c [] l).1.1, (vlF t c [] ((0, 0), 0) y).1.2 + (vlA t c [] l).1.2), (vlF t c [] ((0, 0), 0) y).2 + (vlA t c [] l).2) := vlA_add t c l _
theorem vl_abs {t : Tsk} {c : Int} {M : Nat} : ∀ l : List (Int × Int), (∀ y ∈ l, inR 0 (smpI t.ar (spI t.g c) y) 60 = true → (reI (smpS t y) (smpI t.ar (spI t.g c) y).toNat).natAbs + (imI (smpS t y) (smpI t.ar (spI t.g c) y).toNat).natAbs ≤ M) → (vlA t c [] l).1.1.natAbs + (vlA t c [] l).1.2.natAbs ≤ l.length * M
  | [], _ => by show 0 + 0 ≤ 0 * M; omega
  | y :: l, h => by
    have ih := vl_abs l (fun z hz => h z (List.mem_cons_of_mem _ hz))
    have hy := h y (List.mem_cons_self ..)
    rw [vlA_cons, vlF_nil, List.length_cons, Nat.succ_mul]
    by_cases q : inR 0 (smpI t.ar (spI t.g c) y) 60 = true
    · rw [if_pos q]
      have hy := hy q
      simp only
      omega
    · rw [if_neg q]
      simp only
      omega
theorem vl_full {t : Tsk} {c A : Int} : ∀ l : List (Int × Int), (∀ y ∈ l, inR 0 (smpI t.ar (spI t.g c) y) 60 = true → reI (smpS t y) (smpI t.ar (spI t.g c) y).toNat = A ∧ imI (smpS t y) (smpI t.ar (spI t.g c) y).toNat = 0) → (vlA t c [] l).2 ≤ (l.length : Int) ∧ ((vlA t c [] l).2 = (l.length : Int) → (vlA t c [] l).1 = ((l.length : Int) * A, 0))
  | [], _ => ⟨by show (0 : Int) ≤ ((0 : Nat) : Int); omega, fun _ => by show ((0 : Int), (0 : Int)) = (((0 : Nat) : Int) * A, 0); simp⟩
  | y :: l, h => by
    obtain ⟨i1, i2⟩ := vl_full l (fun z hz => h z (List.mem_cons_of_mem _ hz))
    have hy := h y (List.mem_cons_self ..)
    rw [vlA_cons, vlF_nil]
    have el : ((y :: l).length : Int) = (l.length : Int) + 1 := by rw [List.length_cons]; omega
    rw [el]
    by_cases q : inR 0 (smpI t.ar (spI t.g c) y) 60 = true
    · rw [if_pos q]
      obtain ⟨y1, y2⟩ := hy q
      refine ⟨by simp only; omega, fun hq => ?_⟩
      simp only at hq
      have := i2 (by omega)
      rw [this, y1, y2]
      simp only [Prod.mk.injEq]
      exact ⟨by rw [Int.add_mul]; omega, by omega⟩
    · rw [if_neg q]
      refine ⟨by simp only; omega, fun hq => ?_⟩
      simp only at hq
      omega
def pwV (v : Int × Int) : Int := v.1 * v.1 + v.2 * v.2
def pwQ (t : Tsk) (k : Nat) : Int := pwV (vlA t (k : Int) [] (evL t)).1
theorem pw_img {t : Tsk} (h : TskOk t) : pwR (rimF t (evL t) (clN t)) = ((List.range (clN t)).map (pwQ t), 0) := by
  have hcl := cl_le h
  have hz : ∀ c : Nat, peI (czP (vlA t (c : Int) [] (evL t)).1) = 0 ∧ vZ (czP (vlA t (c : Int) [] (evL t)).1) = (vlA t (c : Int) [] (evL t)).1 := fun c => by
    have := vs_in h (c : Int) (ev_ok h).2
    exact cz_ok (by omega) (by omega)
  have hp : ∀ l : List Nat, peS (l.map fun c : Nat => czP (vlA t (c : Int) [] (evL t)).1) = 0 := by
    intro l
    induction l with
    | nil => rfl
    | cons c l ih =>
      rw [List.map_cons]
      unfold peS
      rw [if_neg (fun q => q (hz c).1)]
      exact ih
  unfold pwR
  rw [rimF_len, if_neg (by omega), if_neg (fun q => q (hp _))]
  congr 1
  unfold rimF
  rw [List.map_map]
  refine List.map_congr_left fun c _ => ?_
  show sqZ _ = pwV _
  unfold sqZ pwV
  rw [(hz c).2]
theorem sq_le5 {a b M : Int} (h : (a.natAbs + b.natAbs : Nat) ≤ M.natAbs) : a * a + b * b ≤ M * M := by
  have ha := Int.natAbs_mul_self (a := a)
  have hb := Int.natAbs_mul_self (a := b)
  have hM := Int.natAbs_mul_self (a := M)
  rw [← ha, ← hb, ← hM, ← Int.natCast_add]
  refine Int.ofNat_le.2 ?_
  have h1 := Nat.mul_le_mul h h
  have h2 : (a.natAbs + b.natAbs) * (a.natAbs + b.natAbs) = a.natAbs * a.natAbs + b.natAbs * b.natAbs + 2 * (a.natAbs * b.natAbs) := by grind
  omega
theorem ev_len {s : Spc} {g : Grd} : (evL (taS s g)).length = s.ar.el.length * s.ar.el.length := by
  unfold evL
  rw [pqL_len, allL_len]
  show (s.ar.el.length : Int).toNat * (s.ar.el.length : Int).toNat = _
  rw [Int.toNat_natCast]
theorem peak {ar : Arr} {p0 am : Int} {g : Grd} {c : Int} (hb : (prL ar.el.length).any (bigP (onS ar p0 (spI g c) am)) = false) (h0 : 0 ≤ c) (hf : (vlA (taS (onS ar p0 (spI g c) am) g) c [] (evL (taS (onS ar p0 (spI g c) am) g))).2 = (ar.el.length : Int) * ar.el.length) :
    pwQ (taS (onS ar p0 (spI g c) am) g) c.toNat = ((ar.el.length : Int) * ar.el.length * am * p0) * ((ar.el.length : Int) * ar.el.length * am * p0) ∧ ∀ k : Nat, pwQ (taS (onS ar p0 (spI g c) am) g) k ≤ pwQ (taS (onS ar p0 (spI g c) am) g) c.toNat := by
  obtain ⟨t, ht⟩ : ∃ t, t = taS (onS ar p0 (spI g c) am) g := ⟨_, rfl⟩
  have hin : ∀ y ∈ evL t, (0 ≤ y.1 ∧ y.1 < ar.el.length) ∧ 0 ≤ y.2 ∧ y.2 < ar.el.length := fun y hy => by
    rw [ht] at hy
    obtain ⟨q1, q2, q3⟩ := pqL_in hy
    have q1 := allL_in q1
    have e : (((taS (onS ar p0 (spI g c) am) g).ne.toNat : Nat) : Int) = ar.el.length := by show (((ar.el.length : Int).toNat : Nat) : Int) = _; rw [Int.toNat_natCast]
    rw [e] at q1 q3
    exact ⟨q1, q2, q3⟩
  have hs : ∀ y ∈ evL t, smpS t y = mtS (onS ar p0 (spI g c) am) y := fun y hy => by rw [ht]; exact ta_smp hb (hin y hy)
  have hlen : (evL t).length = ar.el.length * ar.el.length := by rw [ht]; exact ev_len
  have har : t.ar = ar := by rw [ht]; rfl
  have hg : t.g = g := by rw [ht]; rfl
  rw [← ht] at hf ⊢
  have hfull := (vl_full (t := t) (c := c) (A := am * p0) (evL t) (fun y hy q => by
    rw [hs y hy, har, hg] at *
    have := inR_iff.1 q
    exact on_eq ar p0 (spI g c) am y _ (by omega) (by omega))).2 (by rw [hf, hlen, Int.natCast_mul])
  have hc : ((c.toNat : Nat) : Int) = c := by omega
  have e1 : pwQ t c.toNat = ((ar.el.length : Int) * ar.el.length * am * p0) * ((ar.el.length : Int) * ar.el.length * am * p0) := by
    unfold pwQ pwV
    rw [hc, hfull, hlen, Int.natCast_mul]
    simp only
    grind
  refine ⟨e1, fun k => ?_⟩
  rw [e1]
  have ha := vl_abs (t := t) (c := (k : Int)) (M := (am * p0).natAbs) (evL t) (fun y hy q => by
    rw [hs y hy]
    have := inR_iff.1 q
    exact on_le ar p0 (spI g c) am y _ (by omega))
  unfold pwQ pwV
  refine sq_le5 (Nat.le_trans ha (Nat.le_of_eq ?_))
  rw [hlen, Int.mul_assoc _ am p0, Int.natAbs_mul ((ar.el.length : Int) * ar.el.length) (am * p0), Int.natAbs_mul (ar.el.length : Int) ar.el.length, Int.natAbs_natCast]
end Go.Proofs.YtphlaicnmmglhaaGreat.Am.M
-- mini
namespace Go.Proofs.YtphlaicnmmglhaaGreat.Am.M
open Go

theorem matrix5_p (s : Spc) : PC Tryz.prog 78 [.agg (spcC s)] (.tup [.agg (mxC (mxR s).1), .v (.int .i64 ((mxR s).2))]) := by
  by_cases h : (ckSpc s).2 = 0
  · exact matrixOk_p s h
  · exact matrixBad_p s h
theorem spc_pl5 {s : Spc} (h : (ckSpc s).2 = 0) : 1 ≤ s.pl.length := by
  unfold ckSpc at h
  by_cases h1 : (ckArr s.ar).2 ≠ 0
  · rw [if_pos h1] at h; exact absurd h h1
  rw [if_neg h1] at h
  by_cases h2 : spcE0 s ≠ 0
  · rw [if_pos h2] at h; exact absurd h h2
  have h3 := Decidable.not_not.1 h2
  unfold spcE0 at h3
  have h := first_zero.1 h3 (plsE s.pl) (by simp)
  unfold plsE at h
  by_cases h4 : s.pl.length = 0
  · rw [if_pos h4] at h; cases h
  omega
theorem prL_len5 {n : Nat} (h : n ≤ 3) : (prL n).length ≤ 9 := by
  unfold prL; rw [prF_len]
  have := Nat.mul_le_mul h h
  omega
theorem sli_few5 {s : Spc} (h : sliB s = true) (h2 : s.ar.el.length ≤ 16) : s.ar.el.length ≤ 3 := by
  simp [sliB, fewB] at h
  omega
theorem ta_len5 {s : Spc} {g : Grd} (h : s.ar.el.length ≤ 3) : (taS s g).bf.length ≤ 10000 := by
  show ((mxB s (prL s.ar.el.length)).map FloatKind.f32.nearest).length ≤ 10000
  rw [List.length_map, mxB_len]
  have := prL_len5 h
  omega
theorem img_ok5 {t : Tsk} (h : (ckT t).2 = 0) : imgR t = (rimF t (evL t) (clN t), 0) := by
  unfold imgR
  rw [if_neg (fun q => q h), rim_ev]
theorem co_ok5 {t : Tsk} (h : (ckT t).2 = 0) : coR t [] = (cvF t [] (clN t), 0) := by
  have e : deE t [] = 0 := by unfold deE; rw [if_neg (fun q => q h)]; rfl
  unfold coR
  rw [e, if_neg (fun q => q rfl)]
theorem cv_at5 (t : Tsk) {k n : Nat} (h : k < n) : (cvF t [] n)[k]? = some (vlA t (k : Int) [] (evL t)).2 := by
  unfold cvF
  rw [List.getElem?_map, List.getElem?_range h]; rfl
theorem pw_at5 (t : Tsk) {k n : Nat} (h : k < n) : ((List.range n).map (pwQ t))[k]? = some (pwQ t k) := by
  rw [List.getElem?_map, List.getElem?_range h]; rfl
theorem mx_box5 (s : Spc) (g : Grd) : mxC ((s.ar.el.length : Int), mxB s (prL s.ar.el.length)) = mtxC (taS s g).ne (taS s g).bf := by
  unfold mxC mtxC
  simp only
  rw [ta_row]; rfl
set_option maxRecDepth 100000 in
theorem focused_p  : PC Tryz.prog 71 [] (.v (.bool (true))) := by
 refine pc_of_awpN Tryz.func71 rfl Tryz.ntmps71 (rs := [.tmp 0]) Tryz.results71 (by simp) fun w0 hmine hrnd hpn => ?_
 refine awp_seq ?_
 refine awp_region 1 mixed (by kernel_rfl) ?_
 refine rg_q (q_a rfl) ?_
 refine rs (awp_region 9 mixed (by kernel_rfl) ?_)
 refine rg_q (q_call en82 .nil rfl (one5_p)) ?_
 refine rg_q (q_call en23 (.cons rfl (.cons rfl .nil)) rfl ((by have h := valueAt_p oneT 0 oneT_ok oneT_c; rw [ex_vl, ex_cz] at h; exact h))) ?_
 refine rg_q (q_move (x := .d (.tup _)) rfl) (rg_q (q_extract rfl rfl) (rg_q (q_extract rfl rfl) (rg_q (q_extract rfl rfl) (rg_q (q_a rfl) (rg_q (q_a rfl) ?_)))))
 refine rg_q (q_a rfl) ?_
 refine rs (awp_region 11 mixed (by kernel_rfl) ?_)
 refine rg_q (q_m rfl) (rg_q (q_eql rfl rfl) (rg_q (q_m rfl) ?_))
 refine rg_g rfl rfl (fun hG => (q_m rfl)) ?_
 refine rg_g rfl rfl (fun hG => (q_call en26 (.cons rfl (.cons rfl .nil)) rfl (sameBits_p 4629137466983448576 13849694754071117824 4629137466983448576 13849694754071117824))) ?_
 refine rg_pick rfl rfl rfl rfl rfl rfl ?_
 refine rg_q (q_m rfl) ?_
 refine rg_g rfl rfl (fun hG => (q_m rfl)) ?_
 refine rg_g rfl rfl (fun hG => (q_eql rfl rfl)) ?_
 refine rg_pick rfl rfl rfl rfl rfl rfl ?_
 refine rg_q (q_a rfl) ?_
 refine rn ?_
 change Awp _ _ _ _ _
 refine awp_ret ?_
 refine ⟨_, (.cons (.tmp (by exact .d _)) .nil), ?_⟩
 simp [retD, sbB]

def bsB (s : Spc) (g : Grd) : Bool := sliB s && decide ((ckSpc s).2 = 0) && inR 1 g.co 12 && inR 1 g.ro 12 && decide (g.co * g.ro ≤ 12)
set_option maxRecDepth 100000 in
theorem benchSmall_p (s : Spc) (g : Grd) : PC Tryz.prog 73 [.agg (spcC s), .agg (grdC g)] (.v (.bool (bsB s g))) := by
 refine pc_of_awp Tryz.func73 rfl Tryz.ntmps73 (rs := [.tmp 4]) Tryz.results73 (by simp) fun w0 => ?_
 refine awp_seq ?_
 refine awp_region 3 mixed (by kernel_rfl) ?_
 refine rg_q (q_box rfl (by exact .inr ⟨_, rfl⟩)) ?_
 refine rg_q (q_box rfl (by exact .inr ⟨_, rfl⟩)) ?_
 refine rg_q (q_a rfl) ?_
 refine rs (awp_region 26 mixed (by kernel_rfl) ?_)
 refine rg_q (q_loadA sz130 rfl rfl rfl) ?_
 refine rg_q (q_call en144 (.cons rfl .nil) rfl (slight_p s)) ?_
 refine rg_q (q_m rfl) ?_
 refine rg_g rfl rfl (fun hG => (q_loadA sz130 rfl rfl rfl)) ?_
 refine rg_g rfl rfl (fun hG => (q_call en77 (.cons rfl .nil) rfl (specimenErr_p s))) ?_
 refine rg_g rfl rfl (fun hG => (q_eql rfl rfl)) ?_
 refine rg_pick rfl rfl rfl rfl rfl rfl ?_
 refine rg_q (q_m rfl) ?_
 refine rg_g rfl rfl (fun hG => (q_fieldAddr fld35_1 rfl)) ?_
 refine rg_g rfl rfl (fun hG => (q_load sz3 rfl rfl)) ?_
 refine rg_g rfl rfl (fun hG => (q_call en31 (.cons rfl (.cons rfl (.cons rfl .nil))) rfl (within4_p _ _ _))) ?_
 refine rg_pick rfl rfl rfl rfl rfl rfl ?_
 refine rg_q (q_m rfl) ?_
 refine rg_g rfl rfl (fun hG => (q_fieldAddr fld35_2 rfl)) ?_
 refine rg_g rfl rfl (fun hG => (q_load sz3 rfl rfl)) ?_
 refine rg_g rfl rfl (fun hG => (q_call en31 (.cons rfl (.cons rfl (.cons rfl .nil))) rfl (within4_p _ _ _))) ?_
 refine rg_pick rfl rfl rfl rfl rfl rfl ?_
 refine rg_q (q_m rfl) ?_
 refine rg_g rfl rfl (fun hG => (q_fieldAddr fld35_1 rfl)) ?_
 refine rg_g rfl rfl (fun hG => (q_load sz3 rfl rfl)) ?_
 refine rg_g rfl rfl (fun hG => (q_fieldAddr fld35_2 rfl)) ?_
 refine rg_g rfl rfl (fun hG => (q_load sz3 rfl rfl)) ?_
 refine rg_g rfl rfl (fun hG => (q_mul rfl rfl (by have hg0 := T.bool_inj (a := _) hG.1; (try simp only [nb, ne_eq] at hg0); obtain ⟨⟨⟨_, _⟩, q1⟩, q2⟩ := hg0; have q1 := inR_iff.1 q1; have q2 := inR_iff.1 q2; have := mulb (a := g.co) (b := g.ro) (A := 12) (B := 12) (by omega) (by omega) (by omega) (by omega); exact In64.mk (by omega) (by omega)))) ?_
 refine rg_g rfl rfl (fun hG => (q_leq rfl rfl)) ?_
 refine rg_pick rfl rfl rfl rfl rfl rfl ?_
 refine rg_q (q_a rfl) ?_
 refine rn ?_
 change Awp _ _ _ _ _
 refine awp_ret ?_
 refine ⟨_, (.cons (.tmp (by exact .d _)) .nil), ?_⟩
 simp only [bif_and, bif_or, bsB]; rfl
set_option maxHeartbeats 4000000 in
set_option maxRecDepth 100000 in
theorem topPeak_p (s : Spc) (g : Grd) (c : Int) : PC Tryz.prog 16 [.agg (spcC s), .agg (grdC g), .v (.int .i64 (c))] (.v (.bool (true))) := by
 refine pc_of_awpN Tryz.func16 rfl Tryz.ntmps16 (rs := [.tmp 6]) Tryz.results16 (by simp) fun w0 hmine hrnd hpn => ?_
 refine awp_seq ?_
 refine awp_region 3 mixed (by kernel_rfl) ?_
 refine rg_q (q_box rfl (by exact .inr ⟨_, rfl⟩)) ?_
 refine rg_q (q_box rfl (by exact .inr ⟨_, rfl⟩)) ?_
 refine rg_q (q_a rfl) ?_
 refine rn ?_
 change Awp _ _ _ _ _
 refine awp_seq ?_
 refine awp_seq ?_
 refine awp_region 2 mixed (by kernel_rfl) ?_
 refine rg_q (q_call en71 .nil rfl (focused_p)) ?_
 refine rg_q (q_not rfl) ?_
 refine rn ?_
 change Awp _ _ _ _ _
 refine awp_cond rfl (fun hc1 => ?_) (fun hc1 => ?_)
 ·
  simp at hc1
 ·
  (try simp only [nb, ne_eq] at hc1)
  refine awp_skip ?_
  change Awp _ _ _ _ _
  refine awp_seq ?_
  refine awp_seq ?_
  refine awp_region 21 mixed (by kernel_rfl) ?_
  refine rg_q (q_loadA sz130 rfl rfl rfl) ?_
  refine rg_q (q_loadA (ds := [_, _, _, _, _]) sz35 rfl rfl rfl) ?_
  refine rg_q (q_call en73 (.cons rfl (.cons rfl .nil)) rfl (benchSmall_p s g)) ?_
  refine rg_q (q_not rfl) (rg_q (q_m rfl) ?_)
  refine rg_g rfl rfl (fun hG => (q_fieldAddr fld130_2 rfl)) ?_
  refine rg_g rfl rfl (fun hG => (q_load sz128 rfl rfl)) ?_
  refine rg_g rfl rfl (fun hG => (q_len isl128 rfl (by exact len_map _ _))) ?_
  refine rg_g rfl rfl (fun hG => (q_neq rfl rfl)) ?_
  refine rg_pick rfl rfl rfl rfl rfl rfl ?_
  refine rg_q (q_m rfl) ?_
  refine rg_g rfl rfl (fun hG => (q_loadA (ds := [_, _, _, _, _]) sz35 rfl rfl rfl)) ?_
  refine rg_g rfl rfl (fun hG => (q_call en74 (.cons rfl .nil) rfl (rcheckGrid_p g))) ?_
  refine rg_g rfl rfl (fun hG => (q_neq rfl rfl)) ?_
  refine rg_pick rfl rfl rfl rfl rfl rfl ?_
  refine rg_q (q_m rfl) ?_
  refine rg_g rfl rfl (fun hG => (q_loadA (ds := [_, _, _, _, _]) sz35 rfl rfl rfl)) ?_
  refine rg_g rfl rfl (fun hG => (q_m rfl)) ?_
  refine rg_g rfl rfl (fun hG => (q_call en25 (.cons rfl (.cons rfl .nil)) rfl ((risCell_p g c (by have hg0 := T.bool_inj (a := _) hG.1; (try simp only [nb, ne_eq] at hg0); exact (ckG_ok hg0.2).1))))) ?_
  refine rg_g rfl rfl (fun hG => (q_not rfl)) ?_
  refine rg_pick rfl rfl rfl rfl rfl rfl ?_
  refine rn ?_
  change Awp _ _ _ _ _
  refine awp_cond rfl (fun hc3 => ?_) (fun hc3 => ?_)
  ·
   (try simp only [nb, ne_eq] at hc3)
   refine awp_seq ?_
   refine awp_region 1 mixed (by kernel_rfl) ?_
   refine rg_q (q_a rfl) ?_
   refine rn ?_
   change Awp _ _ _ _ _
   refine awp_ret ?_
   refine ⟨_, (.cons (.tmp (by exact .d _)) .nil), ?_⟩
   rfl
  ·
   (try simp only [nb, ne_eq] at hc3)
   obtain ⟨⟨⟨hbs, hl1⟩, hcg⟩, hic⟩ := hc3
   obtain ⟨hg, _, _⟩ := ckG_ok hcg
   have hcl := cells_in hg
   have hic := inR_iff.1 hic
   obtain ⟨kc, hkc⟩ : ∃ kc : Nat, c = (kc : Int) := ⟨c.toNat, by omega⟩
   subst hkc
   unfold bsB at hbs
   simp only [Bool.and_eq_true, decide_eq_true_eq] at hbs
   obtain ⟨⟨⟨⟨hsl, h0⟩, _⟩, _⟩, _⟩ := hbs
   obtain ⟨x, hfx⟩ : ∃ x, s.fl = [x] := by
    match hq : s.fl with
    | [] => rw [hq] at hl1; simp at hl1
    | [x] => exact ⟨x, rfl⟩
    | x :: y :: l => rw [hq] at hl1; simp at hl1; omega
   have hx0 : s.fl[0]? = some x := by rw [hfx]; rfl
   obtain ⟨l1, l2, l3⟩ := sli_le hsl
   have hsp := spc_ok h0
   have hok0 := hsp.ar
   have hn2 := hok0.n2
   have hpl1 := spc_pl5 h0
   have hn3 := sli_few5 hsl hn2
   obtain ⟨p0, hp0⟩ : ∃ p0, s.pl[0]? = some p0 := ⟨_, List.getElem?_eq_getElem hpl1⟩
   have hpm : (s.pl.take 1).drop 0 = [p0] := by
    obtain ⟨y, ys, hy⟩ : ∃ y ys, s.pl = y :: ys := by
     match hq : s.pl with
     | [] => rw [hq] at hpl1; simp at hpl1
     | y :: ys => exact ⟨y, ys, rfl⟩
    rw [hy] at hp0 ⊢
    cases hp0; rfl
   have hxok := hsp.fl x (by rw [hfx]; simp)
   have hxam := hxok.am
   have hpb := hsp.p2 p0 (List.mem_of_getElem? hp0)
   have hnn := mulb (a := (s.ar.el.length : Int)) (b := (s.ar.el.length : Int)) (A := 16) (B := 16) (by omega) (by omega) (by omega) (by omega)
   have hna := mulb (a := (s.ar.el.length : Int) * s.ar.el.length) (b := x.am) (A := 256) (B := 1000) (by omega) (by omega) (by omega) (by omega)
   have hnp := mulb (a := (s.ar.el.length : Int) * s.ar.el.length * x.am) (b := p0) (A := 256000) (B := 100) (by omega) (by omega) (by omega) (by omega)
   have hss := mulb (a := (s.ar.el.length : Int) * s.ar.el.length * x.am * p0) (b := (s.ar.el.length : Int) * s.ar.el.length * x.am * p0) (A := 25600000) (B := 25600000) (by omega) (by omega) (by omega) (by omega)
   refine awp_skip ?_
   change Awp _ _ _ _ _
   refine awp_seq ?_
   refine awp_region 2 mixed (by kernel_rfl) ?_
   refine rg_q (q_loadA sz130 rfl rfl rfl) ?_
   refine rg_q (q_call en75 (.cons rfl .nil) rfl (copySpc_p s (by omega) (by omega) (by omega))) ?_
   refine rg_nil ?_
   refine aops_alloc zr130 rfl rfl rfl ?_
   refine aops_store sz130 rfl rfl (by exact .inr ⟨_, rfl⟩) rfl rfl (by decide) rfl ?_
   refine aops_nil ?_
   change Awp _ _ _ _ _
   refine awp_seq ?_
   refine awp_region 4 mixed (by kernel_rfl) ?_
   refine rg_q (q_fieldAddr_ref fld130_1 rfl) (rg_q (q_load_ref sz77 rfl rfl rfl) ?_)
   refine rg_q (q_slice (hi := 1) sl77 rfl rfl rfl (Nat.zero_le _) (by rw [List.length_map]; exact hpl1) (by exact map_slice _ _ _ _)) ?_
   refine rg_q (q_fieldAddr_ref fld130_1 rfl) ?_
   refine rg_nil ?_
   refine aops_store sz77 rfl rfl (by exact .inl rfl) rfl rfl (by exact Nat.le_of_ble_eq_true rfl) rfl ?_
   refine aops_nil ?_
   change Awp _ _ _ _ _
   refine awp_seq ?_
   refine awp_region 11 mixed (by kernel_rfl) ?_
   refine rg_q (q_loadA (ds := [_, _, _, _, _]) sz35 rfl rfl rfl) ?_
   refine rg_q (q_m rfl) ?_
   refine rg_q (q_call en76 (.cons rfl (.cons rfl .nil)) rfl (rspot_p g (kc : Int) hg (by omega) (by omega))) ?_
   refine rg_q (q_fieldAddr fld130_2 rfl) (rg_q (q_load sz128 rfl rfl) ?_)
   refine rg_q (q_indexAddr sl128 rfl rfl (by omega) (map_at (k := 0) (by rfl) hx0)) ?_
   refine rg_q (q_fieldAddr fld135_4 rfl) (rg_q (q_load sz3 rfl rfl) ?_)
   refine rg_q (q_build (cs := [_, _, _, _, _, _, _, _]) pl135 zr135 rfl (.cons rfl (by exact .inl rfl) (.cons rfl (by exact .inr ⟨_, rfl⟩) (.cons rfl (by exact .inl rfl) .nil))) ⟨⟨rfl, by decide⟩, ⟨rfl, by decide⟩, ⟨rfl, by decide⟩, trivial⟩ rfl) ?_
   refine rg_q (q_buildSlice sl128 zr135 rfl rfl (by decide) (.cons rfl (by exact .inr ⟨_, rfl⟩) .nil) ⟨rfl, rfl, trivial⟩ rfl (by decide) rfl) ?_
   refine rg_q (q_fieldAddr_ref fld130_2 rfl) ?_
   refine rg_nil ?_
   refine aops_store sz128 rfl rfl (by exact .inl rfl) rfl rfl (by exact Nat.le_of_ble_eq_true rfl) rfl ?_
   refine aops_nil ?_
   change Awp _ _ _ _ _
   refine awp_seq ?_
   refine awp_seq ?_
   rw [hpm]
   refine awp_region 3 mixed (by kernel_rfl) ?_
   refine rg_q (q_load_refA sz130 rfl rfl rfl rfl) ?_
   refine rg_q (q_call en77 (.cons rfl .nil) rfl (specimenErr_p (onS s.ar p0 (spI g (kc : Int)) x.am))) ?_
   refine rg_q (q_neq rfl rfl) ?_
   refine rn ?_
   change Awp _ _ _ _ _
   refine awp_cond rfl (fun hc8 => ?_) (fun hc8 => ?_)
   ·
    (try simp only [nb, ne_eq] at hc8)
    refine awp_seq ?_
    refine awp_region 1 mixed (by kernel_rfl) ?_
    refine rg_q (q_a rfl) ?_
    refine rn ?_
    change Awp _ _ _ _ _
    refine awp_ret ?_
    refine ⟨_, (.cons (.tmp (by exact .d _)) .nil), ?_⟩
    rfl
   ·
    (try simp only [nb, ne_eq] at hc8)
    have h0o : (ckSpc (onS s.ar p0 (spI g (kc : Int)) x.am)).2 = 0 := hc8
    refine awp_skip ?_
    change Awp _ _ _ _ _
    refine awp_seq ?_
    refine awp_region 6 mixed (by kernel_rfl) ?_
    refine rg_q (q_load_refA sz130 rfl rfl rfl rfl) ?_
    refine rg_q (q_call en75 (.cons rfl .nil) rfl (copySpc_p (onS s.ar p0 (spI g (kc : Int)) x.am) (by show s.ar.el.length ≤ 1000; omega) (by show 1 ≤ 1000; omega) (by show 1 ≤ 1000; omega))) ?_
    refine rg_q (q_call en78 (.cons rfl .nil) rfl (matrix5_p (onS s.ar p0 (spI g (kc : Int)) x.am))) ?_
    refine rg_q (q_move (x := .d (.tup _)) rfl) (rg_q (q_extract rfl rfl) (rg_q (q_extract rfl rfl) ?_))
    refine rg_nil ?_
    refine aops_alloc zr31 rfl rfl rfl ?_
    refine aops_store sz31 rfl rfl (by exact .inr ⟨_, rfl⟩) rfl rfl (by decide) rfl ?_
    refine aops_q rfl (q_a rfl) ?_
    refine aops_nil ?_
    change Awp _ _ _ _ _
    refine awp_seq ?_
    refine awp_seq ?_
    refine awp_region 2 mixed (by kernel_rfl) ?_
    refine rg_q (q_m rfl) (rg_q (q_neq rfl rfl) ?_)
    refine rn ?_
    change Awp _ _ _ _ _
    refine awp_cond rfl (fun hc11 => ?_) (fun hc11 => ?_)
    ·
     (try simp only [nb, ne_eq] at hc11)
     have hm8 : (mxR (onS s.ar p0 (spI g (kc : Int)) x.am)).2 = 8 := by
      unfold mxR at hc11 ⊢
      rw [if_neg (fun q => q h0o)] at hc11 ⊢
      by_cases hb : (prL ((onS s.ar p0 (spI g (kc : Int)) x.am)).ar.el.length).any (bigP (onS s.ar p0 (spI g (kc : Int)) x.am)) = true
      · rw [if_pos hb]
      · rw [if_neg hb] at hc11; exact absurd rfl hc11
     rw [hm8]
     refine awp_seq ?_
     refine awp_region 3 mixed (by kernel_rfl) ?_
     refine rg_q (q_m rfl) (rg_q (q_eql rfl rfl) (rg_q (q_a rfl) ?_))
     refine rn ?_
     change Awp _ _ _ _ _
     refine awp_ret ?_
     refine ⟨_, (.cons (.tmp (by exact .d _)) .nil), ?_⟩
     rfl
    ·
     (try simp only [nb, ne_eq] at hc11)
     have hbf : (prL s.ar.el.length).any (bigP (onS s.ar p0 (spI g (kc : Int)) x.am)) = false := by
      cases hb : (prL s.ar.el.length).any (bigP (onS s.ar p0 (spI g (kc : Int)) x.am)) with
      | false => rfl
      | true =>
       unfold mxR at hc11
       rw [if_neg (fun q => q h0o), if_pos (show (prL ((onS s.ar p0 (spI g (kc : Int)) x.am)).ar.el.length).any (bigP (onS s.ar p0 (spI g (kc : Int)) x.am)) = true from hb)] at hc11
       cases hc11
     have hmx : mxR (onS s.ar p0 (spI g (kc : Int)) x.am) = (((s.ar.el.length : Int), mxB (onS s.ar p0 (spI g (kc : Int)) x.am) (prL s.ar.el.length)), 0) := by unfold mxR; rw [if_neg (fun q => q h0o), if_neg (by rw [show (prL ((onS s.ar p0 (spI g (kc : Int)) x.am)).ar.el.length).any (bigP (onS s.ar p0 (spI g (kc : Int)) x.am)) = false from hbf]; decide)]; rfl
     have hbx : mxC ((s.ar.el.length : Int), mxB (onS s.ar p0 (spI g (kc : Int)) x.am) (prL s.ar.el.length)) = mtxC ((taS (onS s.ar p0 (spI g (kc : Int)) x.am) g)).ne ((taS (onS s.ar p0 (spI g (kc : Int)) x.am) g)).bf := mx_box5 (onS s.ar p0 (spI g (kc : Int)) x.am) g
     rw [hmx, hbx]
     refine awp_skip ?_
     change Awp _ _ _ _ _
     refine awp_seq ?_
     refine awp_regionM 8 [none, none, none, none, none, none, some 10, some 10] mixed (by kernel_rfl) ?_
     refine rgm_q rfl (q_fieldAddr fld130_0 rfl) ?_
     refine rgm_q rfl (q_loadA (ds := [_, _, _, _, _, _, _, _, _, _, _]) sz28 rfl rfl rfl) ?_
     refine rgm_q rfl (q_call en79 (.cons rfl .nil) rfl (copyArr_p s.ar (by omega))) ?_
     refine rgm_q rfl (q_load_refA (ds := [_, _]) sz31 rfl rfl rfl rfl) ?_
     refine rgm_q rfl (q_loadA (ds := [_, _, _, _, _]) sz35 rfl rfl rfl) ?_
     refine rgm_q rfl (q_build pl37 zr37 rfl (.cons rfl (by exact .inr ⟨_, rfl⟩) (.cons rfl (by exact .inr ⟨_, rfl⟩) (.cons rfl (by exact .inr ⟨_, rfl⟩) .nil))) ⟨⟨rfl, by decide⟩, ⟨rfl, by decide⟩, ⟨rfl, by decide⟩, trivial⟩ rfl) ?_
     refine rgm_m (k := 10) rfl rfl (by rfl) (m_alloc zr37 rfl rfl) ?_
     refine rgm_m (k := 10) rfl rfl (by rfl) (m_store sz37 rfl rfl (by exact .inr ⟨_, rfl⟩) rfl rfl (by decide) rfl) ?_
     refine rgm_nil (aops_nil ?_)
     change Awp _ _ _ _ _
     refine awp_seq ?_
     refine awp_seq ?_
     refine Awp.le (le_freeze 10 10 0 (cs := tskC (taS (onS s.ar p0 (spI g (kc : Int)) x.am) g)) rfl rfl rfl rfl hmine) ?_
     refine awp_region 3 mixed (by kernel_rfl) ?_
     refine rg_q (q_loadA sz37 rfl rfl rfl) ?_
     refine rg_q (q_call en24 (.cons rfl .nil) rfl (rtaskErr_p (taS (onS s.ar p0 (spI g (kc : Int)) x.am) g))) ?_
     refine rg_q (q_neq rfl rfl) ?_
     refine rn ?_
     change Awp _ _ _ _ _
     refine awp_cond rfl (fun hc14 => ?_) (fun hc14 => ?_)
     ·
      (try simp only [nb, ne_eq] at hc14)
      refine awp_seq ?_
      refine awp_region 1 mixed (by kernel_rfl) ?_
      refine rg_q (q_a rfl) ?_
      refine rn ?_
      change Awp _ _ _ _ _
      refine awp_ret ?_
      refine ⟨_, (.cons (.tmp (by exact .d _)) .nil), ?_⟩
      rfl
     ·
      (try simp only [nb, ne_eq] at hc14)
      have hck : (ckT (taS (onS s.ar p0 (spI g (kc : Int)) x.am) g)).2 = 0 := hc14
      have hok : TskOk (taS (onS s.ar p0 (spI g (kc : Int)) x.am) g) := ckT_ok hck
      have hcN : ((clN (taS (onS s.ar p0 (spI g (kc : Int)) x.am) g) : Nat) : Int) = g.co * g.ro := by unfold clN; show (((g.co * g.ro).toNat : Nat) : Int) = _; omega
      have hkN : kc < clN (taS (onS s.ar p0 (spI g (kc : Int)) x.am) g) := by omega
      have hcv := cv_at5 (taS (onS s.ar p0 (spI g (kc : Int)) x.am) g) hkN
      have hpw := pw_at5 (taS (onS s.ar p0 (spI g (kc : Int)) x.am) g) hkN
      have hcvl := cvF_len (taS (onS s.ar p0 (spI g (kc : Int)) x.am) g) [] (clN (taS (onS s.ar p0 (spI g (kc : Int)) x.am) g))
      have hpwl : ((List.range (clN (taS (onS s.ar p0 (spI g (kc : Int)) x.am) g))).map (pwQ (taS (onS s.ar p0 (spI g (kc : Int)) x.am) g))).length = clN (taS (onS s.ar p0 (spI g (kc : Int)) x.am) g) := by rw [List.length_map, List.length_range]
      refine awp_skip ?_
      change Awp _ _ _ _ _
      refine awp_seq ?_
      refine awp_region 8 mixed (by kernel_rfl) ?_
      refine rg_q (q_loadA sz37 rfl rfl rfl) ?_
      refine rg_q (q_call en21 (.cons rfl .nil) rfl (rcopyT_p (taS (onS s.ar p0 (spI g (kc : Int)) x.am) g) (by show s.ar.el.length ≤ 1000; omega) (ta_len5 hn3))) ?_
      refine rg_q (q_call en37 (.cons rfl .nil) rfl ((by have q := image5_p (taS (onS s.ar p0 (spI g (kc : Int)) x.am) g); rw [img_ok5 hck] at q; exact q))) ?_
      refine rg_q (q_move (x := .d (.tup _)) rfl) (rg_q (q_extract rfl rfl) (rg_q (q_extract rfl rfl) (rg_q (q_assign (x := .d (.sl _ _)) rfl) (rg_q (q_a rfl) ?_))))
      refine rs (awp_region 7 mixed (by kernel_rfl) ?_)
      refine rg_q (q_move (x := .d (.sl _ _)) rfl) ?_
      refine rg_q (q_call en58 (.cons rfl .nil) rfl ((by have q := powers_p (rimF (taS (onS s.ar p0 (spI g (kc : Int)) x.am) g) (evL (taS (onS s.ar p0 (spI g (kc : Int)) x.am) g)) (clN (taS (onS s.ar p0 (spI g (kc : Int)) x.am) g))); rw [pw_img hok] at q; exact q))) ?_
      refine rg_q (q_move (x := .d (.tup _)) rfl) (rg_q (q_extract rfl rfl) (rg_q (q_extract rfl rfl) (rg_q (q_assign (x := .d (.sl _ _)) rfl) (rg_q (q_a rfl) ?_))))
      refine rs (awp_region 8 mixed (by kernel_rfl) ?_)
      refine rg_q (q_loadA sz37 rfl rfl rfl) ?_
      refine rg_q (q_call en21 (.cons rfl .nil) rfl (rcopyT_p (taS (onS s.ar p0 (spI g (kc : Int)) x.am) g) (by show s.ar.el.length ≤ 1000; omega) (ta_len5 hn3))) ?_
      refine rg_q (q_call en50 (.cons rfl (.cons rfl .nil)) rfl ((by have q := coverage5_p (taS (onS s.ar p0 (spI g (kc : Int)) x.am) g) []; rw [co_ok5 hck] at q; exact q))) ?_
      refine rg_q (q_move (x := .d (.tup _)) rfl) (rg_q (q_extract rfl rfl) (rg_q (q_extract rfl rfl) (rg_q (q_assign (x := .d (.sl _ _)) rfl) (rg_q (q_a rfl) ?_))))
      refine rn ?_
      change Awp _ _ _ _ _
      refine awp_seq ?_
      refine awp_seq ?_
      refine awp_region 24 mixed (by kernel_rfl) ?_
      refine rg_q (q_m rfl) (rg_q (q_neq rfl rfl) (rg_q (q_m rfl) ?_))
      refine rg_g rfl rfl (fun hG => (q_m rfl)) ?_
      refine rg_g rfl rfl (fun hG => (q_neq rfl rfl)) ?_
      refine rg_pick rfl rfl rfl rfl rfl rfl ?_
      refine rg_q (q_m rfl) ?_
      refine rg_g rfl rfl (fun hG => (q_m rfl)) ?_
      refine rg_g rfl rfl (fun hG => (q_neq rfl rfl)) ?_
      refine rg_pick rfl rfl rfl rfl rfl rfl ?_
      refine rg_q (q_m rfl) ?_
      refine rg_g rfl rfl (fun hG => (q_move (x := .d (.sl _ _)) rfl)) ?_
      refine rg_g rfl rfl (fun hG => (q_len isl77 rfl (by exact len_map _ _))) ?_
      refine rg_g rfl rfl (fun hG => (q_loadA (ds := [_, _, _, _, _]) sz35 rfl rfl rfl)) ?_
      refine rg_g rfl rfl (fun hG => (q_call en56 (.cons rfl .nil) rfl (rcells_p _ (by assumption)))) ?_
      refine rg_g rfl rfl (fun hG => (q_neq rfl rfl)) ?_
      refine rg_pick rfl rfl rfl rfl rfl rfl ?_
      refine rg_q (q_m rfl) ?_
      refine rg_g rfl rfl (fun hG => (q_move (x := .d (.sl _ _)) rfl)) ?_
      refine rg_g rfl rfl (fun hG => (q_len isl77 rfl (by exact len_map _ _))) ?_
      refine rg_g rfl rfl (fun hG => (q_move (x := .d (.sl _ _)) rfl)) ?_
      refine rg_g rfl rfl (fun hG => (q_len isl77 rfl (by exact len_map _ _))) ?_
      refine rg_g rfl rfl (fun hG => (q_neq rfl rfl)) ?_
      refine rg_pick rfl rfl rfl rfl rfl rfl ?_
      refine rn ?_
      change Awp _ _ _ _ _
      refine awp_cond rfl (fun hc19 => ?_) (fun hc19 => ?_)
      ·
       simp at hc19
       omega
      ·
       (try simp only [nb, ne_eq] at hc19)
       refine awp_skip ?_
       change Awp _ _ _ _ _
       refine awp_seq ?_
       refine awp_region 10 mixed (by kernel_rfl) ?_
       refine rg_q (q_fieldAddr fld130_0 rfl) (rg_q (q_fieldAddr fld28_0 rfl) (rg_q (q_load sz22 rfl rfl) ?_))
       refine rg_q (q_len isl22 rfl (by exact len_map _ _)) ?_
       refine rg_q (q_fieldAddr fld130_0 rfl) (rg_q (q_fieldAddr fld28_0 rfl) (rg_q (q_load sz22 rfl rfl) ?_))
       refine rg_q (q_len isl22 rfl (by exact len_map _ _)) ?_
       refine rg_q (q_mul rfl rfl (In64.mk (by omega) (by omega))) ?_
       refine rg_q (q_a rfl) ?_
       refine rn ?_
       change Awp _ _ _ _ _
       refine awp_len (t := 125) rfl (fun hl125 => ?_)
       (try simp only [List.length_map] at hl125)
       refine awp_len (t := 129) rfl (fun hl129 => ?_)
       (try simp only [List.length_map] at hl129)
       refine awp_seq ?_
       refine awp_seq ?_
       refine awp_region 6 mixed (by kernel_rfl) ?_
       refine rg_q (q_move (x := .d (.sl _ _)) rfl) (rg_q (q_m rfl) ?_)
       refine rg_q (q_indexAddr sl77 rfl rfl (by omega) (map_at (k := kc) (by omega) hcv)) ?_
       refine rg_q (q_load sz3 rfl rfl) (rg_q (q_m rfl) (rg_q (q_neq rfl rfl) ?_))
       refine rn ?_
       change Awp _ _ _ _ _
       refine awp_cond rfl (fun hc22 => ?_) (fun hc22 => ?_)
       ·
        (try simp only [nb, ne_eq] at hc22)
        refine awp_seq ?_
        refine awp_region 1 mixed (by kernel_rfl) ?_
        refine rg_q (q_a rfl) ?_
        refine rn ?_
        change Awp _ _ _ _ _
        refine awp_ret ?_
        refine ⟨_, (.cons (.tmp (by exact .d _)) .nil), ?_⟩
        rfl
       ·
        (try simp only [nb, ne_eq] at hc22)
        obtain ⟨pk1, pk2⟩ := peak hbf (c := (kc : Int)) (by omega) hc22
        rw [Int.toNat_natCast] at pk1 pk2
        refine awp_skip ?_
        change Awp _ _ _ _ _
        refine awp_seq ?_
        refine awp_region 13 mixed (by kernel_rfl) ?_
        refine rg_q (q_m rfl) (rg_q (q_fieldAddr fld130_2 rfl) (rg_q (q_load sz128 rfl rfl) ?_))
        refine rg_q (q_indexAddr sl128 rfl rfl (by omega) (map_at (k := 0) (by rfl) hx0)) ?_
        refine rg_q (q_fieldAddr fld135_4 rfl) (rg_q (q_load sz3 rfl rfl) ?_)
        refine rg_q (q_mul rfl rfl (In64.mk (by omega) (by omega))) ?_
        refine rg_q (q_fieldAddr fld130_1 rfl) (rg_q (q_load sz77 rfl rfl) ?_)
        refine rg_q (q_indexAddr sl77 rfl rfl (by omega) (map_at (k := 0) (by rfl) hp0)) ?_
        refine rg_q (q_load sz3 rfl rfl) ?_
        refine rg_q (q_mul rfl rfl (In64.mk (by omega) (by omega))) ?_
        refine rg_q (q_a rfl) ?_
        refine rn ?_
        change Awp _ _ _ _ _
        refine awp_seq ?_
        refine awp_seq ?_
        refine awp_region 8 mixed (by kernel_rfl) ?_
        refine rg_q (q_move (x := .d (.sl _ _)) rfl) (rg_q (q_m rfl) ?_)
        refine rg_q (q_indexAddr sl77 rfl rfl (by omega) (map_at (k := kc) (by omega) hpw)) ?_
        refine rg_q (q_load sz3 rfl rfl) (rg_q (q_m rfl) (rg_q (q_m rfl) ?_))
        refine rg_q (q_mul rfl rfl (In64.mk (by omega) (by omega))) ?_
        refine rg_q (q_neq rfl rfl) ?_
        refine rn ?_
        change Awp _ _ _ _ _
        refine awp_cond rfl (fun hc25 => ?_) (fun hc25 => ?_)
        ·
         exact absurd pk1 (of_decide_eq_true hc25)
        ·
         (try simp only [nb, ne_eq] at hc25)
         refine awp_skip ?_
         change Awp _ _ _ _ _
         refine awp_seq ?_
         refine awp_seq ?_
         refine awp_region 1 mixed (by kernel_rfl) ?_
         refine rg_q (q_a rfl) ?_
         refine rn ?_
         change Awp _ _ _ _ _
         refine awp_block ?_
         refine awp_loopH [6, 19, 158, 159, 160, 161, 162, 163, 164, 165, 166, 167, 168, 169, 170, 171, 172] [] (α := Nat) (fun k => [(19, T.i (k : Int))]) (fun k => []) (fun k => k ≤ clN (taS (onS s.ar p0 (spI g (kc : Int)) x.am) g)) (fun k => clN (taS (onS s.ar p0 (spI g (kc : Int)) x.am) g) - k) 0 (Nat.zero_le _) ?_ ?_
         · exact le_head (ms := []) (by repeat (exact Out.refl _)) ⟨(by rfl), trivial⟩ trivial rfl rfl rfl rfl
         ·
          intro k hk
          refine awp_seq ?_
          refine awp_seq ?_
          refine awp_region 4 mixed (by kernel_rfl) ?_
          refine rg_q (q_m rfl) (rg_q (q_move (x := .d (.sl _ _)) rfl) ?_)
          refine rg_q (q_len isl77 rfl (by exact len_map _ _)) ?_
          refine rg_q (q_lss rfl rfl) ?_
          refine rn ?_
          change Awp _ _ _ _ _
          refine awp_len (t := 159) rfl (fun hl159 => ?_)
          (try simp only [List.length_map] at hl159)
          refine awp_cond rfl (fun hc28 => ?_) (fun hc28 => ?_)
          ·
           (try simp only [nb, ne_eq] at hc28)
           have hlt : k < clN (taS (onS s.ar p0 (spI g (kc : Int)) x.am) g) := by omega
           have hpk := pw_at5 (taS (onS s.ar p0 (spI g (kc : Int)) x.am) g) hlt
           refine awp_skip ?_
           change Awp _ _ _ _ _
           refine awp_seq ?_
           refine awp_block ?_
           refine awp_seq ?_
           refine awp_region 9 mixed (by kernel_rfl) ?_
           refine rg_q (q_move (x := .d (.sl _ _)) rfl) (rg_q (q_m rfl) ?_)
           refine rg_q (q_indexAddr sl77 rfl rfl (by omega) (map_at (k := k) (by omega) hpk)) ?_
           refine rg_q (q_load sz3 rfl rfl) (rg_q (q_move (x := .d (.sl _ _)) rfl) (rg_q (q_m rfl) ?_))
           refine rg_q (q_indexAddr sl77 rfl rfl (by omega) (map_at (k := kc) (by omega) hpw)) ?_
           refine rg_q (q_load sz3 rfl rfl) (rg_q (q_gtr rfl rfl) ?_)
           refine rn ?_
           change Awp _ _ _ _ _
           refine awp_cond rfl (fun hc30 => ?_) (fun hc30 => ?_)
           ·
            have hc30 := of_decide_eq_true hc30
            have := pk2 k
            omega
           ·
            (try simp only [nb, ne_eq] at hc30)
            refine awp_skip ?_
            change Awp _ _ _ _ _
            refine awp_region 3 mixed (by kernel_rfl) ?_
            refine rg_q (q_m rfl) ?_
            refine rg_q (q_add rfl rfl (In64.mk (by omega) (by omega))) ?_
            refine rg_q (q_a rfl) ?_
            refine rn ?_
            refine ⟨k + 1, by omega, by omega, ?_⟩
            exact le_head (ms := []) (by repeat (first | exact Out.head rfl rfl | (refine Out.put ?_ rfl))) ⟨(by rfl), trivial⟩ trivial rfl rfl rfl rfl
          ·
           (try simp only [nb, ne_eq] at hc28)
           refine awp_exit ?_
           change Awp _ _ _ _ _
           refine awp_seq ?_
           refine awp_region 1 mixed (by kernel_rfl) ?_
           refine rg_q (q_a rfl) ?_
           refine rn ?_
           change Awp _ _ _ _ _
           refine awp_ret ?_
           refine ⟨_, (.cons (.tmp (by exact .d _)) .nil), ?_⟩
           rfl
end Go.Proofs.YtphlaicnmmglhaaGreat.Am.M
