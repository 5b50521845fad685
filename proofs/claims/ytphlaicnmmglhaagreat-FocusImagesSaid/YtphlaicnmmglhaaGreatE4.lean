/- Contracts over the abstract machine: chunks of a slice; open tasks. Conditions: none. -/
import Derived.Test.YtphlaicnmmglhaaGreatE3
set_option linter.unusedVariables false
set_option linter.unusedSimpArgs false
-- mini
namespace Go.Proofs.YtphlaicnmmglhaaGreat.Am.M
open Go

def chK (l : List Nat) (i : Nat) : List Nat := (l.take (64 * i + 64)).drop (64 * i)
def chF (l : List Nat) (i : Nat) : List (List Nat) := (List.range i).map (chK l)
def encK (b : List Nat) : List D := [.sl 1 (b.map fC)]
theorem chF_succ (l : List Nat) (i : Nat) : chF l (i + 1) = chF l i ++ [chK l i] := by unfold chF; rw [List.range_succ, List.map_append]; rfl
theorem chF_pre {l : List Nat} {i : Nat} : ∀ {m : Nat}, i ≤ m → chF l i <+: chF l m
  | 0, h => by have : i = 0 := by omega
               subst this; exact List.prefix_rfl
  | m + 1, h => by
    by_cases e : i = m + 1
    · subst e; exact List.prefix_rfl
    · rw [chF_succ]; exact (chF_pre (show i ≤ m by omega)).trans (List.prefix_append _ _)
theorem chK_len {l : List Nat} {i m : Nat} (h : l.length = 64 * m) (hi : i < m) : (chK l i).length = 64 := by
  unfold chK
  rw [List.length_drop, List.length_take]; omega
theorem chK_row (l : List Nat) (i : Nat) : ((l.map fC).take (64 * i + 64)).drop (64 * i) = (chK l i).map fC := by unfold chK; rw [List.map_drop, List.map_take]
theorem chK_wh {l : List Nat} (h : WhlL l) (i : Nat) : WhlL (chK l i) := fun b hb => h b (List.mem_of_mem_take (List.mem_of_mem_drop hb))
set_option maxRecDepth 100000 in
theorem chunk_i (l : List Nat) (m : Nat) (h1 : l.length = 64 * m) (h2 : m ≤ 10000) : PI Tryz.prog 216 [] [.pt [.sl 1 (l.map fC)] 0, .pt [.v (.int .i64 (64))] 0] (encK) (chF l m) true := by
  refine pi_of_iwp Tryz.func216 rfl Tryz.ntmps216 rfl rfl fun J c l0 hJ hy hdat hfin => ?_
  refine iwp_seq ?_
  apply iwp_reg hJ
  ·
    intro c1 hmine hrnd
    refine awp_region 1 mixed (by kernel_rfl) ?_
    refine rg_q (q_assign (x := .d (.v _)) rfl) ?_
    refine rg_nil (aops_nil ?_)
    exact ⟨rfl, rfl⟩
  change Iwp _ _ _ _ _ _ _
  refine iwp_block ?_
  refine iwp_loopH [4, 5, 6, 7, 8, 9, 10, 11, 12, 13, 14, 15, 16, 17, 18, 19, 20, 21, 22, 23, 24, 25, 26, 27, 28, 29, 30] [] (β := Nat) (fun i => [(4, T.i ((64 * i : Nat) : Int))]) (fun i => []) (fun i => (true, chF l i)) (fun i => i ≤ m) (fun i => m - i) 0 (Nat.zero_le _) rfl (fun c1 => ?_) ?_
  · exact le_head (ms := []) (by repeat (exact Out.refl _)) ⟨(by rfl), trivial⟩ trivial rfl rfl rfl rfl
  ·
    intro i hi
    refine iwp_seq ?_
    refine iwp_seq ?_
    apply iwp_reg hJ
    ·
      intro c1 hmine hrnd
      refine awp_region 4 mixed (by kernel_rfl) ?_
      refine rg_q (q_move (x := .d (.v _)) rfl) (rg_q (q_load sz29 rfl rfl) ?_)
      refine rg_q (q_len isl29 rfl (by exact len_map _ _)) ?_
      refine rg_q (q_lss rfl rfl) ?_
      refine rg_nil (aops_nil ?_)
      exact ⟨rfl, rfl⟩
    change Iwp _ _ _ _ _ _ _
    refine iwp_len (t := 7) rfl (fun hl7 => ?_)
    (try simp only [List.length_map] at hl7)
    refine iwp_cond rfl (fun hc1 => ?_) (fun hc1 => ?_)
    ·
      (try simp only [nb, ne_eq] at hc1)
      have hlt : i < m := by omega
      have hpre : chF l i ++ [chK l i] <+: chF l m := by rw [← chF_succ]; exact chF_pre hlt
      have hmn : min (64 : Int) ((List.drop (64 * i) (List.take (l.map fC).length l)).length : Int) = 64 := by rw [List.length_map, List.take_length, List.length_drop]; omega
      have hpl : ((64 * i : Nat) : Int) + 64 = ((64 * i + 64 : Nat) : Int) := by omega
      refine iwp_skip ?_
      change Iwp _ _ _ _ _ _ _
      refine iwp_seq ?_
      refine iwp_block ?_
      refine iwp_seq ?_
      apply iwp_reg hJ
      ·
        intro c1 hmine hrnd
        refine awp_region 7 mixed (by kernel_rfl) ?_
        refine rg_q (q_load sz3 rfl rfl) (rg_q (q_load sz29 rfl rfl) (rg_q (q_move (x := .d (.v _)) rfl) ?_))
        refine rg_q (q_slice sl29 rfl rfl rfl (by rw [List.length_map]; omega) (Nat.le_refl _) (by exact map_slice _ _ _ _)) ?_
        refine rg_q (q_len isl29 rfl (by exact len_map _ _)) ?_
        refine rg_q (q_min rfl rfl) ?_
        refine rg_q (q_assign (x := .d (.v _)) rfl) ?_
        refine rg_nil (aops_nil ?_)
        exact ⟨rfl, rfl⟩
      change Iwp _ _ _ _ _ _ _
      refine iwp_len (t := 16) rfl (fun hl16 => ?_)
      (try simp only [List.length_map] at hl16)
      refine iwp_seq ?_
      rw [hmn]
      refine iwp_region ?_
      refine iops_of hJ rfl (fun c1 _ _ _ h => by exact aops_q rfl ((q_move (x := .d (.fn _ _)) rfl)) h) ?_
      refine iops_of hJ rfl (fun c1 _ _ _ h => by exact aops_q rfl ((q_load sz29 rfl rfl)) h) ?_
      refine iops_of hJ rfl (fun c1 _ _ _ h => by exact aops_q rfl ((q_move (x := .d (.v _)) rfl)) h) ?_
      refine iops_of hJ rfl (fun c1 _ _ _ h => by exact aops_q rfl ((q_move (x := .d (.v _)) rfl)) h) ?_
      refine iops_of hJ rfl (fun c1 _ _ _ h => by exact aops_q rfl ((q_move (x := .d (.v _)) rfl)) h) ?_
      refine iops_of hJ rfl (fun c1 _ _ _ h => by exact aops_q rfl ((q_add rfl rfl (In64.mk (by omega) (by omega)))) h) ?_
      refine iops_of hJ rfl (fun c1 _ _ _ h => by exact aops_q rfl ((q_move (x := .d (.v _)) rfl)) h) ?_
      refine iops_of hJ rfl (fun c1 _ _ _ h => by exact aops_q rfl ((q_move (x := .d (.v _)) rfl)) h) ?_
      refine iops_of hJ rfl (fun c1 _ _ _ h => by exact aops_q rfl ((q_add rfl rfl (In64.mk (by omega) (by omega)))) h) ?_
      rw [hpl]
      refine iops_of hJ rfl (fun c1 _ _ _ h => by exact aops_q rfl ((q_slice3d (lo := 64 * i) (hi := 64 * i + 64) (es' := (chK l i).map fC) sl29 rfl rfl rfl rfl (by omega) (by rw [List.length_map]; omega) (chK_row l i))) h) ?_
      refine iops_yield (x := (chK l i)) hy hdat rfl (.cons rfl .nil) hpre rfl (fun yb => ?_)
      refine iops_of hJ rfl (fun c1 _ _ _ h => by exact aops_q rfl ((q_not rfl)) h) ?_
      refine iops_nil ?_
      change Iwp _ _ _ _ _ _ _
      refine iwp_cond rfl (fun hc4 => ?_) (fun hc4 => ?_)
      ·
        (try simp only [nb, ne_eq] at hc4)
        have hyb : yb = false := by cases yb <;> first | rfl | (exfalso; simp_all; done)
        refine iwp_ret ?_
        exact ⟨.inl rfl, fun h => by rw [hyb] at h; cases h⟩
      ·
        (try simp only [nb, ne_eq] at hc4)
        have hyb : yb = true := by cases yb <;> first | rfl | (exfalso; simp_all; done)
        refine iwp_skip ?_
        change Iwp _ _ _ _ _ _ _
        apply iwp_reg hJ
        ·
          intro c1 hmine hrnd
          refine awp_region 4 mixed (by kernel_rfl) ?_
          refine rg_q (q_move (x := .d (.v _)) rfl) (rg_q (q_load sz3 rfl rfl) ?_)
          refine rg_q (q_add rfl rfl (In64.mk (by omega) (by omega))) ?_
          refine rg_q (q_assign (x := .d (.v _)) rfl) ?_
          refine rg_nil (aops_nil ?_)
          exact ⟨rfl, rfl⟩
        refine ⟨i + 1, by omega, by omega, by rw [hyb, chF_succ], fun c1 => ?_⟩
        exact le_head (ms := []) (by repeat (first | exact Out.head rfl rfl | (refine Out.put ?_ rfl))) ⟨(by rfl), trivial⟩ trivial rfl rfl rfl rfl
    ·
      (try simp only [nb, ne_eq] at hc1)
      have him : i = m := by omega
      refine iwp_exit ?_
      exact ⟨.inr rfl, fun _ => by rw [him]⟩
end Go.Proofs.YtphlaicnmmglhaaGreat.Am.M
