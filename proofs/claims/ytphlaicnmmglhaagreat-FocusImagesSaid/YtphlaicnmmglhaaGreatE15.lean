/- Contracts over the abstract machine: deals of the reference; FocusDeals. Conditions: none. -/
import Derived.Test.YtphlaicnmmglhaaGreatE14
set_option linter.unusedVariables false
set_option linter.unusedSimpArgs false
-- mini
namespace Go.Proofs.YtphlaicnmmglhaaGreat.Am.M
open Go
set_option maxRecDepth 100000 in
theorem has5_p (l : List Int) (n : Int) : PC Tryz.prog 134 [.sl 1 (l.map iC), .v (.int .i64 (n))] (.v (.bool (decide (n ∈ l)))) := by
  refine pc_of_awp Tryz.func134 rfl Tryz.ntmps134 (rs := [.tmp 4]) Tryz.results134 (by simp) fun w0 => ?_
  refine awp_seq ?_
  refine awp_region 1 mixed (by kernel_rfl) ?_
  refine rg_q (q_assign (x := .d (.v _)) rfl) ?_
  refine rg_nil (aops_nil ?_)
  change Awp _ _ _ _ _
  refine awp_seq ?_
  refine awp_seq ?_
  refine awp_region 1 mixed (by kernel_rfl) ?_
  refine rg_q (q_assign (x := .d (.v _)) rfl) ?_
  refine rg_nil (aops_nil ?_)
  change Awp _ _ _ _ _
  refine awp_block ?_
  refine awp_loopH [4, 5, 6, 7, 8, 9, 10, 11, 12, 13, 14, 15, 16, 17] [] (α := Nat) (fun k => [(5, T.i (k : Int))]) (fun k => []) (fun k => k ≤ l.length ∧ n ∉ l.take k) (fun k => l.length - k) 0 ⟨Nat.zero_le _, by simp⟩ ?_ ?_
  · exact le_head (ms := []) (by repeat (exact Out.refl _)) ⟨(by rfl), trivial⟩ trivial rfl rfl rfl rfl
  ·
    intro k ⟨hk, hf⟩
    refine awp_seq ?_
    refine awp_seq ?_
    refine awp_region 4 mixed (by kernel_rfl) ?_
    refine rg_q (q_move (x := .d (.v _)) rfl) (rg_q (q_move (x := .d (.sl _ _)) rfl) ?_)
    refine rg_q (q_len isl77 rfl (by exact len_map _ _)) ?_
    refine rg_q (q_lss rfl rfl) ?_
    refine rg_nil (aops_nil ?_)
    change Awp _ _ _ _ _
    refine awp_len (t := 7) rfl (fun hl7 => ?_)
    (try simp only [List.length_map] at hl7)
    refine awp_cond rfl (fun hc2 => ?_) (fun hc2 => ?_)
    ·
      (try simp only [nb, ne_eq] at hc2)
      have hlt : k < l.length := by omega
      obtain ⟨x, hx⟩ : ∃ x, l[k]? = some x := ⟨_, List.getElem?_eq_getElem hlt⟩
      refine awp_skip ?_
      change Awp _ _ _ _ _
      refine awp_seq ?_
      refine awp_block ?_
      refine awp_seq ?_
      refine awp_region 6 mixed (by kernel_rfl) ?_
      refine rg_q (q_move (x := .d (.sl _ _)) rfl) (rg_q (q_move (x := .d (.v _)) rfl) ?_)
      refine rg_q (q_indexAddr sl77 rfl rfl (by omega) (map_at (by omega) hx)) ?_
      refine rg_q (q_load sz3 rfl rfl) (rg_q (q_move (x := .d (.v _)) rfl) (rg_q (q_eql rfl rfl) ?_))
      refine rg_nil (aops_nil ?_)
      change Awp _ _ _ _ _
      refine awp_cond rfl (fun hc4 => ?_) (fun hc4 => ?_)
      ·
        (try simp only [nb, ne_eq] at hc4)
        have hz : decide (n ∈ l) = true := decide_eq_true (by rw [← hc4]; exact List.mem_of_getElem? hx)
        refine awp_seq ?_
        refine awp_region 1 mixed (by kernel_rfl) ?_
        refine rg_q (q_assign (x := .d (.v _)) rfl) ?_
        refine rg_nil (aops_nil ?_)
        change Awp _ _ _ _ _
        refine awp_ret ?_
        refine ⟨_, (.cons (.tmp (by exact .d _)) .nil), ?_⟩
        rw [hz]; rfl
      ·
        (try simp only [nb, ne_eq] at hc4)
        have hn2 : n ∉ l.take (k + 1) := by
          rw [takeSnoc hx]
          intro q
          rcases List.mem_append.1 q with q | q
          · exact hf q
          · rw [List.mem_singleton] at q; exact hc4 q.symm
        refine awp_skip ?_
        change Awp _ _ _ _ _
        refine awp_region 3 mixed (by kernel_rfl) ?_
        refine rg_q (q_move (x := .d (.v _)) rfl) ?_
        refine rg_q (q_add rfl rfl (In64.mk (by omega) (by omega))) ?_
        refine rg_q (q_assign (x := .d (.v _)) rfl) ?_
        refine rg_nil (aops_nil ?_)
        refine ⟨k + 1, ⟨by omega, hn2⟩, by omega, ?_⟩
        exact le_head (ms := []) (by repeat (first | exact Out.head rfl rfl | (refine Out.put ?_ rfl))) ⟨(by rfl), trivial⟩ trivial rfl rfl rfl rfl
    ·
      (try simp only [nb, ne_eq] at hc2)
      have hz : decide (n ∈ l) = false := decide_eq_false (by have : k = l.length := by omega
                                                              rw [this, List.take_length] at hf; exact hf)
      refine awp_exit ?_
      change Awp _ _ _ _ _
      refine awp_seq ?_
      refine awp_region 1 mixed (by kernel_rfl) ?_
      refine rg_q (q_assign (x := .d (.v _)) rfl) ?_
      refine rg_nil (aops_nil ?_)
      change Awp _ _ _ _ _
      refine awp_ret ?_
      refine ⟨_, (.cons (.tmp (by exact .d _)) .nil), ?_⟩
      rw [hz]; rfl
end Go.Proofs.YtphlaicnmmglhaaGreat.Am.M
