/- Contracts over the abstract machine: package law: senders. Conditions: none. -/
import Derived.Test.YtgeieocphgnipaaGreatDoorF1
set_option linter.unusedVariables false
set_option linter.unusedSimpArgs false
-- mini
namespace Go.Proofs.YtgeieocphgnipaaGreatDoor.Am.M
open Go

/-- The elements that send, with their ticks. -/
def sndTo (l : List Int) : Nat → List (Int × Int)
  | 0 => []
  | k + 1 => sndTo l k ++ (match l[k]? with
    | some n => if 0 ≤ n then [((k : Int), n)] else []
    | none => [])
theorem sndTo_yes {l : List Int} {k : Nat} {n : Int} (h : l[k]? = some n) (hn : 0 ≤ n) : sndTo l (k + 1) = sndTo l k ++ [((k : Int), n)] := by simp [sndTo, h, hn]
theorem sndTo_no {l : List Int} {k : Nat} {n : Int} (h : l[k]? = some n) (hn : ¬ 0 ≤ n) : sndTo l (k + 1) = sndTo l k := by simp [sndTo, h, hn]
theorem sndTo_pre {l : List Int} {j : Nat} : ∀ {k : Nat}, j ≤ k → sndTo l j <+: sndTo l k
  | 0, h => by have : j = 0 := by omega
               subst this; exact List.prefix_rfl
  | k + 1, h => by
    by_cases e : j = k + 1
    · subst e; exact List.prefix_rfl
    · exact (sndTo_pre (show j ≤ k by omega)).trans (List.prefix_append _ _)
set_option maxRecDepth 100000 in
theorem senders_i (x : Dly) : PI Tryz.prog 146 [] [.pt (dlyC x) 0] (fun p : Int × Int => [.v (.int .i64 p.1), .v (.int .i64 p.2)]) (sndTo x.tk x.tk.length) true := by
  refine pi_of_iwp Tryz.func146 rfl Tryz.ntmps146 rfl rfl fun J c l0 hJ hy hdat hfin => ?_
  refine iwp_seq ?_
  apply iwp_reg hJ
  ·
    intro c1 hmine hrnd
    refine awp_region 4 mixed (by kernel_rfl) ?_
    refine rg_q (q_fieldAddr fld33_1 rfl) ?_
    refine rg_q (q_load sz31 rfl rfl) ?_
    refine rg_q (q_len isl31 rfl (by exact len_map _ _)) ?_
    refine rg_q (q_move (x := .d (.v _)) rfl) ?_
    refine rg_nil ?_
    refine aops_nil ?_
    exact ⟨rfl, rfl⟩
  change Iwp _ _ _ _ _ _ _
  refine iwp_len (t := 6) rfl (fun hl6 => ?_)
  (try simp only [List.length_map] at hl6)
  refine iwp_block ?_
  refine iwp_loopH [3, 4, 8, 9, 10, 11, 12, 13, 14, 15, 16, 17, 18, 19, 20, 21, 22] [] (β := Nat) (fun k => [(8, T.i (k : Int))]) (fun k => []) (fun k => (true, sndTo x.tk k)) (fun k => k ≤ x.tk.length) (fun k => x.tk.length - k) 0 (Nat.zero_le _) rfl (fun c1 => ?_) ?_
  · exact le_head (ms := []) (by repeat (exact Out.refl _)) ⟨(by rfl), trivial⟩ trivial rfl rfl rfl rfl
  ·
    intro k hk
    refine iwp_seq ?_
    apply iwp_reg hJ
    ·
      intro c1 hmine hrnd
      refine awp_region 1 mixed (by kernel_rfl) ?_
      refine rg_q (q_lss rfl rfl) ?_
      refine rg_nil ?_
      refine aops_nil ?_
      exact ⟨rfl, rfl⟩
    change Iwp _ _ _ _ _ _ _
    refine iwp_seq ?_
    refine iwp_cond rfl (fun hc1 => ?_) (fun hc1 => ?_)
    ·
      (try simp only [decide_eq_true_eq, decide_eq_false_iff_not, Bool.and_eq_true, Bool.or_eq_true, Bool.and_eq_false_iff, Bool.or_eq_false_iff, Bool.not_eq_true', Bool.not_eq_false', Bool.not_true, Bool.not_false, bif_and, bif_or, Bool.not_not, ne_eq, Decidable.not_not, not_true_eq_false, not_false_eq_true, Int.not_le, Int.not_lt] at hc1)
      have hlt : k < x.tk.length := by omega
      obtain ⟨n, hx⟩ : ∃ n, x.tk[k]? = some n := ⟨_, List.getElem?_eq_getElem hlt⟩
      refine iwp_skip ?_
      change Iwp _ _ _ _ _ _ _
      refine iwp_seq ?_
      refine iwp_block ?_
      refine iwp_seq ?_
      apply iwp_reg hJ
      ·
        intro c1 hmine hrnd
        refine awp_region 5 mixed (by kernel_rfl) ?_
        refine rg_q (q_move (x := .d (.v _)) rfl) ?_
        refine rg_q (q_indexAddr sl31 rfl rfl (by omega) (map_at (by omega) hx)) ?_
        refine rg_q (q_load sz3 rfl rfl) ?_
        refine rg_q (q_assign (x := .d (.v _)) rfl) ?_
        refine rg_q (q_assign (x := .d (.v _)) rfl) ?_
        refine rg_nil ?_
        refine aops_nil ?_
        exact ⟨rfl, rfl⟩
      change Iwp _ _ _ _ _ _ _
      refine iwp_seq ?_
      refine iwp_region ?_
      refine iops_of hJ rfl (fun c1 _ _ _ h => by exact aops_q rfl ((q_move (x := .d (.v _)) rfl)) h) ?_
      refine iops_of hJ rfl (fun c1 _ _ _ h => by exact aops_q rfl ((q_call en120 (.cons rfl .nil) rfl (sends_p _))) h) ?_
      refine iops_of hJ rfl (fun c1 _ _ _ h => by exact aops_q rfl ((q_move (x := .d (.v _)) rfl)) h) ?_
      rcases Bool.eq_false_or_eq_true (decide (0 ≤ n)) with hb | hb
      ·
        refine iops_g hJ rfl (congrArg T.bool hb) rfl (by intro d hd; cases hd; exact (by decide : (16 : Nat) < 23)) (fun c1 => ((q_move (x := .d (.fn _ _)) rfl))) ?_
        refine iops_g hJ rfl (congrArg T.bool hb) rfl (by intro d hd; cases hd; exact (by decide : (17 : Nat) < 23)) (fun c1 => ((q_move (x := .d (.v _)) rfl))) ?_
        refine iops_g hJ rfl (congrArg T.bool hb) rfl (by intro d hd; cases hd; exact (by decide : (18 : Nat) < 23)) (fun c1 => ((q_move (x := .d (.v _)) rfl))) ?_
        refine iops_yieldG (x := ((k : Int), n)) rfl (congrArg T.bool hb) rfl hy hdat rfl (.cons rfl (.cons rfl .nil)) (by rw [← sndTo_yes hx (of_decide_eq_true hb)]; exact sndTo_pre (by omega)) rfl (fun yb => ?_)
        refine iops_g hJ rfl (congrArg T.bool hb) rfl (by intro d hd; cases hd; exact (by decide : (20 : Nat) < 23)) (fun c1 => ((q_not rfl))) ?_
        refine iops_of hJ rfl (fun c1 _ _ _ h => by exact aops_q rfl ((q_pick rfl rfl rfl)) h) ?_
        refine iops_nil ?_
        change Iwp _ _ _ _ _ _ _
        refine iwp_cond rfl (fun hc3 => ?_) (fun hc3 => ?_)
        ·
          (try simp only [decide_eq_true_eq, decide_eq_false_iff_not, Bool.and_eq_true, Bool.or_eq_true, Bool.and_eq_false_iff, Bool.or_eq_false_iff, Bool.not_eq_true', Bool.not_eq_false', Bool.not_true, Bool.not_false, bif_and, bif_or, Bool.not_not, ne_eq, Decidable.not_not, not_true_eq_false, not_false_eq_true, Int.not_le, Int.not_lt] at hc3)
          have hyb : yb = false := by cases yb <;> first | rfl | (exfalso; simp_all; done)
          refine iwp_ret ?_
          exact ⟨.inl rfl, fun h => by rw [hyb] at h; cases h⟩
        ·
          (try simp only [decide_eq_true_eq, decide_eq_false_iff_not, Bool.and_eq_true, Bool.or_eq_true, Bool.and_eq_false_iff, Bool.or_eq_false_iff, Bool.not_eq_true', Bool.not_eq_false', Bool.not_true, Bool.not_false, bif_and, bif_or, Bool.not_not, ne_eq, Decidable.not_not, not_true_eq_false, not_false_eq_true, Int.not_le, Int.not_lt] at hc3)
          have hyb : yb = true := by cases yb <;> first | rfl | (exfalso; simp_all; omega)
          refine iwp_skip ?_
          change Iwp _ _ _ _ _ _ _
          apply iwp_reg hJ
          ·
            intro c1 hmine hrnd
            refine awp_region 2 mixed (by kernel_rfl) ?_
            refine rg_q (q_add rfl rfl (In64.mk (by omega) (by omega))) ?_
            refine rg_q (q_move (x := .d (.v _)) rfl) ?_
            refine rg_nil ?_
            refine aops_nil ?_
            exact ⟨rfl, rfl⟩
          refine ⟨k + 1, by omega, by omega, by rw [hyb, sndTo_yes hx (of_decide_eq_true hb)], fun c1 => ?_⟩
          exact le_head (ms := []) (by repeat (first | exact Out.head rfl rfl | (refine Out.put ?_ rfl))) ⟨(by rfl), trivial⟩ trivial rfl rfl rfl rfl
      ·
        refine iops_skip (g := false) (b := true) rfl rfl (congrArg T.bool hb) rfl rfl (by intro d hd; cases hd; exact (by decide : (16 : Nat) < 23)) ?_
        refine iops_skip (g := false) (b := true) rfl rfl (congrArg T.bool hb) rfl rfl (by intro d hd; cases hd; exact (by decide : (17 : Nat) < 23)) ?_
        refine iops_skip (g := false) (b := true) rfl rfl (congrArg T.bool hb) rfl rfl (by intro d hd; cases hd; exact (by decide : (18 : Nat) < 23)) ?_
        refine iops_skip (g := false) (b := true) rfl rfl (congrArg T.bool hb) rfl rfl (by intro d hd; cases hd; exact (by decide : (19 : Nat) < 23)) ?_
        refine iops_skip (g := false) (b := true) rfl rfl (congrArg T.bool hb) rfl rfl (by intro d hd; cases hd; exact (by decide : (20 : Nat) < 23)) ?_
        refine iops_of hJ rfl (fun c1 _ _ _ h => by exact aops_q rfl (q_pickF (congrArg T.bool hb) rfl) h) ?_
        refine iops_nil ?_
        change Iwp _ _ _ _ _ _ _
        refine iwp_cond rfl (fun hc3 => ?_) (fun hc3 => ?_)
        ·
          exfalso; (try simp only [decide_eq_true_eq, decide_eq_false_iff_not, Bool.and_eq_true, Bool.or_eq_true, Bool.and_eq_false_iff, Bool.or_eq_false_iff, Bool.not_eq_true', Bool.not_eq_false', Bool.not_true, Bool.not_false, bif_and, bif_or, Bool.not_not, ne_eq, Decidable.not_not, not_true_eq_false, not_false_eq_true, Int.not_le, Int.not_lt] at hc3); simp_all
        ·
          (try simp only [decide_eq_true_eq, decide_eq_false_iff_not, Bool.and_eq_true, Bool.or_eq_true, Bool.and_eq_false_iff, Bool.or_eq_false_iff, Bool.not_eq_true', Bool.not_eq_false', Bool.not_true, Bool.not_false, bif_and, bif_or, Bool.not_not, ne_eq, Decidable.not_not, not_true_eq_false, not_false_eq_true, Int.not_le, Int.not_lt] at hc3)
          refine iwp_skip ?_
          change Iwp _ _ _ _ _ _ _
          apply iwp_reg hJ
          ·
            intro c1 hmine hrnd
            refine awp_region 2 mixed (by kernel_rfl) ?_
            refine rg_q (q_add rfl rfl (In64.mk (by omega) (by omega))) ?_
            refine rg_q (q_move (x := .d (.v _)) rfl) ?_
            refine rg_nil ?_
            refine aops_nil ?_
            exact ⟨rfl, rfl⟩
          refine ⟨k + 1, by omega, by omega, by rw [sndTo_no hx (of_decide_eq_false hb)], fun c1 => ?_⟩
          exact le_head (ms := []) (by repeat (first | exact Out.head rfl rfl | (refine Out.put ?_ rfl))) ⟨(by rfl), trivial⟩ trivial rfl rfl rfl rfl
    ·
      (try simp only [decide_eq_true_eq, decide_eq_false_iff_not, Bool.and_eq_true, Bool.or_eq_true, Bool.and_eq_false_iff, Bool.or_eq_false_iff, Bool.not_eq_true', Bool.not_eq_false', Bool.not_true, Bool.not_false, bif_and, bif_or, Bool.not_not, ne_eq, Decidable.not_not, not_true_eq_false, not_false_eq_true, Int.not_le, Int.not_lt] at hc1)
      have hkl : k = x.tk.length := by omega
      refine iwp_exit ?_
      exact ⟨.inr rfl, fun _ => by rw [hkl]⟩
set_option maxRecDepth 100000 in
theorem senders_p (x : Dly) : PC Tryz.prog 104 [.agg (dlyC x)] (.fn (.func 146) [.pt (dlyC x) 0]) := by
  refine pc_of_awp Tryz.func104 rfl Tryz.ntmps104 (rs := [.tmp 2]) Tryz.results104 (by simp) fun w0 => ?_
  refine awp_seq ?_
  refine awp_region 2 mixed (by kernel_rfl) ?_
  refine rg_q (q_box rfl (by exact .inr ⟨_, rfl⟩)) ?_
  refine rg_q (q_assign (x := .d (.v .nilFunc)) rfl) ?_
  refine rg_nil ?_
  refine aops_nil ?_
  change Awp _ _ _ _ _
  refine awp_seq ?_
  refine awp_region 2 mixed (by kernel_rfl) ?_
  refine rg_q (q_makeFunc (.cons rfl .nil)) ?_
  refine rg_q (q_assign (x := .d (.fn _ _)) rfl) ?_
  refine rg_nil ?_
  refine aops_nil ?_
  change Awp _ _ _ _ _
  refine awp_ret ?_
  refine ⟨_, (.cons (.tmp (by exact .d _)) .nil), ?_⟩
  rfl
end Go.Proofs.YtgeieocphgnipaaGreatDoor.Am.M
