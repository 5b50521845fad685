/- Contracts over the abstract machine: package law: FocusLaw, the example. Conditions: none. -/
import Derived.Test.YtgeieocphgnipaaGreatDoorF8
set_option linter.unusedVariables false
set_option linter.unusedSimpArgs false
-- mini
namespace Go.Proofs.YtgeieocphgnipaaGreatDoor.Am.M
open Go
set_option maxRecDepth 100000 in
theorem focusLaw_p (a : Lar) (p : Int × Int) (h1 : (ckLar a).2 = 0) (h2 : plcE a p = 0) (t1 : 2 ≤ a.md.t) (t2 : a.md.t ≤ 20000) (c1 : 1 ≤ a.ck) (c2 : a.ck ≤ 1000000) (n1 : 1 ≤ a.el.length) (n2 : a.el.length ≤ 16) (hE : ∀ s ∈ a.el, (ltI a.md s p).2 = 0) (hT : ∀ i : Nat, i < a.el.length → fcI a p (i : Int) ≤ 1000000) : PC Tryz.prog 19 [.agg (larC a), .agg (shC p)] (.tup [.agg (dlyC ⟨a.ck, bltL (fcI a p) a.el.length⟩), .v (.int .i64 (0))]) := by
  refine pc_of_awp Tryz.func19 rfl Tryz.ntmps19 (rs := [.cell 4 33, .tmp 5]) Tryz.results19 (by simp) fun w0 => ?_
  refine awp_seq ?_
  refine awp_region 2 mixed (by kernel_rfl) ?_
  refine rg_q (q_box rfl (by exact .inr ⟨_, rfl⟩)) ?_
  refine rg_q (q_box rfl (by exact .inr ⟨_, rfl⟩)) ?_
  refine rg_nil ?_
  refine aops_alloc zr33 rfl rfl rfl ?_
  refine aops_q rfl (q_assign (x := .d (.v _)) rfl) ?_
  refine aops_nil ?_
  change Awp _ _ _ _ _
  refine awp_seq ?_
  refine awp_seq ?_
  refine awp_region 3 mixed (by kernel_rfl) ?_
  refine rg_q (q_loadA (ds := [_, _, _, _, _, _]) sz26 rfl rfl rfl) ?_
  refine rg_q (q_call en80 (.cons rfl .nil) rfl (arrayErr_p _)) ?_
  refine rg_q (q_assign (x := .d (.v _)) rfl) ?_
  refine rg_nil ?_
  refine aops_nil ?_
  change Awp _ _ _ _ _
  refine awp_seq ?_
  refine awp_region 2 mixed (by kernel_rfl) ?_
  refine rg_q (q_move (x := .d (.v _)) rfl) ?_
  refine rg_q (q_neq rfl rfl) ?_
  refine rg_nil ?_
  refine aops_nil ?_
  change Awp _ _ _ _ _
  refine awp_cond rfl (fun hc2 => ?_) (fun hc2 => ?_)
  ·
    exfalso; (try simp only [decide_eq_true_eq, decide_eq_false_iff_not, Bool.and_eq_true, Bool.or_eq_true, Bool.and_eq_false_iff, Bool.or_eq_false_iff, Bool.not_eq_true', Bool.not_eq_false', Bool.not_true, Bool.not_false, bif_and, bif_or, Bool.not_not, ne_eq, Decidable.not_not, not_true_eq_false, not_false_eq_true, Int.not_le, Int.not_lt] at hc2); omega
  ·
    (try simp only [decide_eq_true_eq, decide_eq_false_iff_not, Bool.and_eq_true, Bool.or_eq_true, Bool.and_eq_false_iff, Bool.or_eq_false_iff, Bool.not_eq_true', Bool.not_eq_false', Bool.not_true, Bool.not_false, bif_and, bif_or, Bool.not_not, ne_eq, Decidable.not_not, not_true_eq_false, not_false_eq_true, Int.not_le, Int.not_lt] at hc2)
    refine awp_skip ?_
    change Awp _ _ _ _ _
    refine awp_seq ?_
    refine awp_seq ?_
    refine awp_region 4 mixed (by kernel_rfl) ?_
    refine rg_q (q_loadA (ds := [_, _, _, _, _, _]) sz26 rfl rfl rfl) ?_
    refine rg_q (q_loadA (ds := [_, _]) sz28 rfl rfl rfl) ?_
    refine rg_q (q_call en81 (.cons rfl (.cons rfl .nil)) rfl (placeErr_p a p t1 t2)) ?_
    refine rg_q (q_assign (x := .d (.v _)) rfl) ?_
    refine rg_nil ?_
    refine aops_nil ?_
    change Awp _ _ _ _ _
    refine awp_seq ?_
    refine awp_region 2 mixed (by kernel_rfl) ?_
    refine rg_q (q_move (x := .d (.v _)) rfl) ?_
    refine rg_q (q_neq rfl rfl) ?_
    refine rg_nil ?_
    refine aops_nil ?_
    change Awp _ _ _ _ _
    refine awp_cond rfl (fun hc5 => ?_) (fun hc5 => ?_)
    ·
      exfalso; (try simp only [decide_eq_true_eq, decide_eq_false_iff_not, Bool.and_eq_true, Bool.or_eq_true, Bool.and_eq_false_iff, Bool.or_eq_false_iff, Bool.not_eq_true', Bool.not_eq_false', Bool.not_true, Bool.not_false, bif_and, bif_or, Bool.not_not, ne_eq, Decidable.not_not, not_true_eq_false, not_false_eq_true, Int.not_le, Int.not_lt] at hc5); omega
    ·
      (try simp only [decide_eq_true_eq, decide_eq_false_iff_not, Bool.and_eq_true, Bool.or_eq_true, Bool.and_eq_false_iff, Bool.or_eq_false_iff, Bool.not_eq_true', Bool.not_eq_false', Bool.not_true, Bool.not_false, bif_and, bif_or, Bool.not_not, ne_eq, Decidable.not_not, not_true_eq_false, not_false_eq_true, Int.not_le, Int.not_lt] at hc5)
      refine awp_skip ?_
      change Awp _ _ _ _ _
      refine awp_seq ?_
      refine awp_region 5 mixed (by kernel_rfl) ?_
      refine rg_q (q_loadA (ds := [_, _, _, _, _, _]) sz26 rfl rfl rfl) ?_
      refine rg_q (q_loadA (ds := [_, _]) sz28 rfl rfl rfl) ?_
      refine rg_q (q_call en82 (.cons rfl (.cons rfl .nil)) rfl (focused_p a p c1 c2 n1 n2 hE hT)) ?_
      refine rg_q (q_extract rfl rfl) ?_
      refine rg_q (q_extract rfl rfl) ?_
      refine rg_nil ?_
      refine aops_store sz33 rfl rfl (by exact .inr ⟨_, rfl⟩) rfl rfl (by decide) rfl ?_
      refine aops_q rfl (q_assign (x := .d (.v _)) rfl) ?_
      refine aops_nil ?_
      change Awp _ _ _ _ _
      refine awp_ret ?_
      refine ⟨_, (.cons (.cellA rfl rfl sz33 rfl) (.cons (.tmp (by exact .d _)) .nil)), ?_⟩
      rfl

def exA : Lar := ⟨[(0, -300), (0, -600)], ⟨2500, 5000, 0, 1000⟩, 1000⟩
theorem ex_ck : (ckLar exA).2 = 0 := by decide +kernel
theorem ex_pl : plcE exA (0, 400) = 0 := by decide +kernel
theorem ex_e : ∀ s ∈ exA.el, (ltI exA.md s (0, 400)).2 = 0 := by decide +kernel
theorem ex_l : bltL (fcI exA (0, 400)) 2 = [1200, 0] := by decide +kernel
theorem ex_t : ∀ i : Nat, i < 2 → fcI exA (0, 400) (i : Int) ≤ 1000000 := by decide +kernel
theorem focusEx_p : PC Tryz.prog 19 [.agg (larC exA), .agg [.v (.int .i64 0), .v (.int .i64 400)]] (.tup [.agg [.v (.int .i64 1000), .sl 1 [iC 1200, iC 0]], .v (.int .i64 0)]) := by
  have h := focusLaw_p exA (0, 400) ex_ck ex_pl (by decide) (by decide) (by decide) (by decide) (by decide) (by decide) ex_e ex_t
  have e : bltL (fcI exA (0, 400)) exA.el.length = [1200, 0] := ex_l
  rw [e] at h
  exact h
set_option maxRecDepth 100000 in
theorem lawTwo_p  : PC Tryz.prog 79 [] (.agg (larC exA)) := by
  refine pc_of_awp Tryz.func79 rfl Tryz.ntmps79 (rs := [.cell 0 26]) Tryz.results79 (by simp) fun w0 => ?_
  refine awp_seq ?_
  refine awp_region 0 mixed (by kernel_rfl) ?_
  refine rg_nil ?_
  refine aops_alloc zr26 rfl rfl rfl ?_
  refine aops_nil ?_
  change Awp _ _ _ _ _
  refine awp_seq ?_
  refine awp_region 5 mixed (by kernel_rfl) ?_
  refine rg_q (q_build (cs := [_, _]) pl28 zr28 rfl (.cons rfl (by exact .inl rfl) .nil) ⟨⟨rfl, by decide⟩, trivial⟩ rfl) ?_
  refine rg_q (q_build (cs := [_, _]) pl28 zr28 rfl (.cons rfl (by exact .inl rfl) .nil) ⟨⟨rfl, by decide⟩, trivial⟩ rfl) ?_
  refine rg_q (q_buildSlice sl22 zr28 rfl rfl (by decide) (.cons rfl (by exact .inr ⟨_, rfl⟩) (.cons rfl (by exact .inr ⟨_, rfl⟩) .nil)) ⟨rfl, rfl, rfl, rfl, trivial⟩ rfl (by decide) rfl) ?_
  refine rg_q (q_build (cs := [_, _, _, _]) pl24 zr24 rfl (.cons rfl (by exact .inl rfl) (.cons rfl (by exact .inl rfl) (.cons rfl (by exact .inl rfl) .nil))) ⟨⟨rfl, by decide⟩, ⟨rfl, by decide⟩, ⟨rfl, by decide⟩, trivial⟩ rfl) ?_
  refine rg_q (q_build (cs := [_, _, _, _, _, _]) pl26 zr26 rfl (.cons rfl (by exact .inl rfl) (.cons rfl (by exact .inr ⟨_, rfl⟩) (.cons rfl (by exact .inl rfl) .nil))) ⟨⟨rfl, by decide⟩, ⟨rfl, by decide⟩, ⟨rfl, by decide⟩, trivial⟩ rfl) ?_
  refine rg_nil ?_
  refine aops_store sz26 rfl rfl (by exact .inr ⟨_, rfl⟩) rfl rfl (by decide) rfl ?_
  refine aops_nil ?_
  change Awp _ _ _ _ _
  refine awp_ret ?_
  refine ⟨_, (.cons (.cellA rfl rfl sz26 rfl) .nil), ?_⟩
  rfl
end Go.Proofs.YtgeieocphgnipaaGreatDoor.Am.M
