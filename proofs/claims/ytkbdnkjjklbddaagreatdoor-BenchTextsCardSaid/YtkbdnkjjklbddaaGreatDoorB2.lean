/- Contracts over the abstract machine: addresses of the numbers of a flaw and of a mode, as data. Conditions: none. -/
import Derived.Test.YtkbdnkjjklbddaaGreatDoorB1
set_option linter.unusedVariables false
set_option linter.unusedSimpArgs false
-- mini
set_option maxRecDepth 100000
namespace Go.Proofs.YtkbdnkjjklbddaaGreatDoor.Am.M
open Go
theorem numbersOf3_p (x : Flw) (hk : x.kd = 0) : PC Tryz.prog 27 [.pt (flwC x) 0] (.sl 1 [[.pt (flwC x) 1], [.pt (flwC x) 2], [.pt (flwC x) 6]]) := by
 refine pc_of_awp Tryz.func27 rfl Tryz.ntmps27 (rs := [.tmp 2]) Tryz.results27 (by simp) fun w0 => ?_
 refine awp_seq ?_
 refine xa 1 ?_
 refine rg_q (q_assign (x := .d (.sl _ _)) rfl) ?_
 refine rs (awp_seq ?_)
 refine xa 5 ?_
 refine rg_q (q_move (x := .d (.pt _ _)) rfl) (rg_q (q_nilCheck rfl) (rg_q (q_fieldAddr fld39_0 rfl) (rg_q (q_load sz3 rfl rfl) (rg_q (q_eql rfl rfl) ?_))))
 refine xc (awp_cond rfl (fun hc1 => ?_) (fun hc1 => ?_))
 ·
  (try simp only [nb, ne_eq] at hc1)
  refine awp_seq ?_
  refine xa 13 ?_
  refine rg_q (q_move (x := .d (.pt _ _)) rfl) (rg_q (q_nilCheck rfl) (rg_q (q_fieldAddr fld39_1 rfl) (rg_q (q_fieldAddr fld37_0 rfl) (rg_q (q_move (x := .d (.pt _ _)) rfl) (rg_q (q_nilCheck rfl) ?_)))))
  refine rg_q (q_fieldAddr fld39_1 rfl) (rg_q (q_fieldAddr fld37_1 rfl) (rg_q (q_move (x := .d (.pt _ _)) rfl) (rg_q (q_nilCheck rfl) (rg_q (q_fieldAddr fld39_4 rfl) ?_))))
  refine rg_q (q_buildSlice sl77 zr87 rfl rfl (by decide) (.cons rfl (by exact .inl rfl) (.cons rfl (by exact .inl rfl) (.cons rfl (by exact .inl rfl) .nil))) ⟨rfl, rfl, rfl, rfl, rfl, rfl, trivial⟩ rfl (by decide) rfl) ?_
  refine rg_q (q_assign (x := .d (.sl _ _)) rfl) ?_
  refine xc (awp_ret ?_)
  refine ⟨_, xk1, ?_⟩
  rfl
 ·
  simp [hk] at hc1
theorem numbersOf7_p (x : Flw) (hk : x.kd ≠ 0) : PC Tryz.prog 27 [.pt (flwC x) 0] (.sl 1 [[.pt (flwC x) 1], [.pt (flwC x) 2], [.pt (flwC x) 3], [.pt (flwC x) 4], [.pt (flwC x) 5], [.pt (flwC x) 6], [.pt (flwC x) 7]]) := by
 refine pc_of_awp Tryz.func27 rfl Tryz.ntmps27 (rs := [.tmp 2]) Tryz.results27 (by simp) fun w0 => ?_
 refine awp_seq ?_
 refine xa 1 ?_
 refine rg_q (q_assign (x := .d (.sl _ _)) rfl) ?_
 refine rs (awp_seq ?_)
 refine xa 5 ?_
 refine rg_q (q_move (x := .d (.pt _ _)) rfl) (rg_q (q_nilCheck rfl) (rg_q (q_fieldAddr fld39_0 rfl) (rg_q (q_load sz3 rfl rfl) (rg_q (q_eql rfl rfl) ?_))))
 refine xc (awp_cond rfl (fun hc1 => ?_) (fun hc1 => ?_))
 ·
  simp [hk] at hc1
 ·
  (try simp only [nb, ne_eq] at hc1)
  refine awp_skip ?_
  change Awp _ _ _ _ _
  refine awp_seq ?_
  refine xa 27 ?_
  refine rg_q (q_move (x := .d (.pt _ _)) rfl) (rg_q (q_nilCheck rfl) (rg_q (q_fieldAddr fld39_1 rfl) (rg_q (q_fieldAddr fld37_0 rfl) (rg_q (q_move (x := .d (.pt _ _)) rfl) (rg_q (q_nilCheck rfl) ?_)))))
  refine rg_q (q_fieldAddr fld39_1 rfl) (rg_q (q_fieldAddr fld37_1 rfl) (rg_q (q_move (x := .d (.pt _ _)) rfl) (rg_q (q_nilCheck rfl) (rg_q (q_fieldAddr fld39_2 rfl) (rg_q (q_fieldAddr fld37_0 rfl) ?_)))))
  refine rg_q (q_move (x := .d (.pt _ _)) rfl) (rg_q (q_nilCheck rfl) (rg_q (q_fieldAddr fld39_2 rfl) (rg_q (q_fieldAddr fld37_1 rfl) (rg_q (q_move (x := .d (.pt _ _)) rfl) (rg_q (q_nilCheck rfl) ?_)))))
  refine rg_q (q_fieldAddr fld39_3 rfl) (rg_q (q_move (x := .d (.pt _ _)) rfl) (rg_q (q_nilCheck rfl) (rg_q (q_fieldAddr fld39_4 rfl) (rg_q (q_move (x := .d (.pt _ _)) rfl) (rg_q (q_nilCheck rfl) ?_)))))
  refine rg_q (q_fieldAddr fld39_5 rfl) ?_
  refine rg_q (q_buildSlice sl77 zr87 rfl rfl (by decide) (.cons rfl (by exact .inl rfl) (.cons rfl (by exact .inl rfl) (.cons rfl (by exact .inl rfl) (.cons rfl (by exact .inl rfl) (.cons rfl (by exact .inl rfl) (.cons rfl (by exact .inl rfl) (.cons rfl (by exact .inl rfl) .nil))))))) ⟨rfl, rfl, rfl, rfl, rfl, rfl, rfl, rfl, rfl, rfl, rfl, rfl, rfl, rfl, trivial⟩ rfl (by decide) rfl) ?_
  refine rg_q (q_assign (x := .d (.sl _ _)) rfl) ?_
  refine xc (awp_ret ?_)
  refine ⟨_, xk1, ?_⟩
  rfl
end Go.Proofs.YtkbdnkjjklbddaaGreatDoor.Am.M
