/- Contracts over the abstract machine: the examples (awake). Conditions: none. -/
import Derived.Test.YtgolkffigoabhaaB1
set_option linter.unusedVariables false
set_option linter.unusedSimpArgs false
namespace Go.Proofs.Ytgolkffigoabhaa.Am.M
open Go

def twoL : List Stp := [⟨⟨#[119, 101, 100, 103, 101]⟩, 100, 50, []⟩, ⟨⟨#[103, 97, 105, 110]⟩, 50, 50, [0]⟩]
def doneL : List Evt := [⟨0, 0, 200⟩, ⟨10, 1, 210⟩]
set_option maxRecDepth 100000 in
theorem two_p0  : PC Try.prog 13 [] (.sl 4 [[.v (.string ⟨#[119, 101, 100, 103, 101]⟩), .v (.int .i64 100), .v (.int .i64 50), .v (.slice none 0 0)], [.v (.string ⟨#[103, 97, 105, 110]⟩), .v (.int .i64 50), .v (.int .i64 50), .sl 1 [iC 0]]]) := by
  refine pc_of_awp Try.func13 rfl Try.ntmps13 (rs := [.tmp 0]) Try.results13 (by simp) fun w0 => ?_
  refine awp_seq ?_
  refine awp_region 1 mixed (by kernel_rfl) ?_
  first | refine rg_q (q_assign (x := .d (.sl _ _)) rfl) ?_ | refine rg_q (q_assign (x := .rs _) rfl) ?_ | refine rg_q (q_assign (x := .d (.v _)) rfl) ?_
  refine rg_nil ?_
  refine aops_nil ?_
  change Awp _ _ _ _ _
  refine awp_seq ?_
  refine awp_region 5 mixed (by kernel_rfl) ?_
  refine rg_q (q_build (cs := [_, _, _, _]) pl83 zr83 rfl (.cons rfl (by first | exact .inl rfl | exact .inr ⟨_, rfl⟩) (.cons rfl (by first | exact .inl rfl | exact .inr ⟨_, rfl⟩) (.cons rfl (by first | exact .inl rfl | exact .inr ⟨_, rfl⟩) .nil))) ⟨⟨rfl, by decide⟩, ⟨rfl, by decide⟩, ⟨rfl, by decide⟩, trivial⟩ rfl) ?_
  refine rg_q (q_buildSlice sl22 zr3 rfl rfl (by decide) (.cons rfl (by first | exact .inl rfl | exact .inr ⟨_, rfl⟩) .nil) ⟨rfl, rfl, trivial⟩ rfl (by decide) rfl) ?_
  refine rg_q (q_build (cs := [_, _, _, _]) pl83 zr83 rfl (.cons rfl (by first | exact .inl rfl | exact .inr ⟨_, rfl⟩) (.cons rfl (by first | exact .inl rfl | exact .inr ⟨_, rfl⟩) (.cons rfl (by first | exact .inl rfl | exact .inr ⟨_, rfl⟩) (.cons rfl (by first | exact .inl rfl | exact .inr ⟨_, rfl⟩) .nil)))) ⟨⟨rfl, by decide⟩, ⟨rfl, by decide⟩, ⟨rfl, by decide⟩, ⟨rfl, by decide⟩, trivial⟩ rfl) ?_
  refine rg_q (q_buildSlice sl45 zr83 rfl rfl (by decide) (.cons rfl (by first | exact .inl rfl | exact .inr ⟨_, rfl⟩) (.cons rfl (by first | exact .inl rfl | exact .inr ⟨_, rfl⟩) .nil)) ⟨rfl, rfl, rfl, rfl, trivial⟩ rfl (by decide) rfl) ?_
  first | refine rg_q (q_assign (x := .d (.sl _ _)) rfl) ?_ | refine rg_q (q_assign (x := .rs _) rfl) ?_ | refine rg_q (q_assign (x := .d (.v _)) rfl) ?_
  refine rg_nil ?_
  refine aops_nil ?_
  change Awp _ _ _ _ _
  refine awp_ret ?_
  refine ⟨_, (.cons (.tmp (by first | exact .d _ | exact .rs rfl | exact .ref rfl | exact .tref rfl (.cons (.d _ rfl) (.cons (.rs rfl) .nil)))) .nil), ?_⟩
  rfl

theorem two_p : PC Try.prog 13 [] (.sl 4 (twoL.map stepC)) := two_p0.up fun _ _ _ h => h.up_sl (.cons (.cons (.same _) (.cons (.same _) (.cons (.same _) (.cons (.nil 1) .nil)))) (.cons (.cons (.same _) (.cons (.same _) (.cons (.same _) (.cons (.same _) .nil)))) .nil))
set_option maxRecDepth 100000 in
theorem done_p  : PC Try.prog 14 [] (.sl 3 (doneL.map evC)) := by
  refine pc_of_awp Try.func14 rfl Try.ntmps14 (rs := [.tmp 0]) Try.results14 (by simp) fun w0 => ?_
  refine awp_seq ?_
  refine awp_region 1 mixed (by kernel_rfl) ?_
  first | refine rg_q (q_assign (x := .d (.sl _ _)) rfl) ?_ | refine rg_q (q_assign (x := .rs _) rfl) ?_ | refine rg_q (q_assign (x := .d (.v _)) rfl) ?_
  refine rg_nil ?_
  refine aops_nil ?_
  change Awp _ _ _ _ _
  refine awp_seq ?_
  refine awp_region 4 mixed (by kernel_rfl) ?_
  refine rg_q (q_build (cs := [_, _, _]) pl79 zr79 rfl (.cons rfl (by first | exact .inl rfl | exact .inr ⟨_, rfl⟩) (.cons rfl (by first | exact .inl rfl | exact .inr ⟨_, rfl⟩) (.cons rfl (by first | exact .inl rfl | exact .inr ⟨_, rfl⟩) .nil))) ⟨⟨rfl, by decide⟩, ⟨rfl, by decide⟩, ⟨rfl, by decide⟩, trivial⟩ rfl) ?_
  refine rg_q (q_build (cs := [_, _, _]) pl79 zr79 rfl (.cons rfl (by first | exact .inl rfl | exact .inr ⟨_, rfl⟩) (.cons rfl (by first | exact .inl rfl | exact .inr ⟨_, rfl⟩) (.cons rfl (by first | exact .inl rfl | exact .inr ⟨_, rfl⟩) .nil))) ⟨⟨rfl, by decide⟩, ⟨rfl, by decide⟩, ⟨rfl, by decide⟩, trivial⟩ rfl) ?_
  refine rg_q (q_buildSlice sl47 zr79 rfl rfl (by decide) (.cons rfl (by first | exact .inl rfl | exact .inr ⟨_, rfl⟩) (.cons rfl (by first | exact .inl rfl | exact .inr ⟨_, rfl⟩) .nil)) ⟨rfl, rfl, rfl, rfl, trivial⟩ rfl (by decide) rfl) ?_
  first | refine rg_q (q_assign (x := .d (.sl _ _)) rfl) ?_ | refine rg_q (q_assign (x := .rs _) rfl) ?_ | refine rg_q (q_assign (x := .d (.v _)) rfl) ?_
  refine rg_nil ?_
  refine aops_nil ?_
  change Awp _ _ _ _ _
  refine awp_ret ?_
  refine ⟨_, (.cons (.tmp (by first | exact .d _ | exact .rs rfl | exact .ref rfl | exact .tref rfl (.cons (.d _ rfl) (.cons (.rs rfl) .nil)))) .nil), ?_⟩
  rfl

theorem two_sz : ∀ s ∈ twoL, SzOk s.nm := by
  intro s hs
  simp only [twoL, List.mem_cons, List.not_mem_nil, or_false] at hs
  rcases hs with rfl | rfl <;> decide
theorem gain_at : gainS (echoS [(1000, 800), (2000, 400)] 1500) 600 1000 = ((1000, 1000), 0) := by decide +kernel
theorem until_at : untilOfS twoL doneL 1 = (60, 0) := by decide +kernel
theorem gain_p : PC Try.prog 15 [.sl 2 [[.v (.int .i64 1000), .v (.int .i64 800)], [.v (.int .i64 2000), .v (.int .i64 400)]], .v (.int .i64 1500), .v (.int .i64 600)] (.tup [.agg [.v (.int .i64 1000), .v (.int .i64 1000)], .v (.int .i64 0)]) := by
  have h := GainAt_p [(1000, 800), (2000, 400)] 1500 600
  rw [gain_at] at h; exact h
theorem untilOf_p : PC Try.prog 12 [.sl 4 (twoL.map stepC), .sl 3 (doneL.map evC), .v (.int .i64 1)] (.tup [.v (.int .i64 60), .v (.int .i64 0)]) := by
  have h := UntilOf_p twoL two_sz doneL 1
  rw [until_at] at h; exact h
end Go.Proofs.Ytgolkffigoabhaa.Am.M
