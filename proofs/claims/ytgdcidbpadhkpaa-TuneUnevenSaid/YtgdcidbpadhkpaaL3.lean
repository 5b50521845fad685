/- Contracts over the abstract machine: TuneWears. Conditions: none. -/
import Derived.Test.YtgdcidbpadhkpaaC10
set_option linter.unusedVariables false
set_option linter.unusedSimpArgs false
namespace Go.Proofs.Ytgdcidbpadhkpaa.Am.M
open Go

def rngE (is : Int → Bool) (r : Int × Int) : Int := if (!is r.1 || !is r.2) = true then 2 else if r.2 < r.1 then 9 else 0
def isD (n : Int) : Bool := inR (-1000000000000) n 1000000000000
def isS (n : Int) : Bool := inR 500 n 10000
def wearE (b n s : Int × Int) : Int := firstE [rngE isD b, rngE isD n, rngE isS s]
def wearV (b n s : Int × Int) : Int × Int := (min ((b.1 - n.2) * s.1) ((b.1 - n.2) * s.2) / 20000000, ceilI (max ((b.2 - n.1) * s.1) ((b.2 - n.1) * s.2)) 20000000)
def wearS (b n s : Int × Int) : (Int × Int) × Int := if wearE b n s ≠ 0 then ((0, 0), wearE b n s) else (wearV b n s, 0)
theorem rngE_in {lo hi : Int} {r : Int × Int} (h : rngE (fun n => inR lo n hi) r = 0) : lo ≤ r.1 ∧ r.1 ≤ hi ∧ lo ≤ r.2 ∧ r.2 ≤ hi ∧ r.1 ≤ r.2 := by
  unfold rngE at h
  split at h
  · simp at h
  · rename_i h1
    split at h
    · simp at h
    · simp [inR] at h1
      omega
set_option maxRecDepth 100000 in
theorem isDelay_p (n : Int) : PC Try.prog 92 [.v (.int .i64 (n))] (.v (.bool (isD n))) := by
  refine pc_of_awp Try.func92 rfl Try.ntmps92 (rs := [.tmp 2]) Try.results92 (by simp) fun w0 => ?_
  refine awp_seq ?_
  refine awp_region 1 mixed (by kernel_rfl) ?_
  refine rg_q (q_assign (x := .d (.v _)) rfl) ?_
  refine rg_nil ?_
  refine aops_nil ?_
  change Awp _ _ _ _ _
  refine awp_seq ?_
  refine awp_region 3 mixed (by kernel_rfl) ?_
  refine rg_q (q_move (x := .d (.v _)) rfl) ?_
  first | refine rg_q (q_call en119 (.cons rfl (.cons rfl .nil)) rfl (small_p _ _ (by omega) (by omega))) ?_ | refine rg_q (q_callF en119 (.cons (by first | exact .d _ | exact .rs rfl | exact .ref rfl | exact .nil _ | exact .tref rfl (by repeat (first | exact .nil | refine .cons (.d _ rfl) ?_ | refine .cons (.rs rfl) ?_))) (.cons (by first | exact .d _ | exact .rs rfl | exact .ref rfl | exact .nil _ | exact .tref rfl (by repeat (first | exact .nil | refine .cons (.d _ rfl) ?_ | refine .cons (.rs rfl) ?_))) .nil)) rfl (small_p _ _ (by omega) (by omega)) (by first | exact .v _ | exact D.Flat.tupF (by repeat first | exact trivial | refine ⟨.v _, ?_⟩) | exact D.Flat.aggF (by repeat first | exact trivial | refine ⟨.v _, ?_⟩))) ?_
  refine rg_q (q_assign (x := .d (.v _)) rfl) ?_
  refine rg_nil ?_
  refine aops_nil ?_
  change Awp _ _ _ _ _
  refine awp_ret ?_
  refine ⟨_, (.cons (.tmp (by first | exact .d _ | exact .rs rfl | exact .ref rfl | exact .tref rfl (.cons (.d _ rfl) (.cons (.rs rfl) .nil)))) .nil), ?_⟩
  rfl
set_option maxRecDepth 100000 in
theorem isSpeed_p (n : Int) : PC Try.prog 93 [.v (.int .i64 (n))] (.v (.bool (isS n))) := by
  refine pc_of_awp Try.func93 rfl Try.ntmps93 (rs := [.tmp 2]) Try.results93 (by simp) fun w0 => ?_
  refine awp_seq ?_
  refine awp_region 1 mixed (by kernel_rfl) ?_
  refine rg_q (q_assign (x := .d (.v _)) rfl) ?_
  refine rg_nil ?_
  refine aops_nil ?_
  change Awp _ _ _ _ _
  refine awp_seq ?_
  refine awp_region 3 mixed (by kernel_rfl) ?_
  refine rg_q (q_move (x := .d (.v _)) rfl) ?_
  first | refine rg_q (q_call en73 (.cons rfl (.cons rfl (.cons rfl .nil))) rfl (within_p _ _ _)) ?_ | refine rg_q (q_callF en73 (.cons (by first | exact .d _ | exact .rs rfl | exact .ref rfl | exact .nil _ | exact .tref rfl (by repeat (first | exact .nil | refine .cons (.d _ rfl) ?_ | refine .cons (.rs rfl) ?_))) (.cons (by first | exact .d _ | exact .rs rfl | exact .ref rfl | exact .nil _ | exact .tref rfl (by repeat (first | exact .nil | refine .cons (.d _ rfl) ?_ | refine .cons (.rs rfl) ?_))) (.cons (by first | exact .d _ | exact .rs rfl | exact .ref rfl | exact .nil _ | exact .tref rfl (by repeat (first | exact .nil | refine .cons (.d _ rfl) ?_ | refine .cons (.rs rfl) ?_))) .nil))) rfl (within_p _ _ _) (by first | exact .v _ | exact D.Flat.tupF (by repeat first | exact trivial | refine ⟨.v _, ?_⟩) | exact D.Flat.aggF (by repeat first | exact trivial | refine ⟨.v _, ?_⟩))) ?_
  refine rg_q (q_assign (x := .d (.v _)) rfl) ?_
  refine rg_nil ?_
  refine aops_nil ?_
  change Awp _ _ _ _ _
  refine awp_ret ?_
  refine ⟨_, (.cons (.tmp (by first | exact .d _ | exact .rs rfl | exact .ref rfl | exact .tref rfl (.cons (.d _ rfl) (.cons (.rs rfl) .nil)))) .nil), ?_⟩
  rfl
set_option maxRecDepth 100000 in
theorem rangeErr_p (is : Int → Bool) (g : FuncId) (hen : enB Try.prog g = true) (hf : ∀ n, PC Try.prog g [.v (.int .i64 n)] (.v (.bool (is n)))) (r : Int × Int) : PC Try.prog 91 [.agg (shC r), .fn (.func g) []] (.v (.int .i64 (rngE (is) r))) := by
  refine pc_of_awp Try.func91 rfl Try.ntmps91 (rs := [.tmp 4]) Try.results91 (by simp) fun w0 => ?_
  refine awp_seq ?_
  refine awp_region 2 mixed (by kernel_rfl) ?_
  refine rg_q (q_box rfl (by first | exact .inl rfl | exact .inr ⟨_, rfl⟩)) ?_
  refine rg_q (q_assign (x := .d (.v _)) rfl) ?_
  refine rg_nil ?_
  refine aops_nil ?_
  change Awp _ _ _ _ _
  refine awp_seq ?_
  refine awp_seq ?_
  refine awp_region 12 mixed (by kernel_rfl) ?_
  refine rg_q (q_move (x := .d (.fn _ _)) rfl) ?_
  first | refine rg_q (q_fieldAddr fld52_0 rfl) ?_ | refine rg_q (q_fieldAddr_ref fld52_0 rfl) ?_
  first | refine rg_q (q_load sz3 rfl rfl) ?_ | refine rg_q (q_load_ref sz3 rfl rfl rfl) ?_ | refine rg_q (q_load_tb (x := .d _) sz3 rfl rfl rfl) ?_ | refine rg_q (q_load_tb (x := .rs _) sz3 rfl rfl rfl) ?_
  refine rg_q (q_callC hen rfl (.cons rfl .nil) (hf _)) ?_
  refine rg_q (q_not rfl) ?_
  refine rg_q (q_move (x := .d (.v _)) rfl) ?_
  refine rg_g rfl rfl (fun hG => (q_move (x := .d (.fn _ _)) rfl)) ?_
  first | refine rg_g rfl rfl (fun hG => (q_fieldAddr fld52_1 rfl)) ?_ | refine rg_g rfl rfl (fun hG => (q_fieldAddr_ref fld52_1 rfl)) ?_
  first | refine rg_g rfl rfl (fun hG => (q_load sz3 rfl rfl)) ?_ | refine rg_g rfl rfl (fun hG => (q_load_ref sz3 rfl rfl rfl)) ?_ | refine rg_g rfl rfl (fun hG => (q_load_tb (x := .d _) sz3 rfl rfl rfl)) ?_ | refine rg_g rfl rfl (fun hG => (q_load_tb (x := .rs _) sz3 rfl rfl rfl)) ?_
  refine rg_g rfl rfl (fun hG => (q_callC hen rfl (.cons rfl .nil) (hf _))) ?_
  refine rg_g rfl rfl (fun hG => (q_not rfl)) ?_
  first | refine rg_pick rfl rfl rfl rfl rfl rfl ?_ | refine rg_q (q_pick rfl rfl rfl) ?_
  refine rg_nil ?_
  refine aops_nil ?_
  change Awp _ _ _ _ _
  refine awp_cond rfl (fun hc1 => ?_) (fun hc1 => ?_)
  ·
    (try simp only [decide_eq_true_eq, decide_eq_false_iff_not, Bool.and_eq_true, Bool.or_eq_true, Bool.and_eq_false_iff, Bool.or_eq_false_iff, Bool.not_eq_true', Bool.not_eq_false', Bool.not_true, Bool.not_false, bif_and, bif_or, Bool.not_not, ne_eq, Decidable.not_not, not_true_eq_false, not_false_eq_true, Int.not_le, Int.not_lt] at hc1)
    have hz : rngE (is) r = 2 := by unfold rngE; rw [if_pos (by simpa using hc1)]
    refine awp_seq ?_
    refine awp_region 1 mixed (by kernel_rfl) ?_
    refine rg_q (q_assign (x := .d (.v _)) rfl) ?_
    refine rg_nil ?_
    refine aops_nil ?_
    change Awp _ _ _ _ _
    refine awp_ret ?_
    refine ⟨_, (.cons (.tmp (by first | exact .d _ | exact .rs rfl | exact .ref rfl | exact .tref rfl (.cons (.d _ rfl) (.cons (.rs rfl) .nil)))) .nil), ?_⟩
    rw [hz]; rfl
  ·
    (try simp only [decide_eq_true_eq, decide_eq_false_iff_not, Bool.and_eq_true, Bool.or_eq_true, Bool.and_eq_false_iff, Bool.or_eq_false_iff, Bool.not_eq_true', Bool.not_eq_false', Bool.not_true, Bool.not_false, bif_and, bif_or, Bool.not_not, ne_eq, Decidable.not_not, not_true_eq_false, not_false_eq_true, Int.not_le, Int.not_lt] at hc1)
    have hz : rngE (is) r = if r.2 < r.1 then 9 else 0 := by unfold rngE; rw [if_neg (by simpa using hc1)]
    refine awp_skip ?_
    change Awp _ _ _ _ _
    refine awp_seq ?_
    refine awp_seq ?_
    refine awp_region 5 mixed (by kernel_rfl) ?_
    first | refine rg_q (q_fieldAddr fld52_0 rfl) ?_ | refine rg_q (q_fieldAddr_ref fld52_0 rfl) ?_
    first | refine rg_q (q_load sz3 rfl rfl) ?_ | refine rg_q (q_load_ref sz3 rfl rfl rfl) ?_ | refine rg_q (q_load_tb (x := .d _) sz3 rfl rfl rfl) ?_ | refine rg_q (q_load_tb (x := .rs _) sz3 rfl rfl rfl) ?_
    first | refine rg_q (q_fieldAddr fld52_1 rfl) ?_ | refine rg_q (q_fieldAddr_ref fld52_1 rfl) ?_
    first | refine rg_q (q_load sz3 rfl rfl) ?_ | refine rg_q (q_load_ref sz3 rfl rfl rfl) ?_ | refine rg_q (q_load_tb (x := .d _) sz3 rfl rfl rfl) ?_ | refine rg_q (q_load_tb (x := .rs _) sz3 rfl rfl rfl) ?_
    refine rg_q (q_gtr rfl rfl) ?_
    refine rg_nil ?_
    refine aops_nil ?_
    change Awp _ _ _ _ _
    refine awp_cond rfl (fun hc3 => ?_) (fun hc3 => ?_)
    ·
      (try simp only [decide_eq_true_eq, decide_eq_false_iff_not, Bool.and_eq_true, Bool.or_eq_true, Bool.and_eq_false_iff, Bool.or_eq_false_iff, Bool.not_eq_true', Bool.not_eq_false', Bool.not_true, Bool.not_false, bif_and, bif_or, Bool.not_not, ne_eq, Decidable.not_not, not_true_eq_false, not_false_eq_true, Int.not_le, Int.not_lt] at hc3)
      rw [if_pos hc3] at hz
      refine awp_seq ?_
      refine awp_region 1 mixed (by kernel_rfl) ?_
      refine rg_q (q_assign (x := .d (.v _)) rfl) ?_
      refine rg_nil ?_
      refine aops_nil ?_
      change Awp _ _ _ _ _
      refine awp_ret ?_
      refine ⟨_, (.cons (.tmp (by first | exact .d _ | exact .rs rfl | exact .ref rfl | exact .tref rfl (.cons (.d _ rfl) (.cons (.rs rfl) .nil)))) .nil), ?_⟩
      rw [hz]; rfl
    ·
      (try simp only [decide_eq_true_eq, decide_eq_false_iff_not, Bool.and_eq_true, Bool.or_eq_true, Bool.and_eq_false_iff, Bool.or_eq_false_iff, Bool.not_eq_true', Bool.not_eq_false', Bool.not_true, Bool.not_false, bif_and, bif_or, Bool.not_not, ne_eq, Decidable.not_not, not_true_eq_false, not_false_eq_true, Int.not_le, Int.not_lt] at hc3)
      rw [if_neg (by omega)] at hz
      refine awp_skip ?_
      change Awp _ _ _ _ _
      refine awp_seq ?_
      refine awp_region 1 mixed (by kernel_rfl) ?_
      refine rg_q (q_assign (x := .d (.v _)) rfl) ?_
      refine rg_nil ?_
      refine aops_nil ?_
      change Awp _ _ _ _ _
      refine awp_ret ?_
      refine ⟨_, (.cons (.tmp (by first | exact .d _ | exact .rs rfl | exact .ref rfl | exact .tref rfl (.cons (.d _ rfl) (.cons (.rs rfl) .nil)))) .nil), ?_⟩
      rw [hz]; rfl
set_option maxRecDepth 100000 in
theorem rrangeErr_p (r : Int × Int) (lo hi : Int) : PC Try.prog 96 [.agg (shC r), .v (.int .i64 (lo)), .v (.int .i64 (hi))] (.v (.int .i64 (rngE (fun n => inR lo n hi) r))) := by
  refine pc_of_awp Try.func96 rfl Try.ntmps96 (rs := [.tmp 6]) Try.results96 (by simp) fun w0 => ?_
  refine awp_seq ?_
  refine awp_region 2 mixed (by kernel_rfl) ?_
  refine rg_q (q_box rfl (by first | exact .inl rfl | exact .inr ⟨_, rfl⟩)) ?_
  refine rg_q (q_assign (x := .d (.v _)) rfl) ?_
  refine rg_nil ?_
  refine aops_nil ?_
  change Awp _ _ _ _ _
  refine awp_seq ?_
  refine awp_seq ?_
  refine awp_region 14 mixed (by kernel_rfl) ?_
  first | refine rg_q (q_fieldAddr fld52_0 rfl) ?_ | refine rg_q (q_fieldAddr_ref fld52_0 rfl) ?_
  first | refine rg_q (q_load sz3 rfl rfl) ?_ | refine rg_q (q_load_ref sz3 rfl rfl rfl) ?_ | refine rg_q (q_load_tb (x := .d _) sz3 rfl rfl rfl) ?_ | refine rg_q (q_load_tb (x := .rs _) sz3 rfl rfl rfl) ?_
  refine rg_q (q_move (x := .d (.v _)) rfl) ?_
  refine rg_q (q_move (x := .d (.v _)) rfl) ?_
  first | refine rg_q (q_call en21 (.cons rfl (.cons rfl (.cons rfl .nil))) rfl (Within_p _ _ _)) ?_ | refine rg_q (q_callF en21 (.cons (by first | exact .d _ | exact .rs rfl | exact .ref rfl | exact .nil _ | exact .tref rfl (by repeat (first | exact .nil | refine .cons (.d _ rfl) ?_ | refine .cons (.rs rfl) ?_))) (.cons (by first | exact .d _ | exact .rs rfl | exact .ref rfl | exact .nil _ | exact .tref rfl (by repeat (first | exact .nil | refine .cons (.d _ rfl) ?_ | refine .cons (.rs rfl) ?_))) (.cons (by first | exact .d _ | exact .rs rfl | exact .ref rfl | exact .nil _ | exact .tref rfl (by repeat (first | exact .nil | refine .cons (.d _ rfl) ?_ | refine .cons (.rs rfl) ?_))) .nil))) rfl (Within_p _ _ _) (by first | exact .v _ | exact D.Flat.tupF (by repeat first | exact trivial | refine ⟨.v _, ?_⟩) | exact D.Flat.aggF (by repeat first | exact trivial | refine ⟨.v _, ?_⟩))) ?_
  refine rg_q (q_not rfl) ?_
  refine rg_q (q_move (x := .d (.v _)) rfl) ?_
  first | refine rg_g rfl rfl (fun hG => (q_fieldAddr fld52_1 rfl)) ?_ | refine rg_g rfl rfl (fun hG => (q_fieldAddr_ref fld52_1 rfl)) ?_
  first | refine rg_g rfl rfl (fun hG => (q_load sz3 rfl rfl)) ?_ | refine rg_g rfl rfl (fun hG => (q_load_ref sz3 rfl rfl rfl)) ?_ | refine rg_g rfl rfl (fun hG => (q_load_tb (x := .d _) sz3 rfl rfl rfl)) ?_ | refine rg_g rfl rfl (fun hG => (q_load_tb (x := .rs _) sz3 rfl rfl rfl)) ?_
  refine rg_g rfl rfl (fun hG => (q_move (x := .d (.v _)) rfl)) ?_
  refine rg_g rfl rfl (fun hG => (q_move (x := .d (.v _)) rfl)) ?_
  first | refine rg_g rfl rfl (fun hG => (q_call en21 (.cons rfl (.cons rfl (.cons rfl .nil))) rfl (Within_p _ _ _))) ?_ | refine rg_g rfl rfl (fun hG => (q_callF en21 (.cons (by first | exact .d _ | exact .rs rfl | exact .ref rfl | exact .nil _ | exact .tref rfl (by repeat (first | exact .nil | refine .cons (.d _ rfl) ?_ | refine .cons (.rs rfl) ?_))) (.cons (by first | exact .d _ | exact .rs rfl | exact .ref rfl | exact .nil _ | exact .tref rfl (by repeat (first | exact .nil | refine .cons (.d _ rfl) ?_ | refine .cons (.rs rfl) ?_))) (.cons (by first | exact .d _ | exact .rs rfl | exact .ref rfl | exact .nil _ | exact .tref rfl (by repeat (first | exact .nil | refine .cons (.d _ rfl) ?_ | refine .cons (.rs rfl) ?_))) .nil))) rfl (Within_p _ _ _) (by first | exact .v _ | exact D.Flat.tupF (by repeat first | exact trivial | refine ⟨.v _, ?_⟩) | exact D.Flat.aggF (by repeat first | exact trivial | refine ⟨.v _, ?_⟩)))) ?_
  refine rg_g rfl rfl (fun hG => (q_not rfl)) ?_
  first | refine rg_pick rfl rfl rfl rfl rfl rfl ?_ | refine rg_q (q_pick rfl rfl rfl) ?_
  refine rg_nil ?_
  refine aops_nil ?_
  change Awp _ _ _ _ _
  refine awp_cond rfl (fun hc1 => ?_) (fun hc1 => ?_)
  ·
    (try simp only [decide_eq_true_eq, decide_eq_false_iff_not, Bool.and_eq_true, Bool.or_eq_true, Bool.and_eq_false_iff, Bool.or_eq_false_iff, Bool.not_eq_true', Bool.not_eq_false', Bool.not_true, Bool.not_false, bif_and, bif_or, Bool.not_not, ne_eq, Decidable.not_not, not_true_eq_false, not_false_eq_true, Int.not_le, Int.not_lt] at hc1)
    have hz : rngE (fun n => inR lo n hi) r = 2 := by unfold rngE; rw [if_pos (by simpa using hc1)]
    refine awp_seq ?_
    refine awp_region 1 mixed (by kernel_rfl) ?_
    refine rg_q (q_assign (x := .d (.v _)) rfl) ?_
    refine rg_nil ?_
    refine aops_nil ?_
    change Awp _ _ _ _ _
    refine awp_ret ?_
    refine ⟨_, (.cons (.tmp (by first | exact .d _ | exact .rs rfl | exact .ref rfl | exact .tref rfl (.cons (.d _ rfl) (.cons (.rs rfl) .nil)))) .nil), ?_⟩
    rw [hz]; rfl
  ·
    (try simp only [decide_eq_true_eq, decide_eq_false_iff_not, Bool.and_eq_true, Bool.or_eq_true, Bool.and_eq_false_iff, Bool.or_eq_false_iff, Bool.not_eq_true', Bool.not_eq_false', Bool.not_true, Bool.not_false, bif_and, bif_or, Bool.not_not, ne_eq, Decidable.not_not, not_true_eq_false, not_false_eq_true, Int.not_le, Int.not_lt] at hc1)
    have hz : rngE (fun n => inR lo n hi) r = if r.2 < r.1 then 9 else 0 := by unfold rngE; rw [if_neg (by simpa using hc1)]
    refine awp_skip ?_
    change Awp _ _ _ _ _
    refine awp_seq ?_
    refine awp_seq ?_
    refine awp_region 5 mixed (by kernel_rfl) ?_
    first | refine rg_q (q_fieldAddr fld52_0 rfl) ?_ | refine rg_q (q_fieldAddr_ref fld52_0 rfl) ?_
    first | refine rg_q (q_load sz3 rfl rfl) ?_ | refine rg_q (q_load_ref sz3 rfl rfl rfl) ?_ | refine rg_q (q_load_tb (x := .d _) sz3 rfl rfl rfl) ?_ | refine rg_q (q_load_tb (x := .rs _) sz3 rfl rfl rfl) ?_
    first | refine rg_q (q_fieldAddr fld52_1 rfl) ?_ | refine rg_q (q_fieldAddr_ref fld52_1 rfl) ?_
    first | refine rg_q (q_load sz3 rfl rfl) ?_ | refine rg_q (q_load_ref sz3 rfl rfl rfl) ?_ | refine rg_q (q_load_tb (x := .d _) sz3 rfl rfl rfl) ?_ | refine rg_q (q_load_tb (x := .rs _) sz3 rfl rfl rfl) ?_
    refine rg_q (q_gtr rfl rfl) ?_
    refine rg_nil ?_
    refine aops_nil ?_
    change Awp _ _ _ _ _
    refine awp_cond rfl (fun hc3 => ?_) (fun hc3 => ?_)
    ·
      (try simp only [decide_eq_true_eq, decide_eq_false_iff_not, Bool.and_eq_true, Bool.or_eq_true, Bool.and_eq_false_iff, Bool.or_eq_false_iff, Bool.not_eq_true', Bool.not_eq_false', Bool.not_true, Bool.not_false, bif_and, bif_or, Bool.not_not, ne_eq, Decidable.not_not, not_true_eq_false, not_false_eq_true, Int.not_le, Int.not_lt] at hc3)
      rw [if_pos hc3] at hz
      refine awp_seq ?_
      refine awp_region 1 mixed (by kernel_rfl) ?_
      refine rg_q (q_assign (x := .d (.v _)) rfl) ?_
      refine rg_nil ?_
      refine aops_nil ?_
      change Awp _ _ _ _ _
      refine awp_ret ?_
      refine ⟨_, (.cons (.tmp (by first | exact .d _ | exact .rs rfl | exact .ref rfl | exact .tref rfl (.cons (.d _ rfl) (.cons (.rs rfl) .nil)))) .nil), ?_⟩
      rw [hz]; rfl
    ·
      (try simp only [decide_eq_true_eq, decide_eq_false_iff_not, Bool.and_eq_true, Bool.or_eq_true, Bool.and_eq_false_iff, Bool.or_eq_false_iff, Bool.not_eq_true', Bool.not_eq_false', Bool.not_true, Bool.not_false, bif_and, bif_or, Bool.not_not, ne_eq, Decidable.not_not, not_true_eq_false, not_false_eq_true, Int.not_le, Int.not_lt] at hc3)
      rw [if_neg (by omega)] at hz
      refine awp_skip ?_
      change Awp _ _ _ _ _
      refine awp_seq ?_
      refine awp_region 1 mixed (by kernel_rfl) ?_
      refine rg_q (q_assign (x := .d (.v _)) rfl) ?_
      refine rg_nil ?_
      refine aops_nil ?_
      change Awp _ _ _ _ _
      refine awp_ret ?_
      refine ⟨_, (.cons (.tmp (by first | exact .d _ | exact .rs rfl | exact .ref rfl | exact .tref rfl (.cons (.d _ rfl) (.cons (.rs rfl) .nil)))) .nil), ?_⟩
      rw [hz]; rfl
set_option maxRecDepth 100000 in
theorem WearOf_p (b n s : Int × Int) : PC Try.prog 43 [.agg (shC b), .agg (shC n), .agg (shC s)] (.tup [.agg (shC (wearS b n s).1), .v (.int .i64 ((wearS b n s).2))]) := by
  obtain ⟨b1, b2⟩ := b
  obtain ⟨n1, n2⟩ := n
  obtain ⟨s1, s2⟩ := s
  obtain ⟨E, hE⟩ : ∃ E, wearE (b1, b2) (n1, n2) (s1, s2) = E := ⟨_, rfl⟩
  have hE' := hE
  unfold wearE at hE'
  refine pc_of_awp Try.func43 rfl Try.ntmps43 (rs := [.cell 6 52, .tmp 7]) Try.results43 (by simp) fun w0 => ?_
  refine awp_seq ?_
  refine awp_region 3 mixed (by kernel_rfl) ?_
  refine rg_q (q_box rfl (by first | exact .inl rfl | exact .inr ⟨_, rfl⟩)) ?_
  refine rg_q (q_box rfl (by first | exact .inl rfl | exact .inr ⟨_, rfl⟩)) ?_
  refine rg_q (q_box rfl (by first | exact .inl rfl | exact .inr ⟨_, rfl⟩)) ?_
  refine rg_nil ?_
  refine aops_alloc zr52 rfl rfl rfl ?_
  refine aops_q rfl (q_assign (x := .d (.v _)) rfl) ?_
  refine aops_nil ?_
  change Awp _ _ _ _ _
  refine awp_seq ?_
  refine awp_seq ?_
  refine awp_region 9 mixed (by kernel_rfl) ?_
  first | refine rg_q (q_loadA (ds := [_, _]) sz52 rfl rfl rfl) ?_ | refine rg_q (q_load_refA (ds := [_, _]) sz52 rfl rfl rfl rfl) ?_
  first | refine rg_q (q_call en91 (.cons rfl (.cons rfl .nil)) rfl (rangeErr_p isD 92 rfl isDelay_p (_, _))) ?_ | refine rg_q (q_callF en91 (.cons (by first | exact .d _ | exact .rs rfl | exact .ref rfl | exact .nil _ | exact .tref rfl (by repeat (first | exact .nil | refine .cons (.d _ rfl) ?_ | refine .cons (.rs rfl) ?_))) (.cons (by first | exact .d _ | exact .rs rfl | exact .ref rfl | exact .nil _ | exact .tref rfl (by repeat (first | exact .nil | refine .cons (.d _ rfl) ?_ | refine .cons (.rs rfl) ?_))) .nil)) rfl (rangeErr_p isD 92 rfl isDelay_p (_, _)) (by first | exact .v _ | exact D.Flat.tupF (by repeat first | exact trivial | refine ⟨.v _, ?_⟩) | exact D.Flat.aggF (by repeat first | exact trivial | refine ⟨.v _, ?_⟩))) ?_ | refine rg_q (q_call en91 (.cons rfl (.cons rfl .nil)) rfl (rangeErr_p isS 93 rfl isSpeed_p (_, _))) ?_ | refine rg_q (q_callF en91 (.cons (by first | exact .d _ | exact .rs rfl | exact .ref rfl | exact .nil _ | exact .tref rfl (by repeat (first | exact .nil | refine .cons (.d _ rfl) ?_ | refine .cons (.rs rfl) ?_))) (.cons (by first | exact .d _ | exact .rs rfl | exact .ref rfl | exact .nil _ | exact .tref rfl (by repeat (first | exact .nil | refine .cons (.d _ rfl) ?_ | refine .cons (.rs rfl) ?_))) .nil)) rfl (rangeErr_p isS 93 rfl isSpeed_p (_, _)) (by first | exact .v _ | exact D.Flat.tupF (by repeat first | exact trivial | refine ⟨.v _, ?_⟩) | exact D.Flat.aggF (by repeat first | exact trivial | refine ⟨.v _, ?_⟩))) ?_
  first | refine rg_q (q_loadA (ds := [_, _]) sz52 rfl rfl rfl) ?_ | refine rg_q (q_load_refA (ds := [_, _]) sz52 rfl rfl rfl rfl) ?_
  first | refine rg_q (q_call en91 (.cons rfl (.cons rfl .nil)) rfl (rangeErr_p isD 92 rfl isDelay_p (_, _))) ?_ | refine rg_q (q_callF en91 (.cons (by first | exact .d _ | exact .rs rfl | exact .ref rfl | exact .nil _ | exact .tref rfl (by repeat (first | exact .nil | refine .cons (.d _ rfl) ?_ | refine .cons (.rs rfl) ?_))) (.cons (by first | exact .d _ | exact .rs rfl | exact .ref rfl | exact .nil _ | exact .tref rfl (by repeat (first | exact .nil | refine .cons (.d _ rfl) ?_ | refine .cons (.rs rfl) ?_))) .nil)) rfl (rangeErr_p isD 92 rfl isDelay_p (_, _)) (by first | exact .v _ | exact D.Flat.tupF (by repeat first | exact trivial | refine ⟨.v _, ?_⟩) | exact D.Flat.aggF (by repeat first | exact trivial | refine ⟨.v _, ?_⟩))) ?_ | refine rg_q (q_call en91 (.cons rfl (.cons rfl .nil)) rfl (rangeErr_p isS 93 rfl isSpeed_p (_, _))) ?_ | refine rg_q (q_callF en91 (.cons (by first | exact .d _ | exact .rs rfl | exact .ref rfl | exact .nil _ | exact .tref rfl (by repeat (first | exact .nil | refine .cons (.d _ rfl) ?_ | refine .cons (.rs rfl) ?_))) (.cons (by first | exact .d _ | exact .rs rfl | exact .ref rfl | exact .nil _ | exact .tref rfl (by repeat (first | exact .nil | refine .cons (.d _ rfl) ?_ | refine .cons (.rs rfl) ?_))) .nil)) rfl (rangeErr_p isS 93 rfl isSpeed_p (_, _)) (by first | exact .v _ | exact D.Flat.tupF (by repeat first | exact trivial | refine ⟨.v _, ?_⟩) | exact D.Flat.aggF (by repeat first | exact trivial | refine ⟨.v _, ?_⟩))) ?_
  first | refine rg_q (q_loadA (ds := [_, _]) sz52 rfl rfl rfl) ?_ | refine rg_q (q_load_refA (ds := [_, _]) sz52 rfl rfl rfl rfl) ?_
  first | refine rg_q (q_call en91 (.cons rfl (.cons rfl .nil)) rfl (rangeErr_p isD 92 rfl isDelay_p (_, _))) ?_ | refine rg_q (q_callF en91 (.cons (by first | exact .d _ | exact .rs rfl | exact .ref rfl | exact .nil _ | exact .tref rfl (by repeat (first | exact .nil | refine .cons (.d _ rfl) ?_ | refine .cons (.rs rfl) ?_))) (.cons (by first | exact .d _ | exact .rs rfl | exact .ref rfl | exact .nil _ | exact .tref rfl (by repeat (first | exact .nil | refine .cons (.d _ rfl) ?_ | refine .cons (.rs rfl) ?_))) .nil)) rfl (rangeErr_p isD 92 rfl isDelay_p (_, _)) (by first | exact .v _ | exact D.Flat.tupF (by repeat first | exact trivial | refine ⟨.v _, ?_⟩) | exact D.Flat.aggF (by repeat first | exact trivial | refine ⟨.v _, ?_⟩))) ?_ | refine rg_q (q_call en91 (.cons rfl (.cons rfl .nil)) rfl (rangeErr_p isS 93 rfl isSpeed_p (_, _))) ?_ | refine rg_q (q_callF en91 (.cons (by first | exact .d _ | exact .rs rfl | exact .ref rfl | exact .nil _ | exact .tref rfl (by repeat (first | exact .nil | refine .cons (.d _ rfl) ?_ | refine .cons (.rs rfl) ?_))) (.cons (by first | exact .d _ | exact .rs rfl | exact .ref rfl | exact .nil _ | exact .tref rfl (by repeat (first | exact .nil | refine .cons (.d _ rfl) ?_ | refine .cons (.rs rfl) ?_))) .nil)) rfl (rangeErr_p isS 93 rfl isSpeed_p (_, _)) (by first | exact .v _ | exact D.Flat.tupF (by repeat first | exact trivial | refine ⟨.v _, ?_⟩) | exact D.Flat.aggF (by repeat first | exact trivial | refine ⟨.v _, ?_⟩))) ?_
  refine rg_q (q_buildSlice sl167 zr26 rfl rfl (by decide) (.cons rfl (by first | exact .inl rfl | exact .inr ⟨_, rfl⟩) (.cons rfl (by first | exact .inl rfl | exact .inr ⟨_, rfl⟩) (.cons rfl (by first | exact .inl rfl | exact .inr ⟨_, rfl⟩) .nil))) ⟨rfl, rfl, rfl, rfl, rfl, rfl, trivial⟩ rfl (by decide) rfl) ?_
  first | refine rg_q (q_call en84 (.cons rfl .nil) rfl (first_p [_, _])) ?_ | refine rg_q (q_callF en84 (.cons (by first | exact .d _ | exact .rs rfl | exact .ref rfl | exact .nil _ | exact .tref rfl (by repeat (first | exact .nil | refine .cons (.d _ rfl) ?_ | refine .cons (.rs rfl) ?_))) .nil) rfl (first_p [_, _]) (by first | exact .v _ | exact D.Flat.tupF (by repeat first | exact trivial | refine ⟨.v _, ?_⟩) | exact D.Flat.aggF (by repeat first | exact trivial | refine ⟨.v _, ?_⟩))) ?_ | refine rg_q (q_call en84 (.cons rfl .nil) rfl (first_p [_, _, _])) ?_ | refine rg_q (q_callF en84 (.cons (by first | exact .d _ | exact .rs rfl | exact .ref rfl | exact .nil _ | exact .tref rfl (by repeat (first | exact .nil | refine .cons (.d _ rfl) ?_ | refine .cons (.rs rfl) ?_))) .nil) rfl (first_p [_, _, _]) (by first | exact .v _ | exact D.Flat.tupF (by repeat first | exact trivial | refine ⟨.v _, ?_⟩) | exact D.Flat.aggF (by repeat first | exact trivial | refine ⟨.v _, ?_⟩))) ?_
  refine rg_q (q_assign (x := .d (.v _)) rfl) ?_
  refine rg_nil ?_
  refine aops_nil ?_
  change Awp _ _ _ _ _
  refine awp_seq ?_
  refine awp_region 2 mixed (by kernel_rfl) ?_
  refine rg_q (q_move (x := .d (.v _)) rfl) ?_
  refine rg_q (q_neq rfl rfl) ?_
  refine rg_nil ?_
  refine aops_nil ?_
  change Awp _ _ _ _ _
  refine awp_cond rfl (fun hc2 => ?_) (fun hc2 => ?_)
  ·
    (try simp only [decide_eq_true_eq, decide_eq_false_iff_not, Bool.and_eq_true, Bool.or_eq_true, Bool.and_eq_false_iff, Bool.or_eq_false_iff, Bool.not_eq_true', Bool.not_eq_false', Bool.not_true, Bool.not_false, bif_and, bif_or, Bool.not_not, ne_eq, Decidable.not_not, not_true_eq_false, not_false_eq_true, Int.not_le, Int.not_lt] at hc2)
    have hz : wearS (b1, b2) (n1, n2) (s1, s2) = ((0, 0), E) := by unfold wearS; rw [hE, if_pos (by rw [← hE]; exact hc2)]
    refine awp_seq ?_
    refine awp_region 2 mixed (by kernel_rfl) ?_
    refine rg_q (q_build (cs := [_, _]) pl52 zr52 rfl .nil trivial rfl) ?_
    refine rg_q (q_move (x := .d (.v _)) rfl) ?_
    refine rg_nil ?_
    first | refine aops_store sz52 rfl rfl (by first | exact .inl rfl | exact .inr ⟨_, rfl⟩) rfl rfl (by first | decide | simp) rfl ?_ | refine aops_storeT (z := .rs _) sz52 rfl rfl rfl rfl (by first | decide | simp) rfl ?_ | refine aops_storeT (z := .d _) sz52 rfl rfl rfl rfl (by first | decide | simp) rfl ?_ | refine aops_storeTA sz52 rfl rfl (by first | exact .inl rfl | exact .inr ⟨_, rfl⟩) rfl rfl (by first | decide | simp) rfl ?_
    refine aops_q rfl (q_assign (x := .d (.v _)) rfl) ?_
    refine aops_nil ?_
    change Awp _ _ _ _ _
    refine awp_ret ?_
    refine ⟨_, (.cons (.cellA rfl rfl sz52 rfl) (.cons (.tmp (by first | exact .d _ | exact .rs rfl | exact .ref rfl | exact .tref rfl (.cons (.d _ rfl) (.cons (.rs rfl) .nil)))) .nil)), ?_⟩
    rw [hz, ← hE]; rfl
  ·
    (try simp only [decide_eq_true_eq, decide_eq_false_iff_not, Bool.and_eq_true, Bool.or_eq_true, Bool.and_eq_false_iff, Bool.or_eq_false_iff, Bool.not_eq_true', Bool.not_eq_false', Bool.not_true, Bool.not_false, bif_and, bif_or, Bool.not_not, ne_eq, Decidable.not_not, not_true_eq_false, not_false_eq_true, Int.not_le, Int.not_lt] at hc2)
    have h0 : wearE (b1, b2) (n1, n2) (s1, s2) = 0 := hc2
    have hz : wearS (b1, b2) (n1, n2) (s1, s2) = (wearV (b1, b2) (n1, n2) (s1, s2), 0) := by unfold wearS; rw [if_neg (by simpa using h0)]
    have hB : rngE isD (b1, b2) = 0 := by unfold wearE firstE at h0; split at h0; assumption; exact h0
    have hN : rngE isD (n1, n2) = 0 := by unfold wearE firstE at h0; rw [if_pos hB] at h0; unfold firstE at h0; split at h0; assumption; exact h0
    have hS : rngE isS (s1, s2) = 0 := by unfold wearE firstE at h0; rw [if_pos hB] at h0; unfold firstE at h0; rw [if_pos hN] at h0; unfold firstE at h0; split at h0; assumption; exact h0
    obtain ⟨x1, x2, x3, x4, x5⟩ := rngE_in (lo := -1000000000000) (hi := 1000000000000) hB
    obtain ⟨y1, y2, y3, y4, y5⟩ := rngE_in (lo := -1000000000000) (hi := 1000000000000) hN
    obtain ⟨z1, z2, z3, z4, z5⟩ := rngE_in (lo := 500) (hi := 10000) hS
    simp only at x1 x2 x3 x4 x5 y1 y2 y3 y4 y5 z1 z2 z3 z4 z5
    have m1 := mulb (a := b1 - n2) (b := s1) (A := 2000000000000) (B := 10000) (by omega) (by omega) (by omega) (by omega)
    have m2 := mulb (a := b1 - n2) (b := s2) (A := 2000000000000) (B := 10000) (by omega) (by omega) (by omega) (by omega)
    have m3 := mulb (a := b2 - n1) (b := s1) (A := 2000000000000) (B := 10000) (by omega) (by omega) (by omega) (by omega)
    have m4 := mulb (a := b2 - n1) (b := s2) (A := 2000000000000) (B := 10000) (by omega) (by omega) (by omega) (by omega)
    refine awp_skip ?_
    change Awp _ _ _ _ _
    refine awp_seq ?_
    refine awp_region 12 mixed (by kernel_rfl) ?_
    first | refine rg_q (q_fieldAddr fld52_0 rfl) ?_ | refine rg_q (q_fieldAddr_ref fld52_0 rfl) ?_
    first | refine rg_q (q_load sz3 rfl rfl) ?_ | refine rg_q (q_load_ref sz3 rfl rfl rfl) ?_ | refine rg_q (q_load_tb (x := .d _) sz3 rfl rfl rfl) ?_ | refine rg_q (q_load_tb (x := .rs _) sz3 rfl rfl rfl) ?_
    first | refine rg_q (q_fieldAddr fld52_1 rfl) ?_ | refine rg_q (q_fieldAddr_ref fld52_1 rfl) ?_
    first | refine rg_q (q_load sz3 rfl rfl) ?_ | refine rg_q (q_load_ref sz3 rfl rfl rfl) ?_ | refine rg_q (q_load_tb (x := .d _) sz3 rfl rfl rfl) ?_ | refine rg_q (q_load_tb (x := .rs _) sz3 rfl rfl rfl) ?_
    refine rg_q (q_sub rfl rfl (In64.mk (by (first | omega | (simp only; omega))) (by (first | omega | (simp only; omega))))) ?_
    first | refine rg_q (q_fieldAddr fld52_1 rfl) ?_ | refine rg_q (q_fieldAddr_ref fld52_1 rfl) ?_
    first | refine rg_q (q_load sz3 rfl rfl) ?_ | refine rg_q (q_load_ref sz3 rfl rfl rfl) ?_ | refine rg_q (q_load_tb (x := .d _) sz3 rfl rfl rfl) ?_ | refine rg_q (q_load_tb (x := .rs _) sz3 rfl rfl rfl) ?_
    first | refine rg_q (q_fieldAddr fld52_0 rfl) ?_ | refine rg_q (q_fieldAddr_ref fld52_0 rfl) ?_
    first | refine rg_q (q_load sz3 rfl rfl) ?_ | refine rg_q (q_load_ref sz3 rfl rfl rfl) ?_ | refine rg_q (q_load_tb (x := .d _) sz3 rfl rfl rfl) ?_ | refine rg_q (q_load_tb (x := .rs _) sz3 rfl rfl rfl) ?_
    refine rg_q (q_sub rfl rfl (In64.mk (by (first | omega | (simp only; omega))) (by (first | omega | (simp only; omega))))) ?_
    refine rg_q (q_assign (x := .d (.v _)) rfl) ?_
    refine rg_q (q_assign (x := .d (.v _)) rfl) ?_
    refine rg_nil ?_
    refine aops_nil ?_
    change Awp _ _ _ _ _
    refine awp_seq ?_
    refine awp_region 21 mixed (by kernel_rfl) ?_
    refine rg_q (q_move (x := .d (.v _)) rfl) ?_
    first | refine rg_q (q_fieldAddr fld52_0 rfl) ?_ | refine rg_q (q_fieldAddr_ref fld52_0 rfl) ?_
    first | refine rg_q (q_load sz3 rfl rfl) ?_ | refine rg_q (q_load_ref sz3 rfl rfl rfl) ?_ | refine rg_q (q_load_tb (x := .d _) sz3 rfl rfl rfl) ?_ | refine rg_q (q_load_tb (x := .rs _) sz3 rfl rfl rfl) ?_
    refine rg_q (q_mul rfl rfl (In64.mk (by (first | omega | (simp only; omega))) (by (first | omega | (simp only; omega))))) ?_
    refine rg_q (q_move (x := .d (.v _)) rfl) ?_
    first | refine rg_q (q_fieldAddr fld52_1 rfl) ?_ | refine rg_q (q_fieldAddr_ref fld52_1 rfl) ?_
    first | refine rg_q (q_load sz3 rfl rfl) ?_ | refine rg_q (q_load_ref sz3 rfl rfl rfl) ?_ | refine rg_q (q_load_tb (x := .d _) sz3 rfl rfl rfl) ?_ | refine rg_q (q_load_tb (x := .rs _) sz3 rfl rfl rfl) ?_
    refine rg_q (q_mul rfl rfl (In64.mk (by (first | omega | (simp only; omega))) (by (first | omega | (simp only; omega))))) ?_
    refine rg_q (q_min rfl rfl) ?_
    first | refine rg_q (q_call en94 (.cons rfl (.cons rfl .nil)) rfl (floor_p _ _ ⟨by simp only; omega, by simp only; omega⟩ (by decide))) ?_ | refine rg_q (q_callF en94 (.cons (by first | exact .d _ | exact .rs rfl | exact .ref rfl | exact .nil _ | exact .tref rfl (by repeat (first | exact .nil | refine .cons (.d _ rfl) ?_ | refine .cons (.rs rfl) ?_))) (.cons (by first | exact .d _ | exact .rs rfl | exact .ref rfl | exact .nil _ | exact .tref rfl (by repeat (first | exact .nil | refine .cons (.d _ rfl) ?_ | refine .cons (.rs rfl) ?_))) .nil)) rfl (floor_p _ _ ⟨by simp only; omega, by simp only; omega⟩ (by decide)) (by first | exact .v _ | exact D.Flat.tupF (by repeat first | exact trivial | refine ⟨.v _, ?_⟩) | exact D.Flat.aggF (by repeat first | exact trivial | refine ⟨.v _, ?_⟩))) ?_
    refine rg_q (q_move (x := .d (.v _)) rfl) ?_
    first | refine rg_q (q_fieldAddr fld52_0 rfl) ?_ | refine rg_q (q_fieldAddr_ref fld52_0 rfl) ?_
    first | refine rg_q (q_load sz3 rfl rfl) ?_ | refine rg_q (q_load_ref sz3 rfl rfl rfl) ?_ | refine rg_q (q_load_tb (x := .d _) sz3 rfl rfl rfl) ?_ | refine rg_q (q_load_tb (x := .rs _) sz3 rfl rfl rfl) ?_
    refine rg_q (q_mul rfl rfl (In64.mk (by (first | omega | (simp only; omega))) (by (first | omega | (simp only; omega))))) ?_
    refine rg_q (q_move (x := .d (.v _)) rfl) ?_
    first | refine rg_q (q_fieldAddr fld52_1 rfl) ?_ | refine rg_q (q_fieldAddr_ref fld52_1 rfl) ?_
    first | refine rg_q (q_load sz3 rfl rfl) ?_ | refine rg_q (q_load_ref sz3 rfl rfl rfl) ?_ | refine rg_q (q_load_tb (x := .d _) sz3 rfl rfl rfl) ?_ | refine rg_q (q_load_tb (x := .rs _) sz3 rfl rfl rfl) ?_
    refine rg_q (q_mul rfl rfl (In64.mk (by (first | omega | (simp only; omega))) (by (first | omega | (simp only; omega))))) ?_
    refine rg_q (q_max rfl rfl) ?_
    first | refine rg_q (q_call en95 (.cons rfl (.cons rfl .nil)) rfl (ceil_p _ _ ⟨by simp only; omega, by simp only; omega⟩ (by decide))) ?_ | refine rg_q (q_callF en95 (.cons (by first | exact .d _ | exact .rs rfl | exact .ref rfl | exact .nil _ | exact .tref rfl (by repeat (first | exact .nil | refine .cons (.d _ rfl) ?_ | refine .cons (.rs rfl) ?_))) (.cons (by first | exact .d _ | exact .rs rfl | exact .ref rfl | exact .nil _ | exact .tref rfl (by repeat (first | exact .nil | refine .cons (.d _ rfl) ?_ | refine .cons (.rs rfl) ?_))) .nil)) rfl (ceil_p _ _ ⟨by simp only; omega, by simp only; omega⟩ (by decide)) (by first | exact .v _ | exact D.Flat.tupF (by repeat first | exact trivial | refine ⟨.v _, ?_⟩) | exact D.Flat.aggF (by repeat first | exact trivial | refine ⟨.v _, ?_⟩))) ?_
    refine rg_q (q_build (cs := [_, _]) pl52 zr52 rfl (.cons rfl (by first | exact .inl rfl | exact .inr ⟨_, rfl⟩) (.cons rfl (by first | exact .inl rfl | exact .inr ⟨_, rfl⟩) .nil)) ⟨⟨rfl, by decide⟩, ⟨rfl, by decide⟩, trivial⟩ rfl) ?_
    refine rg_nil ?_
    first | refine aops_store sz52 rfl rfl (by first | exact .inl rfl | exact .inr ⟨_, rfl⟩) rfl rfl (by first | decide | simp) rfl ?_ | refine aops_storeT (z := .rs _) sz52 rfl rfl rfl rfl (by first | decide | simp) rfl ?_ | refine aops_storeT (z := .d _) sz52 rfl rfl rfl rfl (by first | decide | simp) rfl ?_ | refine aops_storeTA sz52 rfl rfl (by first | exact .inl rfl | exact .inr ⟨_, rfl⟩) rfl rfl (by first | decide | simp) rfl ?_
    refine aops_q rfl (q_assign (x := .d (.v _)) rfl) ?_
    refine aops_nil ?_
    change Awp _ _ _ _ _
    refine awp_ret ?_
    refine ⟨_, (.cons (.cellA rfl rfl sz52 rfl) (.cons (.tmp (by first | exact .d _ | exact .rs rfl | exact .ref rfl | exact .tref rfl (.cons (.d _ rfl) (.cons (.rs rfl) .nil)))) .nil)), ?_⟩
    rw [hz]; rfl
set_option maxRecDepth 100000 in
theorem rWearOf_p (b n s : Int × Int) : PC Try.prog 44 [.agg (shC b), .agg (shC n), .agg (shC s)] (.tup [.agg (shC (wearS b n s).1), .v (.int .i64 ((wearS b n s).2))]) := by
  obtain ⟨b1, b2⟩ := b
  obtain ⟨n1, n2⟩ := n
  obtain ⟨s1, s2⟩ := s
  have hB0 : rngE (fun n => inR (-1000000000000) n 1000000000000) (b1, b2) = rngE isD (b1, b2) := rfl
  have hN0 : rngE (fun n => inR (-1000000000000) n 1000000000000) (n1, n2) = rngE isD (n1, n2) := rfl
  have hS0 : rngE (fun n => inR 500 n 10000) (s1, s2) = rngE isS (s1, s2) := rfl
  refine pc_of_awp Try.func44 rfl Try.ntmps44 (rs := [.cell 6 52, .tmp 7]) Try.results44 (by simp) fun w0 => ?_
  refine awp_seq ?_
  refine awp_region 3 mixed (by kernel_rfl) ?_
  refine rg_q (q_box rfl (by first | exact .inl rfl | exact .inr ⟨_, rfl⟩)) ?_
  refine rg_q (q_box rfl (by first | exact .inl rfl | exact .inr ⟨_, rfl⟩)) ?_
  refine rg_q (q_box rfl (by first | exact .inl rfl | exact .inr ⟨_, rfl⟩)) ?_
  refine rg_nil ?_
  refine aops_alloc zr52 rfl rfl rfl ?_
  refine aops_q rfl (q_assign (x := .d (.v _)) rfl) ?_
  refine aops_nil ?_
  change Awp _ _ _ _ _
  refine awp_seq ?_
  refine awp_seq ?_
  refine awp_region 3 mixed (by kernel_rfl) ?_
  first | refine rg_q (q_loadA (ds := [_, _]) sz52 rfl rfl rfl) ?_ | refine rg_q (q_load_refA (ds := [_, _]) sz52 rfl rfl rfl rfl) ?_
  first | refine rg_q (q_call en96 (.cons rfl (.cons rfl (.cons rfl .nil))) rfl (rrangeErr_p (_, _) _ _)) ?_ | refine rg_q (q_callF en96 (.cons (by first | exact .d _ | exact .rs rfl | exact .ref rfl | exact .nil _ | exact .tref rfl (by repeat (first | exact .nil | refine .cons (.d _ rfl) ?_ | refine .cons (.rs rfl) ?_))) (.cons (by first | exact .d _ | exact .rs rfl | exact .ref rfl | exact .nil _ | exact .tref rfl (by repeat (first | exact .nil | refine .cons (.d _ rfl) ?_ | refine .cons (.rs rfl) ?_))) (.cons (by first | exact .d _ | exact .rs rfl | exact .ref rfl | exact .nil _ | exact .tref rfl (by repeat (first | exact .nil | refine .cons (.d _ rfl) ?_ | refine .cons (.rs rfl) ?_))) .nil))) rfl (rrangeErr_p (_, _) _ _) (by first | exact .v _ | exact D.Flat.tupF (by repeat first | exact trivial | refine ⟨.v _, ?_⟩) | exact D.Flat.aggF (by repeat first | exact trivial | refine ⟨.v _, ?_⟩))) ?_
  refine rg_q (q_assign (x := .d (.v _)) rfl) ?_
  refine rg_nil ?_
  refine aops_nil ?_
  change Awp _ _ _ _ _
  refine awp_seq ?_
  refine awp_region 2 mixed (by kernel_rfl) ?_
  refine rg_q (q_move (x := .d (.v _)) rfl) ?_
  refine rg_q (q_neq rfl rfl) ?_
  refine rg_nil ?_
  refine aops_nil ?_
  change Awp _ _ _ _ _
  refine awp_cond rfl (fun hc2 => ?_) (fun hc2 => ?_)
  ·
    (try simp only [decide_eq_true_eq, decide_eq_false_iff_not, Bool.and_eq_true, Bool.or_eq_true, Bool.and_eq_false_iff, Bool.or_eq_false_iff, Bool.not_eq_true', Bool.not_eq_false', Bool.not_true, Bool.not_false, bif_and, bif_or, Bool.not_not, ne_eq, Decidable.not_not, not_true_eq_false, not_false_eq_true, Int.not_le, Int.not_lt] at hc2)
    have hB : ¬ rngE isD (b1, b2) = 0 := hc2
    have hw : wearE (b1, b2) (n1, n2) (s1, s2) = rngE isD (b1, b2) := by unfold wearE firstE; rw [if_neg hB]
    have hz : wearS (b1, b2) (n1, n2) (s1, s2) = ((0, 0), rngE isD (b1, b2)) := by unfold wearS; rw [hw, if_pos hB]
    refine awp_seq ?_
    refine awp_region 2 mixed (by kernel_rfl) ?_
    refine rg_q (q_build (cs := [_, _]) pl52 zr52 rfl .nil trivial rfl) ?_
    refine rg_q (q_move (x := .d (.v _)) rfl) ?_
    refine rg_nil ?_
    first | refine aops_store sz52 rfl rfl (by first | exact .inl rfl | exact .inr ⟨_, rfl⟩) rfl rfl (by first | decide | simp) rfl ?_ | refine aops_storeT (z := .rs _) sz52 rfl rfl rfl rfl (by first | decide | simp) rfl ?_ | refine aops_storeT (z := .d _) sz52 rfl rfl rfl rfl (by first | decide | simp) rfl ?_ | refine aops_storeTA sz52 rfl rfl (by first | exact .inl rfl | exact .inr ⟨_, rfl⟩) rfl rfl (by first | decide | simp) rfl ?_
    refine aops_q rfl (q_assign (x := .d (.v _)) rfl) ?_
    refine aops_nil ?_
    change Awp _ _ _ _ _
    refine awp_ret ?_
    refine ⟨_, (.cons (.cellA rfl rfl sz52 rfl) (.cons (.tmp (by first | exact .d _ | exact .rs rfl | exact .ref rfl | exact .tref rfl (.cons (.d _ rfl) (.cons (.rs rfl) .nil)))) .nil)), ?_⟩
    rw [hz]; rfl
  ·
    (try simp only [decide_eq_true_eq, decide_eq_false_iff_not, Bool.and_eq_true, Bool.or_eq_true, Bool.and_eq_false_iff, Bool.or_eq_false_iff, Bool.not_eq_true', Bool.not_eq_false', Bool.not_true, Bool.not_false, bif_and, bif_or, Bool.not_not, ne_eq, Decidable.not_not, not_true_eq_false, not_false_eq_true, Int.not_le, Int.not_lt] at hc2)
    have hB : rngE isD (b1, b2) = 0 := hc2
    refine awp_skip ?_
    change Awp _ _ _ _ _
    refine awp_seq ?_
    refine awp_seq ?_
    refine awp_region 3 mixed (by kernel_rfl) ?_
    first | refine rg_q (q_loadA (ds := [_, _]) sz52 rfl rfl rfl) ?_ | refine rg_q (q_load_refA (ds := [_, _]) sz52 rfl rfl rfl rfl) ?_
    first | refine rg_q (q_call en96 (.cons rfl (.cons rfl (.cons rfl .nil))) rfl (rrangeErr_p (_, _) _ _)) ?_ | refine rg_q (q_callF en96 (.cons (by first | exact .d _ | exact .rs rfl | exact .ref rfl | exact .nil _ | exact .tref rfl (by repeat (first | exact .nil | refine .cons (.d _ rfl) ?_ | refine .cons (.rs rfl) ?_))) (.cons (by first | exact .d _ | exact .rs rfl | exact .ref rfl | exact .nil _ | exact .tref rfl (by repeat (first | exact .nil | refine .cons (.d _ rfl) ?_ | refine .cons (.rs rfl) ?_))) (.cons (by first | exact .d _ | exact .rs rfl | exact .ref rfl | exact .nil _ | exact .tref rfl (by repeat (first | exact .nil | refine .cons (.d _ rfl) ?_ | refine .cons (.rs rfl) ?_))) .nil))) rfl (rrangeErr_p (_, _) _ _) (by first | exact .v _ | exact D.Flat.tupF (by repeat first | exact trivial | refine ⟨.v _, ?_⟩) | exact D.Flat.aggF (by repeat first | exact trivial | refine ⟨.v _, ?_⟩))) ?_
    refine rg_q (q_assign (x := .d (.v _)) rfl) ?_
    refine rg_nil ?_
    refine aops_nil ?_
    change Awp _ _ _ _ _
    refine awp_seq ?_
    refine awp_region 2 mixed (by kernel_rfl) ?_
    refine rg_q (q_move (x := .d (.v _)) rfl) ?_
    refine rg_q (q_neq rfl rfl) ?_
    refine rg_nil ?_
    refine aops_nil ?_
    change Awp _ _ _ _ _
    refine awp_cond rfl (fun hc5 => ?_) (fun hc5 => ?_)
    ·
      (try simp only [decide_eq_true_eq, decide_eq_false_iff_not, Bool.and_eq_true, Bool.or_eq_true, Bool.and_eq_false_iff, Bool.or_eq_false_iff, Bool.not_eq_true', Bool.not_eq_false', Bool.not_true, Bool.not_false, bif_and, bif_or, Bool.not_not, ne_eq, Decidable.not_not, not_true_eq_false, not_false_eq_true, Int.not_le, Int.not_lt] at hc5)
      have hN : ¬ rngE isD (n1, n2) = 0 := hc5
      have hw : wearE (b1, b2) (n1, n2) (s1, s2) = rngE isD (n1, n2) := by unfold wearE firstE; rw [if_pos hB]; unfold firstE; rw [if_neg hN]
      have hz : wearS (b1, b2) (n1, n2) (s1, s2) = ((0, 0), rngE isD (n1, n2)) := by unfold wearS; rw [hw, if_pos hN]
      refine awp_seq ?_
      refine awp_region 2 mixed (by kernel_rfl) ?_
      refine rg_q (q_build (cs := [_, _]) pl52 zr52 rfl .nil trivial rfl) ?_
      refine rg_q (q_move (x := .d (.v _)) rfl) ?_
      refine rg_nil ?_
      first | refine aops_store sz52 rfl rfl (by first | exact .inl rfl | exact .inr ⟨_, rfl⟩) rfl rfl (by first | decide | simp) rfl ?_ | refine aops_storeT (z := .rs _) sz52 rfl rfl rfl rfl (by first | decide | simp) rfl ?_ | refine aops_storeT (z := .d _) sz52 rfl rfl rfl rfl (by first | decide | simp) rfl ?_ | refine aops_storeTA sz52 rfl rfl (by first | exact .inl rfl | exact .inr ⟨_, rfl⟩) rfl rfl (by first | decide | simp) rfl ?_
      refine aops_q rfl (q_assign (x := .d (.v _)) rfl) ?_
      refine aops_nil ?_
      change Awp _ _ _ _ _
      refine awp_ret ?_
      refine ⟨_, (.cons (.cellA rfl rfl sz52 rfl) (.cons (.tmp (by first | exact .d _ | exact .rs rfl | exact .ref rfl | exact .tref rfl (.cons (.d _ rfl) (.cons (.rs rfl) .nil)))) .nil)), ?_⟩
      rw [hz]; rfl
    ·
      (try simp only [decide_eq_true_eq, decide_eq_false_iff_not, Bool.and_eq_true, Bool.or_eq_true, Bool.and_eq_false_iff, Bool.or_eq_false_iff, Bool.not_eq_true', Bool.not_eq_false', Bool.not_true, Bool.not_false, bif_and, bif_or, Bool.not_not, ne_eq, Decidable.not_not, not_true_eq_false, not_false_eq_true, Int.not_le, Int.not_lt] at hc5)
      have hN : rngE isD (n1, n2) = 0 := hc5
      refine awp_skip ?_
      change Awp _ _ _ _ _
      refine awp_seq ?_
      refine awp_seq ?_
      refine awp_region 3 mixed (by kernel_rfl) ?_
      first | refine rg_q (q_loadA (ds := [_, _]) sz52 rfl rfl rfl) ?_ | refine rg_q (q_load_refA (ds := [_, _]) sz52 rfl rfl rfl rfl) ?_
      first | refine rg_q (q_call en96 (.cons rfl (.cons rfl (.cons rfl .nil))) rfl (rrangeErr_p (_, _) _ _)) ?_ | refine rg_q (q_callF en96 (.cons (by first | exact .d _ | exact .rs rfl | exact .ref rfl | exact .nil _ | exact .tref rfl (by repeat (first | exact .nil | refine .cons (.d _ rfl) ?_ | refine .cons (.rs rfl) ?_))) (.cons (by first | exact .d _ | exact .rs rfl | exact .ref rfl | exact .nil _ | exact .tref rfl (by repeat (first | exact .nil | refine .cons (.d _ rfl) ?_ | refine .cons (.rs rfl) ?_))) (.cons (by first | exact .d _ | exact .rs rfl | exact .ref rfl | exact .nil _ | exact .tref rfl (by repeat (first | exact .nil | refine .cons (.d _ rfl) ?_ | refine .cons (.rs rfl) ?_))) .nil))) rfl (rrangeErr_p (_, _) _ _) (by first | exact .v _ | exact D.Flat.tupF (by repeat first | exact trivial | refine ⟨.v _, ?_⟩) | exact D.Flat.aggF (by repeat first | exact trivial | refine ⟨.v _, ?_⟩))) ?_
      refine rg_q (q_assign (x := .d (.v _)) rfl) ?_
      refine rg_nil ?_
      refine aops_nil ?_
      change Awp _ _ _ _ _
      refine awp_seq ?_
      refine awp_region 2 mixed (by kernel_rfl) ?_
      refine rg_q (q_move (x := .d (.v _)) rfl) ?_
      refine rg_q (q_neq rfl rfl) ?_
      refine rg_nil ?_
      refine aops_nil ?_
      change Awp _ _ _ _ _
      refine awp_cond rfl (fun hc8 => ?_) (fun hc8 => ?_)
      ·
        (try simp only [decide_eq_true_eq, decide_eq_false_iff_not, Bool.and_eq_true, Bool.or_eq_true, Bool.and_eq_false_iff, Bool.or_eq_false_iff, Bool.not_eq_true', Bool.not_eq_false', Bool.not_true, Bool.not_false, bif_and, bif_or, Bool.not_not, ne_eq, Decidable.not_not, not_true_eq_false, not_false_eq_true, Int.not_le, Int.not_lt] at hc8)
        have hS : ¬ rngE isS (s1, s2) = 0 := hc8
        have hw : wearE (b1, b2) (n1, n2) (s1, s2) = rngE isS (s1, s2) := by unfold wearE firstE; rw [if_pos hB]; unfold firstE; rw [if_pos hN]; unfold firstE; rw [if_neg hS]
        have hz : wearS (b1, b2) (n1, n2) (s1, s2) = ((0, 0), rngE isS (s1, s2)) := by unfold wearS; rw [hw, if_pos hS]
        refine awp_seq ?_
        refine awp_region 2 mixed (by kernel_rfl) ?_
        refine rg_q (q_build (cs := [_, _]) pl52 zr52 rfl .nil trivial rfl) ?_
        refine rg_q (q_move (x := .d (.v _)) rfl) ?_
        refine rg_nil ?_
        first | refine aops_store sz52 rfl rfl (by first | exact .inl rfl | exact .inr ⟨_, rfl⟩) rfl rfl (by first | decide | simp) rfl ?_ | refine aops_storeT (z := .rs _) sz52 rfl rfl rfl rfl (by first | decide | simp) rfl ?_ | refine aops_storeT (z := .d _) sz52 rfl rfl rfl rfl (by first | decide | simp) rfl ?_ | refine aops_storeTA sz52 rfl rfl (by first | exact .inl rfl | exact .inr ⟨_, rfl⟩) rfl rfl (by first | decide | simp) rfl ?_
        refine aops_q rfl (q_assign (x := .d (.v _)) rfl) ?_
        refine aops_nil ?_
        change Awp _ _ _ _ _
        refine awp_ret ?_
        refine ⟨_, (.cons (.cellA rfl rfl sz52 rfl) (.cons (.tmp (by first | exact .d _ | exact .rs rfl | exact .ref rfl | exact .tref rfl (.cons (.d _ rfl) (.cons (.rs rfl) .nil)))) .nil)), ?_⟩
        rw [hz]; rfl
      ·
        (try simp only [decide_eq_true_eq, decide_eq_false_iff_not, Bool.and_eq_true, Bool.or_eq_true, Bool.and_eq_false_iff, Bool.or_eq_false_iff, Bool.not_eq_true', Bool.not_eq_false', Bool.not_true, Bool.not_false, bif_and, bif_or, Bool.not_not, ne_eq, Decidable.not_not, not_true_eq_false, not_false_eq_true, Int.not_le, Int.not_lt] at hc8)
        have hS : rngE isS (s1, s2) = 0 := hc8
        have hw : wearE (b1, b2) (n1, n2) (s1, s2) = 0 := by unfold wearE firstE; rw [if_pos hB]; unfold firstE; rw [if_pos hN]; unfold firstE; rw [if_pos hS]; rfl
        have hz : wearS (b1, b2) (n1, n2) (s1, s2) = (wearV (b1, b2) (n1, n2) (s1, s2), 0) := by unfold wearS; rw [hw, if_neg (by simp)]
        obtain ⟨x1, x2, x3, x4, x5⟩ := rngE_in (lo := -1000000000000) (hi := 1000000000000) hB
        obtain ⟨y1, y2, y3, y4, y5⟩ := rngE_in (lo := -1000000000000) (hi := 1000000000000) hN
        obtain ⟨z1, z2, z3, z4, z5⟩ := rngE_in (lo := 500) (hi := 10000) hS
        simp only at x1 x2 x3 x4 x5 y1 y2 y3 y4 y5 z1 z2 z3 z4 z5
        have m1 := mulb (a := b1 - n2) (b := s1) (A := 2000000000000) (B := 10000) (by omega) (by omega) (by omega) (by omega)
        have m2 := mulb (a := b1 - n2) (b := s2) (A := 2000000000000) (B := 10000) (by omega) (by omega) (by omega) (by omega)
        have m3 := mulb (a := b2 - n1) (b := s1) (A := 2000000000000) (B := 10000) (by omega) (by omega) (by omega) (by omega)
        have m4 := mulb (a := b2 - n1) (b := s2) (A := 2000000000000) (B := 10000) (by omega) (by omega) (by omega) (by omega)
        refine awp_skip ?_
        change Awp _ _ _ _ _
        refine awp_seq ?_
        refine awp_region 12 mixed (by kernel_rfl) ?_
        first | refine rg_q (q_fieldAddr fld52_0 rfl) ?_ | refine rg_q (q_fieldAddr_ref fld52_0 rfl) ?_
        first | refine rg_q (q_load sz3 rfl rfl) ?_ | refine rg_q (q_load_ref sz3 rfl rfl rfl) ?_ | refine rg_q (q_load_tb (x := .d _) sz3 rfl rfl rfl) ?_ | refine rg_q (q_load_tb (x := .rs _) sz3 rfl rfl rfl) ?_
        first | refine rg_q (q_fieldAddr fld52_1 rfl) ?_ | refine rg_q (q_fieldAddr_ref fld52_1 rfl) ?_
        first | refine rg_q (q_load sz3 rfl rfl) ?_ | refine rg_q (q_load_ref sz3 rfl rfl rfl) ?_ | refine rg_q (q_load_tb (x := .d _) sz3 rfl rfl rfl) ?_ | refine rg_q (q_load_tb (x := .rs _) sz3 rfl rfl rfl) ?_
        refine rg_q (q_sub rfl rfl (In64.mk (by (first | omega | (simp only; omega))) (by (first | omega | (simp only; omega))))) ?_
        first | refine rg_q (q_fieldAddr fld52_1 rfl) ?_ | refine rg_q (q_fieldAddr_ref fld52_1 rfl) ?_
        first | refine rg_q (q_load sz3 rfl rfl) ?_ | refine rg_q (q_load_ref sz3 rfl rfl rfl) ?_ | refine rg_q (q_load_tb (x := .d _) sz3 rfl rfl rfl) ?_ | refine rg_q (q_load_tb (x := .rs _) sz3 rfl rfl rfl) ?_
        first | refine rg_q (q_fieldAddr fld52_0 rfl) ?_ | refine rg_q (q_fieldAddr_ref fld52_0 rfl) ?_
        first | refine rg_q (q_load sz3 rfl rfl) ?_ | refine rg_q (q_load_ref sz3 rfl rfl rfl) ?_ | refine rg_q (q_load_tb (x := .d _) sz3 rfl rfl rfl) ?_ | refine rg_q (q_load_tb (x := .rs _) sz3 rfl rfl rfl) ?_
        refine rg_q (q_sub rfl rfl (In64.mk (by (first | omega | (simp only; omega))) (by (first | omega | (simp only; omega))))) ?_
        refine rg_q (q_assign (x := .d (.v _)) rfl) ?_
        refine rg_q (q_assign (x := .d (.v _)) rfl) ?_
        refine rg_nil ?_
        refine aops_nil ?_
        change Awp _ _ _ _ _
        refine awp_seq ?_
        refine awp_region 21 mixed (by kernel_rfl) ?_
        refine rg_q (q_move (x := .d (.v _)) rfl) ?_
        first | refine rg_q (q_fieldAddr fld52_0 rfl) ?_ | refine rg_q (q_fieldAddr_ref fld52_0 rfl) ?_
        first | refine rg_q (q_load sz3 rfl rfl) ?_ | refine rg_q (q_load_ref sz3 rfl rfl rfl) ?_ | refine rg_q (q_load_tb (x := .d _) sz3 rfl rfl rfl) ?_ | refine rg_q (q_load_tb (x := .rs _) sz3 rfl rfl rfl) ?_
        refine rg_q (q_mul rfl rfl (In64.mk (by (first | omega | (simp only; omega))) (by (first | omega | (simp only; omega))))) ?_
        refine rg_q (q_move (x := .d (.v _)) rfl) ?_
        first | refine rg_q (q_fieldAddr fld52_1 rfl) ?_ | refine rg_q (q_fieldAddr_ref fld52_1 rfl) ?_
        first | refine rg_q (q_load sz3 rfl rfl) ?_ | refine rg_q (q_load_ref sz3 rfl rfl rfl) ?_ | refine rg_q (q_load_tb (x := .d _) sz3 rfl rfl rfl) ?_ | refine rg_q (q_load_tb (x := .rs _) sz3 rfl rfl rfl) ?_
        refine rg_q (q_mul rfl rfl (In64.mk (by (first | omega | (simp only; omega))) (by (first | omega | (simp only; omega))))) ?_
        refine rg_q (q_min rfl rfl) ?_
        first | refine rg_q (q_call en67 (.cons rfl (.cons rfl .nil)) rfl (Floor_p _ _ ⟨by simp only; omega, by simp only; omega⟩ (by decide))) ?_ | refine rg_q (q_callF en67 (.cons (by first | exact .d _ | exact .rs rfl | exact .ref rfl | exact .nil _ | exact .tref rfl (by repeat (first | exact .nil | refine .cons (.d _ rfl) ?_ | refine .cons (.rs rfl) ?_))) (.cons (by first | exact .d _ | exact .rs rfl | exact .ref rfl | exact .nil _ | exact .tref rfl (by repeat (first | exact .nil | refine .cons (.d _ rfl) ?_ | refine .cons (.rs rfl) ?_))) .nil)) rfl (Floor_p _ _ ⟨by simp only; omega, by simp only; omega⟩ (by decide)) (by first | exact .v _ | exact D.Flat.tupF (by repeat first | exact trivial | refine ⟨.v _, ?_⟩) | exact D.Flat.aggF (by repeat first | exact trivial | refine ⟨.v _, ?_⟩))) ?_
        refine rg_q (q_move (x := .d (.v _)) rfl) ?_
        first | refine rg_q (q_fieldAddr fld52_0 rfl) ?_ | refine rg_q (q_fieldAddr_ref fld52_0 rfl) ?_
        first | refine rg_q (q_load sz3 rfl rfl) ?_ | refine rg_q (q_load_ref sz3 rfl rfl rfl) ?_ | refine rg_q (q_load_tb (x := .d _) sz3 rfl rfl rfl) ?_ | refine rg_q (q_load_tb (x := .rs _) sz3 rfl rfl rfl) ?_
        refine rg_q (q_mul rfl rfl (In64.mk (by (first | omega | (simp only; omega))) (by (first | omega | (simp only; omega))))) ?_
        refine rg_q (q_move (x := .d (.v _)) rfl) ?_
        first | refine rg_q (q_fieldAddr fld52_1 rfl) ?_ | refine rg_q (q_fieldAddr_ref fld52_1 rfl) ?_
        first | refine rg_q (q_load sz3 rfl rfl) ?_ | refine rg_q (q_load_ref sz3 rfl rfl rfl) ?_ | refine rg_q (q_load_tb (x := .d _) sz3 rfl rfl rfl) ?_ | refine rg_q (q_load_tb (x := .rs _) sz3 rfl rfl rfl) ?_
        refine rg_q (q_mul rfl rfl (In64.mk (by (first | omega | (simp only; omega))) (by (first | omega | (simp only; omega))))) ?_
        refine rg_q (q_max rfl rfl) ?_
        first | refine rg_q (q_call en68 (.cons rfl (.cons rfl .nil)) rfl (Ceil_p _ _ ⟨by simp only; omega, by simp only; omega⟩ (by decide))) ?_ | refine rg_q (q_callF en68 (.cons (by first | exact .d _ | exact .rs rfl | exact .ref rfl | exact .nil _ | exact .tref rfl (by repeat (first | exact .nil | refine .cons (.d _ rfl) ?_ | refine .cons (.rs rfl) ?_))) (.cons (by first | exact .d _ | exact .rs rfl | exact .ref rfl | exact .nil _ | exact .tref rfl (by repeat (first | exact .nil | refine .cons (.d _ rfl) ?_ | refine .cons (.rs rfl) ?_))) .nil)) rfl (Ceil_p _ _ ⟨by simp only; omega, by simp only; omega⟩ (by decide)) (by first | exact .v _ | exact D.Flat.tupF (by repeat first | exact trivial | refine ⟨.v _, ?_⟩) | exact D.Flat.aggF (by repeat first | exact trivial | refine ⟨.v _, ?_⟩))) ?_
        refine rg_q (q_build (cs := [_, _]) pl52 zr52 rfl (.cons rfl (by first | exact .inl rfl | exact .inr ⟨_, rfl⟩) (.cons rfl (by first | exact .inl rfl | exact .inr ⟨_, rfl⟩) .nil)) ⟨⟨rfl, by decide⟩, ⟨rfl, by decide⟩, trivial⟩ rfl) ?_
        refine rg_nil ?_
        first | refine aops_store sz52 rfl rfl (by first | exact .inl rfl | exact .inr ⟨_, rfl⟩) rfl rfl (by first | decide | simp) rfl ?_ | refine aops_storeT (z := .rs _) sz52 rfl rfl rfl rfl (by first | decide | simp) rfl ?_ | refine aops_storeT (z := .d _) sz52 rfl rfl rfl rfl (by first | decide | simp) rfl ?_ | refine aops_storeTA sz52 rfl rfl (by first | exact .inl rfl | exact .inr ⟨_, rfl⟩) rfl rfl (by first | decide | simp) rfl ?_
        refine aops_q rfl (q_assign (x := .d (.v _)) rfl) ?_
        refine aops_nil ?_
        change Awp _ _ _ _ _
        refine awp_ret ?_
        refine ⟨_, (.cons (.cellA rfl rfl sz52 rfl) (.cons (.tmp (by first | exact .d _ | exact .rs rfl | exact .ref rfl | exact .tref rfl (.cons (.d _ rfl) (.cons (.rs rfl) .nil)))) .nil)), ?_⟩
        rw [hz]; rfl
set_option maxRecDepth 100000 in
theorem tuneWears_p (b n s : Int × Int) : PC Try.prog 8 [.agg (shC b), .agg (shC n), .agg (shC s)] (.v (.bool true)) := by
  obtain ⟨b1, b2⟩ := b
  obtain ⟨n1, n2⟩ := n
  obtain ⟨s1, s2⟩ := s
  obtain ⟨E, hE⟩ : ∃ E, wearS (b1, b2) (n1, n2) (s1, s2) = E := ⟨_, rfl⟩
  have hw := WearOf_p (b1, b2) (n1, n2) (s1, s2)
  have hr := rWearOf_p (b1, b2) (n1, n2) (s1, s2)
  rw [hE] at hw hr
  obtain ⟨⟨v1, v2⟩, e⟩ := E
  simp only at hw hr
  refine pc_of_awp Try.func8 rfl Try.ntmps8 (rs := [.tmp 6]) Try.results8 (by simp) fun w0 => ?_
  refine awp_seq ?_
  refine awp_region 4 mixed (by kernel_rfl) ?_
  refine rg_q (q_box rfl (by first | exact .inl rfl | exact .inr ⟨_, rfl⟩)) ?_
  refine rg_q (q_box rfl (by first | exact .inl rfl | exact .inr ⟨_, rfl⟩)) ?_
  refine rg_q (q_box rfl (by first | exact .inl rfl | exact .inr ⟨_, rfl⟩)) ?_
  refine rg_q (q_assign (x := .d (.v _)) rfl) ?_
  refine rg_nil ?_
  refine aops_nil ?_
  change Awp _ _ _ _ _
  refine awp_seq ?_
  refine awp_seq ?_
  refine awp_region 2 mixed (by kernel_rfl) ?_
  first | refine rg_q (q_call en16 .nil rfl (awake_p)) ?_ | refine rg_q (q_callF en16 .nil rfl (awake_p) (by first | exact .v _ | exact D.Flat.tupF (by repeat first | exact trivial | refine ⟨.v _, ?_⟩) | exact D.Flat.aggF (by repeat first | exact trivial | refine ⟨.v _, ?_⟩))) ?_
  refine rg_q (q_not rfl) ?_
  refine rg_nil ?_
  refine aops_nil ?_
  change Awp _ _ _ _ _
  refine awp_cond rfl (fun hc1 => ?_) (fun hc1 => ?_)
  ·
    exfalso; (try simp only [decide_eq_true_eq, decide_eq_false_iff_not, Bool.and_eq_true, Bool.or_eq_true, Bool.and_eq_false_iff, Bool.or_eq_false_iff, Bool.not_eq_true', Bool.not_eq_false', Bool.not_true, Bool.not_false, bif_and, bif_or, Bool.not_not, ne_eq, Decidable.not_not, not_true_eq_false, not_false_eq_true, Int.not_le, Int.not_lt] at hc1); first | omega | simp_all
  ·
    (try simp only [decide_eq_true_eq, decide_eq_false_iff_not, Bool.and_eq_true, Bool.or_eq_true, Bool.and_eq_false_iff, Bool.or_eq_false_iff, Bool.not_eq_true', Bool.not_eq_false', Bool.not_true, Bool.not_false, bif_and, bif_or, Bool.not_not, ne_eq, Decidable.not_not, not_true_eq_false, not_false_eq_true, Int.not_le, Int.not_lt] at hc1)
    refine awp_skip ?_
    change Awp _ _ _ _ _
    refine awp_seq ?_
    refine awp_region 7 mixed (by kernel_rfl) ?_
    first | refine rg_q (q_loadA (ds := [_, _]) sz52 rfl rfl rfl) ?_ | refine rg_q (q_load_refA (ds := [_, _]) sz52 rfl rfl rfl rfl) ?_
    first | refine rg_q (q_loadA (ds := [_, _]) sz52 rfl rfl rfl) ?_ | refine rg_q (q_load_refA (ds := [_, _]) sz52 rfl rfl rfl rfl) ?_
    first | refine rg_q (q_loadA (ds := [_, _]) sz52 rfl rfl rfl) ?_ | refine rg_q (q_load_refA (ds := [_, _]) sz52 rfl rfl rfl rfl) ?_
    first | refine rg_q (q_call en43 (.cons rfl (.cons rfl (.cons rfl .nil))) rfl (hw)) ?_ | refine rg_q (q_callF en43 (.cons (by first | exact .d _ | exact .rs rfl | exact .ref rfl | exact .nil _ | exact .tref rfl (by repeat (first | exact .nil | refine .cons (.d _ rfl) ?_ | refine .cons (.rs rfl) ?_))) (.cons (by first | exact .d _ | exact .rs rfl | exact .ref rfl | exact .nil _ | exact .tref rfl (by repeat (first | exact .nil | refine .cons (.d _ rfl) ?_ | refine .cons (.rs rfl) ?_))) (.cons (by first | exact .d _ | exact .rs rfl | exact .ref rfl | exact .nil _ | exact .tref rfl (by repeat (first | exact .nil | refine .cons (.d _ rfl) ?_ | refine .cons (.rs rfl) ?_))) .nil))) rfl (hw) (by first | exact .v _ | exact D.Flat.tupF (by repeat first | exact trivial | refine ⟨.v _, ?_⟩) | exact D.Flat.aggF (by repeat first | exact trivial | refine ⟨.v _, ?_⟩))) ?_
    refine rg_q (q_move (x := .d (.tup _)) rfl) ?_
    refine rg_q (q_extract rfl rfl) ?_
    refine rg_q (q_extract rfl rfl) ?_
    refine rg_nil ?_
    refine aops_alloc zr52 rfl rfl rfl ?_
    first | refine aops_store sz52 rfl rfl (by first | exact .inl rfl | exact .inr ⟨_, rfl⟩) rfl rfl (by first | decide | simp) rfl ?_ | refine aops_storeT (z := .rs _) sz52 rfl rfl rfl rfl (by first | decide | simp) rfl ?_ | refine aops_storeT (z := .d _) sz52 rfl rfl rfl rfl (by first | decide | simp) rfl ?_ | refine aops_storeTA sz52 rfl rfl (by first | exact .inl rfl | exact .inr ⟨_, rfl⟩) rfl rfl (by first | decide | simp) rfl ?_
    refine aops_q rfl (q_assign (x := .d (.v _)) rfl) ?_
    refine aops_nil ?_
    change Awp _ _ _ _ _
    refine awp_seq ?_
    refine awp_region 7 mixed (by kernel_rfl) ?_
    first | refine rg_q (q_loadA (ds := [_, _]) sz52 rfl rfl rfl) ?_ | refine rg_q (q_load_refA (ds := [_, _]) sz52 rfl rfl rfl rfl) ?_
    first | refine rg_q (q_loadA (ds := [_, _]) sz52 rfl rfl rfl) ?_ | refine rg_q (q_load_refA (ds := [_, _]) sz52 rfl rfl rfl rfl) ?_
    first | refine rg_q (q_loadA (ds := [_, _]) sz52 rfl rfl rfl) ?_ | refine rg_q (q_load_refA (ds := [_, _]) sz52 rfl rfl rfl rfl) ?_
    first | refine rg_q (q_call en44 (.cons rfl (.cons rfl (.cons rfl .nil))) rfl (hr)) ?_ | refine rg_q (q_callF en44 (.cons (by first | exact .d _ | exact .rs rfl | exact .ref rfl | exact .nil _ | exact .tref rfl (by repeat (first | exact .nil | refine .cons (.d _ rfl) ?_ | refine .cons (.rs rfl) ?_))) (.cons (by first | exact .d _ | exact .rs rfl | exact .ref rfl | exact .nil _ | exact .tref rfl (by repeat (first | exact .nil | refine .cons (.d _ rfl) ?_ | refine .cons (.rs rfl) ?_))) (.cons (by first | exact .d _ | exact .rs rfl | exact .ref rfl | exact .nil _ | exact .tref rfl (by repeat (first | exact .nil | refine .cons (.d _ rfl) ?_ | refine .cons (.rs rfl) ?_))) .nil))) rfl (hr) (by first | exact .v _ | exact D.Flat.tupF (by repeat first | exact trivial | refine ⟨.v _, ?_⟩) | exact D.Flat.aggF (by repeat first | exact trivial | refine ⟨.v _, ?_⟩))) ?_
    refine rg_q (q_move (x := .d (.tup _)) rfl) ?_
    refine rg_q (q_extract rfl rfl) ?_
    refine rg_q (q_extract rfl rfl) ?_
    refine rg_nil ?_
    refine aops_alloc zr52 rfl rfl rfl ?_
    first | refine aops_store sz52 rfl rfl (by first | exact .inl rfl | exact .inr ⟨_, rfl⟩) rfl rfl (by first | decide | simp) rfl ?_ | refine aops_storeT (z := .rs _) sz52 rfl rfl rfl rfl (by first | decide | simp) rfl ?_ | refine aops_storeT (z := .d _) sz52 rfl rfl rfl rfl (by first | decide | simp) rfl ?_ | refine aops_storeTA sz52 rfl rfl (by first | exact .inl rfl | exact .inr ⟨_, rfl⟩) rfl rfl (by first | decide | simp) rfl ?_
    refine aops_q rfl (q_assign (x := .d (.v _)) rfl) ?_
    refine aops_nil ?_
    change Awp _ _ _ _ _
    refine awp_seq ?_
    refine awp_region 9 mixed (by kernel_rfl) ?_
    refine rg_q (q_move (x := .d (.v _)) rfl) ?_
    refine rg_q (q_move (x := .d (.v _)) rfl) ?_
    refine rg_q (q_eql rfl rfl) ?_
    refine rg_q (q_move (x := .d (.v _)) rfl) ?_
    first | refine rg_g rfl rfl (fun hG => (q_loadA (ds := [_, _]) sz52 rfl rfl rfl)) ?_ | refine rg_g rfl rfl (fun hG => (q_load_refA (ds := [_, _]) sz52 rfl rfl rfl rfl)) ?_
    first | refine rg_g rfl rfl (fun hG => (q_loadA (ds := [_, _]) sz52 rfl rfl rfl)) ?_ | refine rg_g rfl rfl (fun hG => (q_load_refA (ds := [_, _]) sz52 rfl rfl rfl rfl)) ?_
    refine rg_g rfl rfl (fun hG => (q_eqlI (xs := [_, _]) (ys := [_, _]) eqi52 rfl rfl rfl rfl)) ?_
    first | refine rg_pick rfl rfl rfl rfl rfl rfl ?_ | refine rg_q (q_pick rfl rfl rfl) ?_
    refine rg_q (q_assign (x := .d (.v _)) rfl) ?_
    refine rg_nil ?_
    refine aops_nil ?_
    change Awp _ _ _ _ _
    refine awp_ret ?_
    refine ⟨_, (.cons (.tmp (by first | exact .d _ | exact .rs rfl | exact .ref rfl | exact .tref rfl (.cons (.d _ rfl) (.cons (.rs rfl) .nil)))) .nil), ?_⟩
    simp [retD]
end Go.Proofs.Ytgdcidbpadhkpaa.Am.M
