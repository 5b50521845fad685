/- Contracts over the abstract machine: package ray: slopes, crossings, least times. Conditions: none. -/
import Derived.Test.YtphlaicnmmglhaaGreatK1
set_option linter.unusedVariables false
set_option linter.unusedSimpArgs false
-- mini
namespace Go.Proofs.YtphlaicnmmglhaaGreat.Am.M
open Go
set_option maxRecDepth 100000 in
theorem times_p (a b : Int) (h1 : 0 ≤ a) (h2 : a ≤ 9223372036854775807) (h3 : 0 ≤ b) (h4 : b ≤ 9223372036854775807) : PC Tryz.prog 302 [.v (.int .i64 (a)), .v (.int .i64 (b))] (.agg [.v (.int .u64 (hi64 (a * b))), .v (.int .u64 (lo64 (a * b)))]) := by
 refine pc_of_awp Tryz.func302 rfl Tryz.ntmps302 (rs := [.cell 4 388]) Tryz.results302 (by simp) fun w0 => ?_
 refine awp_seq ?_
 refine awp_region 0 mixed (by kernel_rfl) ?_
 refine rg_nil ?_
 refine aops_alloc zr388 rfl rfl rfl ?_
 refine aops_nil ?_
 change Awp _ _ _ _ _
 refine awp_seq ?_
 refine awp_region 10 mixed (by kernel_rfl) ?_
 refine rg_q (q_move (x := .d (.v _)) rfl) ?_
 refine rg_q (q_convE int3 int165 rfl (u64_in (by omega) (by omega))) ?_
 refine rg_q (q_move (x := .d (.v _)) rfl) ?_
 refine rg_q (q_convE int3 int165 rfl (u64_in (by omega) (by omega))) ?_
 refine rg_q (q_call en309 (.cons rfl (.cons rfl .nil)) rfl (mul64_p _ _ (by omega) (by omega) (by omega) (by omega))) ?_
 refine rg_q (q_move (x := .d (.tup _)) rfl) (rg_q (q_extract rfl rfl) (rg_q (q_extract rfl rfl) (rg_q (q_assign (x := .d (.v _)) rfl) (rg_q (q_assign (x := .d (.v _)) rfl) ?_))))
 refine rg_nil (aops_nil ?_)
 change Awp _ _ _ _ _
 refine awp_seq ?_
 refine awp_region 3 mixed (by kernel_rfl) ?_
 refine rg_q (q_move (x := .d (.v _)) rfl) (rg_q (q_move (x := .d (.v _)) rfl) ?_)
 refine rg_q (q_build (cs := [_, _]) pl388 zr388 rfl (.cons rfl (by exact .inl rfl) (.cons rfl (by exact .inl rfl) .nil)) ⟨⟨rfl, by decide⟩, ⟨rfl, by decide⟩, trivial⟩ rfl) ?_
 refine rg_nil ?_
 refine aops_store sz388 rfl rfl (by exact .inr ⟨_, rfl⟩) rfl rfl (by decide) rfl ?_
 refine aops_nil ?_
 change Awp _ _ _ _ _
 refine awp_ret ?_
 refine ⟨_, (.cons (.cellA rfl rfl sz388 rfl) .nil), ?_⟩
 rfl

theorem hl64 (a : Int) : a = hi64 a * 18446744073709551616 + lo64 a ∧ 0 ≤ lo64 a ∧ lo64 a < 18446744073709551616 := by unfold hi64 lo64; omega
set_option maxRecDepth 100000 in
theorem compare_p (a b : Int) : PC Tryz.prog 303 [.agg [.v (.int .u64 (hi64 (a))), .v (.int .u64 (lo64 (a)))], .agg [.v (.int .u64 (hi64 (b))), .v (.int .u64 (lo64 (b)))]] (.v (.int .i64 (sgnI a b))) := by
 obtain ⟨a1, a2, a3⟩ := hl64 a
 obtain ⟨b1, b2, b3⟩ := hl64 b
 refine pc_of_awp Tryz.func303 rfl Tryz.ntmps303 (rs := [.tmp 4]) Tryz.results303 (by simp) fun w0 => ?_
 refine awp_seq ?_
 refine awp_region 3 mixed (by kernel_rfl) ?_
 refine rg_q (q_box rfl (by exact .inr ⟨_, rfl⟩)) ?_
 refine rg_q (q_box rfl (by exact .inr ⟨_, rfl⟩)) ?_
 refine rg_q (q_assign (x := .d (.v _)) rfl) ?_
 refine rg_nil (aops_nil ?_)
 change Awp _ _ _ _ _
 refine awp_seq ?_
 refine awp_block ?_
 refine awp_seq ?_
 refine awp_region 4 mixed (by kernel_rfl) ?_
 refine rg_q (q_loadA (ds := [_, _]) sz388 rfl rfl rfl) ?_
 refine rg_q (q_loadA (ds := [_, _]) sz388 rfl rfl rfl) ?_
 refine rg_q (q_eqlK (xs := [_, _]) (ys := [_, _]) eqk388 rfl rfl rfl rfl) ?_
 refine rg_q (q_assign (x := .d (.v _)) rfl) ?_
 refine rg_nil (aops_nil ?_)
 change Awp _ _ _ _ _
 refine awp_cond rfl (fun hc1 => ?_) (fun hc1 => ?_)
 ·
  (try simp only [nb, ne_eq] at hc1)
  have hz : sgnI a b = 0 := by unfold sgnI; rw [if_pos (by simp at hc1; omega)]
  refine awp_seq ?_
  refine awp_region 1 mixed (by kernel_rfl) ?_
  refine rg_q (q_assign (x := .d (.v _)) rfl) ?_
  refine rg_nil (aops_nil ?_)
  change Awp _ _ _ _ _
  refine awp_ret ?_
  refine ⟨_, (.cons (.tmp (by exact .d _)) .nil), ?_⟩
  rw [hz]; rfl
 ·
  (try simp only [nb, ne_eq] at hc1)
  have hne : ¬ a = b := fun e => by subst e; simp at hc1
  refine awp_seq ?_
  refine awp_region 20 mixed (by kernel_rfl) ?_
  refine rg_q (q_fieldAddr fld388_0 rfl) (rg_q (q_load sz165 rfl rfl) (rg_q (q_fieldAddr fld388_0 rfl) (rg_q (q_load sz165 rfl rfl) (rg_q (q_lss rfl rfl) (rg_q (q_move (x := .d (.v _)) rfl) ?_)))))
  refine rg_g rfl rfl (fun hG => (q_fieldAddr fld388_0 rfl)) ?_
  refine rg_g rfl rfl (fun hG => (q_load sz165 rfl rfl)) ?_
  refine rg_g rfl rfl (fun hG => (q_fieldAddr fld388_0 rfl)) ?_
  refine rg_g rfl rfl (fun hG => (q_load sz165 rfl rfl)) ?_
  refine rg_g rfl rfl (fun hG => (q_eql rfl rfl)) ?_
  refine rg_g rfl rfl (fun hG => (q_move (x := .d (.v _)) rfl)) ?_
  refine rg_g rfl rfl (fun hG => (q_fieldAddr fld388_1 rfl)) ?_
  refine rg_g rfl rfl (fun hG => (q_load sz165 rfl rfl)) ?_
  refine rg_g rfl rfl (fun hG => (q_fieldAddr fld388_1 rfl)) ?_
  refine rg_g rfl rfl (fun hG => (q_load sz165 rfl rfl)) ?_
  refine rg_g rfl rfl (fun hG => (q_lss rfl rfl)) ?_
  refine rg_pickg rfl rfl rfl rfl rfl rfl rfl rfl ?_
  refine rg_pick rfl rfl rfl rfl rfl rfl ?_
  refine rg_q (q_assign (x := .d (.v _)) rfl) ?_
  refine rg_nil (aops_nil ?_)
  change Awp _ _ _ _ _
  refine awp_cond rfl (fun hc3 => ?_) (fun hc3 => ?_)
  ·
   (try simp only [nb, ne_eq] at hc3)
   have hz : sgnI a b = -1 := by unfold sgnI; rw [if_neg hne, if_pos (by omega)]
   refine awp_seq ?_
   refine awp_region 1 mixed (by kernel_rfl) ?_
   refine rg_q (q_assign (x := .d (.v _)) rfl) ?_
   refine rg_nil (aops_nil ?_)
   change Awp _ _ _ _ _
   refine awp_ret ?_
   refine ⟨_, (.cons (.tmp (by exact .d _)) .nil), ?_⟩
   rw [hz]; rfl
  ·
   (try simp only [nb, ne_eq] at hc3)
   have hz : sgnI a b = 1 := by unfold sgnI; rw [if_neg hne, if_neg (by omega)]
   refine awp_skip ?_
   change Awp _ _ _ _ _
   refine awp_seq ?_
   refine awp_region 1 mixed (by kernel_rfl) ?_
   refine rg_q (q_assign (x := .d (.v _)) rfl) ?_
   refine rg_nil (aops_nil ?_)
   change Awp _ _ _ _ _
   refine awp_ret ?_
   refine ⟨_, (.cons (.tmp (by exact .d _)) .nil), ?_⟩
   rw [hz]; rfl

theorem slope_bounds {t v h : Int} (t1 : -200000 ≤ t) (t2 : t ≤ 200000) (v1 : 500 ≤ v) (v2 : v ≤ 10000) (h1 : 1 ≤ h) (h2 : h ≤ 100000) :
    (-2000000000 ≤ t * v ∧ t * v ≤ 2000000000) ∧ (-400000000000000 ≤ t * v * t ∧ t * v * t ≤ 400000000000000) ∧ (0 ≤ t * v * t * v ∧ t * v * t * v ≤ 4000000000000000000) ∧ (0 ≤ t * t ∧ t * t ≤ 40000000000) ∧ (0 ≤ h * h ∧ h * h ≤ 10000000000) := by
  have m1 := mulb (a := t) (b := v) (A := 200000) (B := 10000) (by omega) (by omega) (by omega) (by omega)
  have m2 := mulb (a := t * v) (b := t) (A := 2000000000) (B := 200000) (by omega) (by omega) (by omega) (by omega)
  have m3 := mulb (a := t * v * t) (b := v) (A := 400000000000000) (B := 10000) (by omega) (by omega) (by omega) (by omega)
  obtain ⟨b1, b2, b3, b4⟩ := len_bounds (x := t) (z := h) t1 t2 (by omega) (by omega)
  have m4 := mulb (a := h) (b := h) (A := 100000) (B := 100000) (by omega) (by omega) (by omega) (by omega)
  have e : t * v * t * v = (t * v) * (t * v) := by grind
  have n : 0 ≤ (t * v) * (t * v) := by
    rcases Int.le_total 0 (t * v) with q | q
    · exact Int.mul_nonneg q q
    · have := Int.mul_nonneg (show 0 ≤ -(t * v) by omega) (show 0 ≤ -(t * v) by omega)
      rwa [Int.neg_mul_neg] at this
  refine ⟨by omega, by omega, by omega, ⟨b1, b2⟩, b3, by omega⟩
set_option maxRecDepth 100000 in
theorem slope_p (x : Crs) (t : Int) (hx : CrsOk x) (h1 : -100000 ≤ t) (h2 : t ≤ 100000) : PC Tryz.prog 295 [.agg (crsC x), .v (.int .i64 (t))] (.v (.int .i64 (slopeI x t))) := by
 obtain ⟨a1, a2, b1, b2, c1, c2, d1, d2, e1, e2, f1, f2⟩ := hx
 obtain ⟨p1, p2, p3, p4, p5⟩ := slope_bounds (t := t - x.x1) (v := x.v2) (h := x.h1) (by omega) (by omega) f1 f2 c1 c2
 obtain ⟨q1, q2, q3, q4, q5⟩ := slope_bounds (t := x.x2 - t) (v := x.v1) (h := x.h2) (by omega) (by omega) e1 e2 d1 d2
 have hs : -1 ≤ sgnI (oneI x t) (twoI x t) ∧ sgnI (oneI x t) (twoI x t) ≤ 1 := by unfold sgnI; split <;> (try split) <;> omega
 refine pc_of_awp Tryz.func295 rfl Tryz.ntmps295 (rs := [.tmp 4]) Tryz.results295 (by simp) fun w0 => ?_
 refine awp_seq ?_
 refine awp_region 2 mixed (by kernel_rfl) ?_
 refine rg_q (q_box rfl (by exact .inr ⟨_, rfl⟩)) ?_
 refine rg_q (q_assign (x := .d (.v _)) rfl) ?_
 refine rg_nil (aops_nil ?_)
 change Awp _ _ _ _ _
 refine awp_seq ?_
 refine awp_region 12 mixed (by kernel_rfl) ?_
 refine rg_q (q_move (x := .d (.v _)) rfl) (rg_q (q_fieldAddr fld366_0 rfl) (rg_q (q_fieldAddr fld364_0 rfl) (rg_q (q_load sz3 rfl rfl) ?_)))
 refine rg_q (q_sub rfl rfl (In64.mk (by omega) (by omega))) ?_
 refine rg_q (q_fieldAddr fld366_0 rfl) (rg_q (q_fieldAddr fld364_3 rfl) (rg_q (q_load sz3 rfl rfl) (rg_q (q_move (x := .d (.v _)) rfl) ?_)))
 refine rg_q (q_sub rfl rfl (In64.mk (by omega) (by omega))) ?_
 refine rg_q (q_assign (x := .d (.v _)) rfl) (rg_q (q_assign (x := .d (.v _)) rfl) ?_)
 refine rg_nil (aops_nil ?_)
 change Awp _ _ _ _ _
 refine awp_seq ?_
 refine awp_region 23 mixed (by kernel_rfl) ?_
 refine rg_q (q_move (x := .d (.v _)) rfl) (rg_q (q_fieldAddr fld366_0 rfl) (rg_q (q_fieldAddr fld364_5 rfl) (rg_q (q_load sz3 rfl rfl) ?_)))
 refine rg_q (q_mul rfl rfl (In64.mk (by omega) (by omega))) ?_
 refine rg_q (q_move (x := .d (.v _)) rfl) ?_
 refine rg_q (q_mul rfl rfl (In64.mk (by omega) (by omega))) ?_
 refine rg_q (q_fieldAddr fld366_0 rfl) (rg_q (q_fieldAddr fld364_5 rfl) (rg_q (q_load sz3 rfl rfl) ?_))
 refine rg_q (q_mul rfl rfl (In64.mk (by omega) (by omega))) ?_
 refine rg_q (q_move (x := .d (.v _)) rfl) (rg_q (q_move (x := .d (.v _)) rfl) ?_)
 refine rg_q (q_mul rfl rfl (In64.mk (by omega) (by omega))) ?_
 refine rg_q (q_fieldAddr fld366_0 rfl) (rg_q (q_fieldAddr fld364_4 rfl) (rg_q (q_load sz3 rfl rfl) (rg_q (q_fieldAddr fld366_0 rfl) (rg_q (q_fieldAddr fld364_4 rfl) (rg_q (q_load sz3 rfl rfl) ?_)))))
 refine rg_q (q_mul rfl rfl (In64.mk (by omega) (by omega))) ?_
 refine rg_q (q_add rfl rfl (In64.mk (by omega) (by omega))) ?_
 refine rg_q (q_call en302 (.cons rfl (.cons rfl .nil)) rfl (times_p _ _ (by omega) (by omega) (by omega) (by omega))) ?_
 refine rg_nil ?_
 refine aops_alloc zr388 rfl rfl rfl ?_
 refine aops_store sz388 rfl rfl (by exact .inr ⟨_, rfl⟩) rfl rfl (by decide) rfl ?_
 refine aops_nil ?_
 change Awp _ _ _ _ _
 refine awp_seq ?_
 refine awp_region 23 mixed (by kernel_rfl) ?_
 refine rg_q (q_move (x := .d (.v _)) rfl) (rg_q (q_fieldAddr fld366_0 rfl) (rg_q (q_fieldAddr fld364_2 rfl) (rg_q (q_load sz3 rfl rfl) ?_)))
 refine rg_q (q_mul rfl rfl (In64.mk (by omega) (by omega))) ?_
 refine rg_q (q_move (x := .d (.v _)) rfl) ?_
 refine rg_q (q_mul rfl rfl (In64.mk (by omega) (by omega))) ?_
 refine rg_q (q_fieldAddr fld366_0 rfl) (rg_q (q_fieldAddr fld364_2 rfl) (rg_q (q_load sz3 rfl rfl) ?_))
 refine rg_q (q_mul rfl rfl (In64.mk (by omega) (by omega))) ?_
 refine rg_q (q_move (x := .d (.v _)) rfl) (rg_q (q_move (x := .d (.v _)) rfl) ?_)
 refine rg_q (q_mul rfl rfl (In64.mk (by omega) (by omega))) ?_
 refine rg_q (q_fieldAddr fld366_0 rfl) (rg_q (q_fieldAddr fld364_1 rfl) (rg_q (q_load sz3 rfl rfl) (rg_q (q_fieldAddr fld366_0 rfl) (rg_q (q_fieldAddr fld364_1 rfl) (rg_q (q_load sz3 rfl rfl) ?_)))))
 refine rg_q (q_mul rfl rfl (In64.mk (by omega) (by omega))) ?_
 refine rg_q (q_add rfl rfl (In64.mk (by omega) (by omega))) ?_
 refine rg_q (q_call en302 (.cons rfl (.cons rfl .nil)) rfl (times_p _ _ (by omega) (by omega) (by omega) (by omega))) ?_
 refine rg_nil ?_
 refine aops_alloc zr388 rfl rfl rfl ?_
 refine aops_store sz388 rfl rfl (by exact .inr ⟨_, rfl⟩) rfl rfl (by decide) rfl ?_
 refine aops_nil ?_
 change Awp _ _ _ _ _
 refine awp_seq ?_
 refine awp_region 4 mixed (by kernel_rfl) ?_
 refine rg_q (q_load_refA (ds := [_, _]) sz388 rfl rfl rfl rfl) ?_
 refine rg_q (q_load_refA (ds := [_, _]) sz388 rfl rfl rfl rfl) ?_
 refine rg_q (q_call en303 (.cons rfl (.cons rfl .nil)) rfl (compare_p (oneI x t) (twoI x t))) ?_
 refine rg_q (q_assign (x := .d (.v _)) rfl) ?_
 refine rg_nil (aops_nil ?_)
 change Awp _ _ _ _ _
 refine awp_seq ?_
 refine awp_seq ?_
 refine awp_region 7 mixed (by kernel_rfl) ?_
 refine rg_q (q_fieldAddr fld366_0 rfl) (rg_q (q_fieldAddr fld364_3 rfl) (rg_q (q_load sz3 rfl rfl) (rg_q (q_fieldAddr fld366_0 rfl) (rg_q (q_fieldAddr fld364_0 rfl) (rg_q (q_load sz3 rfl rfl) ?_)))))
 refine rg_q (q_lss rfl rfl) ?_
 refine rg_nil (aops_nil ?_)
 change Awp _ _ _ _ _
 refine awp_cond rfl (fun hc5 => ?_) (fun hc5 => ?_)
 ·
  (try simp only [nb, ne_eq] at hc5)
  have hz : slopeI x t = -(sgnI (oneI x t) (twoI x t)) := by unfold slopeI; rw [if_pos hc5]
  refine awp_region 3 mixed (by kernel_rfl) ?_
  refine rg_q (q_move (x := .d (.v _)) rfl) ?_
  refine rg_q (q_neg rfl (In64.mk (by omega) (by omega))) ?_
  refine rg_q (q_assign (x := .d (.v _)) rfl) ?_
  refine rg_nil (aops_nil ?_)
  change Awp _ _ _ _ _
  refine awp_seq ?_
  refine awp_region 2 mixed (by kernel_rfl) ?_
  refine rg_q (q_move (x := .d (.v _)) rfl) (rg_q (q_assign (x := .d (.v _)) rfl) ?_)
  refine rg_nil (aops_nil ?_)
  change Awp _ _ _ _ _
  refine awp_ret ?_
  refine ⟨_, (.cons (.tmp (by exact .d _)) .nil), ?_⟩
  rw [hz]; rfl
 ·
  (try simp only [nb, ne_eq] at hc5)
  have hz : slopeI x t = sgnI (oneI x t) (twoI x t) := by unfold slopeI; rw [if_neg (by omega)]
  refine awp_skip ?_
  change Awp _ _ _ _ _
  refine awp_seq ?_
  refine awp_region 2 mixed (by kernel_rfl) ?_
  refine rg_q (q_move (x := .d (.v _)) rfl) (rg_q (q_assign (x := .d (.v _)) rfl) ?_)
  refine rg_nil (aops_nil ?_)
  change Awp _ _ _ _ _
  refine awp_ret ?_
  refine ⟨_, (.cons (.tmp (by exact .d _)) .nil), ?_⟩
  rw [hz]; rfl
set_option maxRecDepth 100000 in
theorem ends_p (x : Crs) : PC Tryz.prog 292 [.agg (crsC x)] (.tup [.v (.int .i64 (loX x)), .v (.int .i64 (hiX x))]) := by
 refine pc_of_awp Tryz.func292 rfl Tryz.ntmps292 (rs := [.tmp 2, .tmp 3]) Tryz.results292 (by simp) fun w0 => ?_
 refine awp_seq ?_
 refine awp_region 3 mixed (by kernel_rfl) ?_
 refine rg_q (q_box rfl (by exact .inr ⟨_, rfl⟩)) ?_
 refine rg_q (q_assign (x := .d (.v _)) rfl) (rg_q (q_assign (x := .d (.v _)) rfl) ?_)
 refine rg_nil (aops_nil ?_)
 change Awp _ _ _ _ _
 refine awp_seq ?_
 refine awp_region 16 mixed (by kernel_rfl) ?_
 refine rg_q (q_fieldAddr fld366_0 rfl) (rg_q (q_fieldAddr fld364_0 rfl) (rg_q (q_load sz3 rfl rfl) (rg_q (q_fieldAddr fld366_0 rfl) (rg_q (q_fieldAddr fld364_3 rfl) (rg_q (q_load sz3 rfl rfl) ?_)))))
 refine rg_q (q_min rfl rfl) ?_
 refine rg_q (q_fieldAddr fld366_0 rfl) (rg_q (q_fieldAddr fld364_0 rfl) (rg_q (q_load sz3 rfl rfl) (rg_q (q_fieldAddr fld366_0 rfl) (rg_q (q_fieldAddr fld364_3 rfl) (rg_q (q_load sz3 rfl rfl) ?_)))))
 refine rg_q (q_max rfl rfl) ?_
 refine rg_q (q_assign (x := .d (.v _)) rfl) (rg_q (q_assign (x := .d (.v _)) rfl) ?_)
 refine rg_nil (aops_nil ?_)
 change Awp _ _ _ _ _
 refine awp_ret ?_
 refine ⟨_, (.cons (.tmp (by exact .d _)) (.cons (.tmp (by exact .d _)) .nil)), ?_⟩
 rfl
set_option maxRecDepth 100000 in
theorem has_p (x : Crs) (t : Int) : PC Tryz.prog 282 [.agg (crsC x), .v (.int .i64 (t))] (.v (.bool (inR (loX x) t (hiX x)))) := by
 refine pc_of_awp Tryz.func282 rfl Tryz.ntmps282 (rs := [.tmp 4]) Tryz.results282 (by simp) fun w0 => ?_
 refine awp_seq ?_
 refine awp_region 2 mixed (by kernel_rfl) ?_
 refine rg_q (q_box rfl (by exact .inr ⟨_, rfl⟩)) ?_
 refine rg_q (q_assign (x := .d (.v _)) rfl) ?_
 refine rg_nil (aops_nil ?_)
 change Awp _ _ _ _ _
 refine awp_seq ?_
 refine awp_region 7 mixed (by kernel_rfl) ?_
 refine rg_q (q_loadA (ds := [_, _, _, _, _, _]) sz366 rfl rfl rfl) ?_
 refine rg_q (q_call en292 (.cons rfl .nil) rfl (ends_p _)) ?_
 refine rg_q (q_move (x := .d (.tup _)) rfl) (rg_q (q_extract rfl rfl) (rg_q (q_extract rfl rfl) (rg_q (q_assign (x := .d (.v _)) rfl) (rg_q (q_assign (x := .d (.v _)) rfl) ?_))))
 refine rg_nil (aops_nil ?_)
 change Awp _ _ _ _ _
 refine awp_seq ?_
 refine awp_region 5 mixed (by kernel_rfl) ?_
 refine rg_q (q_move (x := .d (.v _)) rfl) (rg_q (q_move (x := .d (.v _)) rfl) (rg_q (q_move (x := .d (.v _)) rfl) ?_))
 refine rg_q (q_call en186 (.cons rfl (.cons rfl (.cons rfl .nil))) rfl (rwithin_p _ _ _)) ?_
 refine rg_q (q_assign (x := .d (.v _)) rfl) ?_
 refine rg_nil (aops_nil ?_)
 change Awp _ _ _ _ _
 refine awp_ret ?_
 refine ⟨_, (.cons (.tmp (by exact .d _)) .nil), ?_⟩
 rfl
set_option maxRecDepth 100000 in
theorem cross1_p (x : Crs) (n : Int) (hx : CrsOk x) (h1 : 0 ≤ n) (h2 : n < hiX x - loX x + 1) : PC Tryz.prog 294 [.v (.int .i64 (n)), .pt (crsC x) 0, .pt [.v (.int .i64 (loX x))] 0] (.v (.bool (decide (0 < slopeI x (loX x + n))))) := by
 have hx0 := hx
 obtain ⟨a1, a2, b1, b2, c1, c2, d1, d2, e1, e2, f1, f2⟩ := hx0
 have hl : -100000 ≤ loX x ∧ hiX x ≤ 100000 := by unfold loX hiX; omega
 refine pc_of_awp Tryz.func294 rfl Tryz.ntmps294 (rs := [.tmp 4]) Tryz.results294 (by simp) fun w0 => ?_
 refine awp_seq ?_
 refine awp_region 1 mixed (by kernel_rfl) ?_
 refine rg_q (q_assign (x := .d (.v _)) rfl) ?_
 refine rg_nil (aops_nil ?_)
 change Awp _ _ _ _ _
 refine awp_seq ?_
 refine awp_region 7 mixed (by kernel_rfl) ?_
 refine rg_q (q_loadA (ds := [_, _, _, _, _, _]) sz366 rfl rfl rfl) ?_
 refine rg_q (q_load sz3 rfl rfl) (rg_q (q_move (x := .d (.v _)) rfl) ?_)
 refine rg_q (q_add rfl rfl (In64.mk (by omega) (by omega))) ?_
 refine rg_q (q_call en295 (.cons rfl (.cons rfl .nil)) rfl (slope_p _ _ hx (by omega) (by omega))) ?_
 refine rg_q (q_gtr rfl rfl) (rg_q (q_assign (x := .d (.v _)) rfl) ?_)
 refine rg_nil (aops_nil ?_)
 change Awp _ _ _ _ _
 refine awp_ret ?_
 refine ⟨_, (.cons (.tmp (by exact .d _)) .nil), ?_⟩
 rfl
set_option maxRecDepth 100000 in
theorem crossing_p (x : Crs) (hx : CrsOk x) : PC Tryz.prog 280 [.agg (crsC x)] (.v (.int .i64 (crossI x))) := by
 have hx0 := hx
 obtain ⟨a1, a2, b1, b2, c1, c2, d1, d2, e1, e2, f1, f2⟩ := hx0
 have hl : -100000 ≤ loX x ∧ loX x ≤ hiX x ∧ hiX x ≤ 100000 := by unfold loX hiX; omega
 have hs := cross_spec hx
 have hcr : crossI x = loX x - 1 + srch (fun n => decide (0 < slopeI x (loX x + n))) (hiX x - loX x + 1) := rfl
 refine pc_of_awpN Tryz.func280 rfl Tryz.ntmps280 (rs := [.tmp 2]) Tryz.results280 (by simp) fun w0 hmine hrnd hpn => ?_
 refine awp_seq ?_
 refine awp_region 2 mixed (by kernel_rfl) ?_
 refine rg_q (q_box rfl (by exact .inr ⟨_, rfl⟩)) ?_
 refine rg_q (q_assign (x := .d (.v _)) rfl) ?_
 refine rg_nil (aops_nil ?_)
 change Awp _ _ _ _ _
 refine awp_seq ?_
 refine awp_region 5 mixed (by kernel_rfl) ?_
 refine rg_q (q_loadA (ds := [_, _, _, _, _, _]) sz366 rfl rfl rfl) ?_
 refine rg_q (q_call en292 (.cons rfl .nil) rfl (ends_p _)) ?_
 refine rg_q (q_move (x := .d (.tup _)) rfl) (rg_q (q_extract rfl rfl) (rg_q (q_extract rfl rfl) ?_))
 refine rg_nil ?_
 refine aops_alloc zr3 rfl rfl rfl ?_
 refine aops_store sz3 rfl rfl (by exact .inl rfl) rfl rfl (by decide) rfl ?_
 refine aops_q rfl (q_assign (x := .d (.v _)) rfl) ?_
 refine aops_nil ?_
 change Awp _ _ _ _ _
 refine awp_seq ?_
 refine Awp.le (le_freeze 3 3 0 (cs := [.v (.int .i64 (loX x))]) rfl rfl rfl rfl hmine) ?_
 refine awp_region 10 mixed (by kernel_rfl) ?_
 refine rg_q (q_load sz3 rfl rfl) ?_
 refine rg_q (q_sub rfl rfl (In64.mk (by omega) (by omega))) ?_
 refine rg_q (q_move (x := .d (.v _)) rfl) (rg_q (q_load sz3 rfl rfl) ?_)
 refine rg_q (q_sub rfl rfl (In64.mk (by omega) (by omega))) ?_
 refine rg_q (q_add rfl rfl (In64.mk (by omega) (by omega))) ?_
 refine rg_q (q_makeFunc (.cons rfl (.cons rfl .nil))) ?_
 refine rg_q (q_call en293 (.cons rfl (.cons rfl .nil)) rfl (search_p (fun n => decide (0 < slopeI x (loX x + n))) 294 [.pt (crsC x) 0, .pt [.v (.int .i64 (loX x))] 0] en294 (hiX x - loX x + 1) (by omega) (fun h a b => cross1_p x h hx a b))) ?_
 refine rg_q (q_add rfl rfl (In64.mk (by omega) (by omega))) ?_
 refine rg_q (q_assign (x := .d (.v _)) rfl) ?_
 refine rg_nil (aops_nil ?_)
 change Awp _ _ _ _ _
 refine awp_ret ?_
 refine ⟨_, (.cons (.tmp (by exact .d _)) .nil), ?_⟩
 rfl

structure TimIn (r : Rg) : Prop where
  a : 0 ≤ r.1
  b : r.1 ≤ 20000000000
  c : 0 ≤ r.2
  d : r.2 ≤ 20000000000
theorem tim_in {r : Rg} {v : Int} (hr : LenIn r) (h1 : 500 ≤ v) : 0 ≤ (timI r v).1 ∧ (timI r v).1 ≤ 8000000000 ∧ 0 ≤ (timI r v).2 ∧ (timI r v).2 ≤ 8000000000 := by
  obtain ⟨a, b, c, d, e⟩ := hr
  have hv : 0 < v := by omega
  have k : ∀ n : Int, 0 ≤ n → n ≤ 400000000 → 0 ≤ n * 10000 / v ∧ n * 10000 / v ≤ 8000000000 := fun n h0 h2 => by
    refine ⟨Int.ediv_nonneg (by omega) (by omega), ?_⟩
    have := Int.ediv_le_ediv hv (show n * 10000 ≤ 8000000000 * v by omega)
    rwa [Int.mul_ediv_cancel _ (by omega)] at this
  have k2 : ∀ n : Int, 0 ≤ n → n ≤ 400000000 → 0 ≤ ceilI (n * 10000) v ∧ ceilI (n * 10000) v ≤ 8000000000 := fun n h0 h2 => by
    unfold ceilI
    constructor
    · have := Int.ediv_le_ediv hv (show -(n * 10000) ≤ 0 by omega)
      rw [Int.zero_ediv] at this; omega
    · have := Int.ediv_le_ediv hv (show (-8000000000) * v ≤ -(n * 10000) by omega)
      rw [Int.mul_ediv_cancel _ (by omega)] at this; omega
  unfold timI
  exact ⟨(k _ a b).1, (k _ a b).2, (k2 _ c d).1, (k2 _ c d).2⟩
theorem timeAt_in {x : Crs} {t : Int} (hx : CrsOk x) (h1 : -100000 ≤ t) (h2 : t ≤ 100000) : TimIn (timeAtI x t) := by
  obtain ⟨a1, a2, b1, b2, c1, c2, d1, d2, e1, e2, f1, f2⟩ := hx
  obtain ⟨p1, p2, p3, p4⟩ := tim_in (len_in (x := t - x.x1) (z := x.h1) (by omega) (by omega) (by omega) (by omega)) e1
  obtain ⟨q1, q2, q3, q4⟩ := tim_in (len_in (x := x.x2 - t) (z := x.h2) (by omega) (by omega) (by omega) (by omega)) f1
  unfold timeAtI
  exact ⟨by simp only; omega, by simp only; omega, by simp only; omega, by simp only; omega⟩
set_option maxRecDepth 100000 in
theorem timeAt_p (x : Crs) (t : Int) (hx : CrsOk x) (h1 : -100000 ≤ t) (h2 : t ≤ 100000) : PC Tryz.prog 281 [.agg (crsC x), .v (.int .i64 (t))] (.agg [.v (.int .i64 ((timeAtI x t).1)), .v (.int .i64 ((timeAtI x t).2))]) := by
 obtain ⟨a1, a2, b1, b2, c1, c2, d1, d2, e1, e2, f1, f2⟩ := hx
 have l1 := len_in (x := t - x.x1) (z := x.h1) (by omega) (by omega) (by omega) (by omega)
 have l2 := len_in (x := x.x2 - t) (z := x.h2) (by omega) (by omega) (by omega) (by omega)
 obtain ⟨p1, p2, p3, p4⟩ := tim_in l1 e1
 obtain ⟨q1, q2, q3, q4⟩ := tim_in l2 f1
 refine pc_of_awp Tryz.func281 rfl Tryz.ntmps281 (rs := [.cell 4 56]) Tryz.results281 (by simp) fun w0 => ?_
 refine awp_seq ?_
 refine awp_region 1 mixed (by kernel_rfl) ?_
 refine rg_q (q_box rfl (by exact .inr ⟨_, rfl⟩)) ?_
 refine rg_nil ?_
 refine aops_alloc zr56 rfl rfl rfl ?_
 refine aops_nil ?_
 change Awp _ _ _ _ _
 refine awp_seq ?_
 refine awp_region 27 mixed (by kernel_rfl) ?_
 refine rg_q (q_move (x := .d (.v _)) rfl) (rg_q (q_fieldAddr fld366_0 rfl) (rg_q (q_fieldAddr fld364_0 rfl) (rg_q (q_load sz3 rfl rfl) ?_)))
 refine rg_q (q_sub rfl rfl (In64.mk (by omega) (by omega))) ?_
 refine rg_q (q_fieldAddr fld366_0 rfl) (rg_q (q_fieldAddr fld364_1 rfl) (rg_q (q_load sz3 rfl rfl) ?_))
 refine rg_q (q_call en297 (.cons rfl (.cons rfl .nil)) rfl (length_p _ _ (by omega) (by omega) (by omega) (by omega))) ?_
 refine rg_q (q_fieldAddr fld366_0 rfl) (rg_q (q_fieldAddr fld364_2 rfl) (rg_q (q_load sz3 rfl rfl) ?_))
 refine rg_q (q_call en296 (.cons rfl (.cons rfl .nil)) rfl (time_p (lenI (t - x.x1) x.h1) x.v1 l1 e1)) ?_
 refine rg_q (q_fieldAddr fld366_0 rfl) (rg_q (q_fieldAddr fld364_3 rfl) (rg_q (q_load sz3 rfl rfl) (rg_q (q_move (x := .d (.v _)) rfl) ?_)))
 refine rg_q (q_sub rfl rfl (In64.mk (by omega) (by omega))) ?_
 refine rg_q (q_fieldAddr fld366_0 rfl) (rg_q (q_fieldAddr fld364_4 rfl) (rg_q (q_load sz3 rfl rfl) ?_))
 refine rg_q (q_call en297 (.cons rfl (.cons rfl .nil)) rfl (length_p _ _ (by omega) (by omega) (by omega) (by omega))) ?_
 refine rg_q (q_fieldAddr fld366_0 rfl) (rg_q (q_fieldAddr fld364_5 rfl) (rg_q (q_load sz3 rfl rfl) ?_))
 refine rg_q (q_call en296 (.cons rfl (.cons rfl .nil)) rfl (time_p (lenI (x.x2 - t) x.h2) x.v2 l2 f1)) ?_
 refine rg_q (q_call en269 (.cons rfl (.cons rfl .nil)) rfl (plus_p (timI (lenI (t - x.x1) x.h1) x.v1) (timI (lenI (x.x2 - t) x.h2) x.v2) (by omega) (by omega) (by omega) (by omega) (by omega) (by omega) (by omega) (by omega))) ?_
 refine rg_nil ?_
 refine aops_store sz56 rfl rfl (by exact .inr ⟨_, rfl⟩) rfl rfl (by decide) rfl ?_
 refine aops_nil ?_
 change Awp _ _ _ _ _
 refine awp_ret ?_
 refine ⟨_, (.cons (.cellA rfl rfl sz56 rfl) .nil), ?_⟩
 rfl

theorem up_in {n d : Int} (hn : 0 ≤ n) (hd : 0 < d) : 0 ≤ ceilI n d ∧ ceilI n d ≤ n := by
  unfold ceilI
  have h1 := Int.ediv_le_ediv hd (show -n ≤ 0 by omega)
  rw [Int.zero_ediv] at h1
  refine ⟨by omega, ?_⟩
  have h2 : (-n) ≤ (-n) / d := by
    rw [Int.le_ediv_iff_mul_le hd]
    have := Int.mul_le_mul_of_nonneg_left (show (1 : Int) ≤ d by omega) hn
    grind
  omega
theorem least_in {x : Crs} (hx : CrsOk x) : TimIn (leastI x) := by
  have hs := cross_spec hx
  have hx0 := hx
  obtain ⟨a1, a2, b1, b2, c1, c2, d1, d2, e1, e2, f1, f2⟩ := hx0
  have hl : -100000 ≤ loX x ∧ hiX x ≤ 100000 := by unfold loX hiX; omega
  obtain ⟨p1, p2, p3, p4⟩ := timeAt_in (t := crossI x) hx (by omega) (by omega)
  have u1 := up_in (n := 10000000) (d := x.v1 * x.h1) (by omega) (Int.mul_pos (by omega) (by omega))
  have u2 := up_in (n := 10000000) (d := x.v2 * x.h2) (by omega) (Int.mul_pos (by omega) (by omega))
  have h0 : 0 ≤ (least0 x).1 ∧ (least0 x).1 ≤ 20000000000 ∧ 0 ≤ (least0 x).2 ∧ (least0 x).2 ≤ 20000000000 := by
    unfold least0
    split
    · rename_i h
      simp [inR] at h
      obtain ⟨q1, q2, q3, q4⟩ := timeAt_in (t := crossI x + 1) hx (by omega) (by omega)
      simp only; omega
    · omega
  unfold leastI
  exact ⟨by simp only; omega, by simp only; omega, by simp only; omega, by simp only; omega⟩
set_option maxRecDepth 100000 in
theorem least_p (x : Crs) (hx : CrsOk x) : PC Tryz.prog 270 [.agg (crsC x)] (.agg [.v (.int .i64 ((leastI x).1)), .v (.int .i64 ((leastI x).2))]) := by
 have hs := cross_spec hx
 have hx0 := hx
 obtain ⟨a1, a2, b1, b2, c1, c2, d1, d2, e1, e2, f1, f2⟩ := hx0
 have hl : -100000 ≤ loX x ∧ hiX x ≤ 100000 := by unfold loX hiX; omega
 obtain ⟨p1, p2, p3, p4⟩ := timeAt_in (t := crossI x) hx (by omega) (by omega)
 have m1 := mulb (a := x.v1) (b := x.h1) (A := 10000) (B := 100000) (by omega) (by omega) (by omega) (by omega)
 have m2 := mulb (a := x.v2) (b := x.h2) (A := 10000) (B := 100000) (by omega) (by omega) (by omega) (by omega)
 have m3 := Int.mul_pos (show 0 < x.v1 by omega) (show 0 < x.h1 by omega)
 have m4 := Int.mul_pos (show 0 < x.v2 by omega) (show 0 < x.h2 by omega)
 have u1 := up_in (n := 10000000) (d := x.v1 * x.h1) (by omega) m3
 have u2 := up_in (n := 10000000) (d := x.v2 * x.h2) (by omega) m4
 refine pc_of_awp Tryz.func270 rfl Tryz.ntmps270 (rs := [.cell 2 56]) Tryz.results270 (by simp) fun w0 => ?_
 refine awp_seq ?_
 refine awp_region 1 mixed (by kernel_rfl) ?_
 refine rg_q (q_box rfl (by exact .inr ⟨_, rfl⟩)) ?_
 refine rg_nil ?_
 refine aops_alloc zr56 rfl rfl rfl ?_
 refine aops_nil ?_
 change Awp _ _ _ _ _
 refine awp_seq ?_
 refine awp_region 3 mixed (by kernel_rfl) ?_
 refine rg_q (q_loadA (ds := [_, _, _, _, _, _]) sz366 rfl rfl rfl) ?_
 refine rg_q (q_call en280 (.cons rfl .nil) rfl (crossing_p _ hx)) ?_
 refine rg_q (q_assign (x := .d (.v _)) rfl) ?_
 refine rg_nil (aops_nil ?_)
 change Awp _ _ _ _ _
 refine awp_seq ?_
 refine awp_region 3 mixed (by kernel_rfl) ?_
 refine rg_q (q_loadA (ds := [_, _, _, _, _, _]) sz366 rfl rfl rfl) ?_
 refine rg_q (q_move (x := .d (.v _)) rfl) ?_
 refine rg_q (q_call en281 (.cons rfl (.cons rfl .nil)) rfl (timeAt_p _ _ hx (by omega) (by omega))) ?_
 refine rg_nil ?_
 refine aops_alloc zr56 rfl rfl rfl ?_
 refine aops_store sz56 rfl rfl (by exact .inr ⟨_, rfl⟩) rfl rfl (by decide) rfl ?_
 refine aops_nil ?_
 change Awp _ _ _ _ _
 refine awp_seq ?_
 refine awp_seq ?_
 refine awp_region 4 mixed (by kernel_rfl) ?_
 refine rg_q (q_loadA (ds := [_, _, _, _, _, _]) sz366 rfl rfl rfl) ?_
 refine rg_q (q_move (x := .d (.v _)) rfl) ?_
 refine rg_q (q_add rfl rfl (In64.mk (by omega) (by omega))) ?_
 refine rg_q (q_call en282 (.cons rfl (.cons rfl .nil)) rfl (has_p _ _)) ?_
 refine rg_nil (aops_nil ?_)
 change Awp _ _ _ _ _
 refine awp_cond rfl (fun hc3 => ?_) (fun hc3 => ?_)
 ·
  (try simp only [nb, ne_eq] at hc3)
  have hz : least0 x = (min (timeAtI x (crossI x)).1 (timeAtI x (crossI x + 1)).1, min (timeAtI x (crossI x)).2 (timeAtI x (crossI x + 1)).2) := by unfold least0; rw [if_pos hc3]
  have hc3' := hc3
  simp [inR] at hc3'
  obtain ⟨q1, q2, q3, q4⟩ := timeAt_in (t := crossI x + 1) hx (by omega) (by omega)
  refine awp_seq ?_
  refine awp_region 4 mixed (by kernel_rfl) ?_
  refine rg_q (q_loadA (ds := [_, _, _, _, _, _]) sz366 rfl rfl rfl) ?_
  refine rg_q (q_move (x := .d (.v _)) rfl) ?_
  refine rg_q (q_add rfl rfl (In64.mk (by omega) (by omega))) ?_
  refine rg_q (q_call en281 (.cons rfl (.cons rfl .nil)) rfl (timeAt_p _ _ hx (by omega) (by omega))) ?_
  refine rg_nil ?_
  refine aops_alloc zr56 rfl rfl rfl ?_
  refine aops_store sz56 rfl rfl (by exact .inr ⟨_, rfl⟩) rfl rfl (by decide) rfl ?_
  refine aops_nil ?_
  change Awp _ _ _ _ _
  refine awp_region 11 mixed (by kernel_rfl) ?_
  refine rg_q (q_fieldAddr_ref fld56_0 rfl) (rg_q (q_load_ref sz3 rfl rfl rfl) (rg_q (q_fieldAddr_ref fld56_0 rfl) (rg_q (q_load_ref sz3 rfl rfl rfl) ?_)))
  refine rg_q (q_min rfl rfl) ?_
  refine rg_q (q_fieldAddr_ref fld56_1 rfl) (rg_q (q_load_ref sz3 rfl rfl rfl) (rg_q (q_fieldAddr_ref fld56_1 rfl) (rg_q (q_load_ref sz3 rfl rfl rfl) ?_)))
  refine rg_q (q_min rfl rfl) ?_
  refine rg_q (q_build (cs := [_, _]) pl56 zr56 rfl (.cons rfl (by exact .inl rfl) (.cons rfl (by exact .inl rfl) .nil)) ⟨⟨rfl, by decide⟩, ⟨rfl, by decide⟩, trivial⟩ rfl) ?_
  refine rg_nil ?_
  refine aops_store sz56 rfl rfl (by exact .inr ⟨_, rfl⟩) rfl rfl (by exact Nat.le_of_ble_eq_true rfl) rfl ?_
  refine aops_nil ?_
  change Awp _ _ _ _ _
  refine awp_seq ?_
  refine awp_region 22 mixed (by kernel_rfl) ?_
  refine rg_q (q_fieldAddr_ref fld56_0 rfl) (rg_q (q_load_ref sz3 rfl rfl rfl) (rg_q (q_fieldAddr fld366_0 rfl) (rg_q (q_fieldAddr fld364_2 rfl) (rg_q (q_load sz3 rfl rfl) (rg_q (q_fieldAddr fld366_0 rfl) ?_)))))
  refine rg_q (q_fieldAddr fld364_1 rfl) (rg_q (q_load sz3 rfl rfl) ?_)
  refine rg_q (q_mul rfl rfl (In64.mk (by omega) (by omega))) ?_
  refine rg_q (q_call en283 (.cons rfl (.cons rfl .nil)) rfl (up_p _ _ ⟨by omega, by omega⟩ (by omega))) ?_
  refine rg_q (q_sub rfl rfl (In64.mk (by omega) (by omega))) ?_
  refine rg_q (q_fieldAddr fld366_0 rfl) (rg_q (q_fieldAddr fld364_5 rfl) (rg_q (q_load sz3 rfl rfl) (rg_q (q_fieldAddr fld366_0 rfl) (rg_q (q_fieldAddr fld364_4 rfl) (rg_q (q_load sz3 rfl rfl) ?_)))))
  refine rg_q (q_mul rfl rfl (In64.mk (by omega) (by omega))) ?_
  refine rg_q (q_call en283 (.cons rfl (.cons rfl .nil)) rfl (up_p _ _ ⟨by omega, by omega⟩ (by omega))) ?_
  refine rg_q (q_sub rfl rfl (In64.mk (by omega) (by omega))) ?_
  refine rg_q (q_max rfl rfl) ?_
  refine rg_q (q_fieldAddr_ref fld56_0 rfl) ?_
  refine rg_nil ?_
  refine aops_store sz3 rfl rfl (by exact .inl rfl) rfl rfl (by exact Nat.le_of_ble_eq_true rfl) rfl ?_
  refine aops_nil ?_
  change Awp _ _ _ _ _
  refine awp_seq ?_
  refine awp_region 1 mixed (by kernel_rfl) ?_
  refine rg_q (q_load_refA (ds := [_, _]) sz56 rfl rfl rfl rfl) ?_
  refine rg_nil ?_
  refine aops_store sz56 rfl rfl (by exact .inr ⟨_, rfl⟩) rfl rfl (by decide) rfl ?_
  refine aops_nil ?_
  change Awp _ _ _ _ _
  refine awp_ret ?_
  refine ⟨_, (.cons (.cellA rfl rfl sz56 rfl) .nil), ?_⟩
  unfold leastI; rw [hz]; rfl
 ·
  (try simp only [nb, ne_eq] at hc3)
  have hz : least0 x = timeAtI x (crossI x) := by unfold least0; rw [if_neg (by simpa using hc3)]
  refine awp_skip ?_
  change Awp _ _ _ _ _
  refine awp_seq ?_
  refine awp_region 22 mixed (by kernel_rfl) ?_
  refine rg_q (q_fieldAddr_ref fld56_0 rfl) (rg_q (q_load_ref sz3 rfl rfl rfl) (rg_q (q_fieldAddr fld366_0 rfl) (rg_q (q_fieldAddr fld364_2 rfl) (rg_q (q_load sz3 rfl rfl) (rg_q (q_fieldAddr fld366_0 rfl) ?_)))))
  refine rg_q (q_fieldAddr fld364_1 rfl) (rg_q (q_load sz3 rfl rfl) ?_)
  refine rg_q (q_mul rfl rfl (In64.mk (by omega) (by omega))) ?_
  refine rg_q (q_call en283 (.cons rfl (.cons rfl .nil)) rfl (up_p _ _ ⟨by omega, by omega⟩ (by omega))) ?_
  refine rg_q (q_sub rfl rfl (In64.mk (by omega) (by omega))) ?_
  refine rg_q (q_fieldAddr fld366_0 rfl) (rg_q (q_fieldAddr fld364_5 rfl) (rg_q (q_load sz3 rfl rfl) (rg_q (q_fieldAddr fld366_0 rfl) (rg_q (q_fieldAddr fld364_4 rfl) (rg_q (q_load sz3 rfl rfl) ?_)))))
  refine rg_q (q_mul rfl rfl (In64.mk (by omega) (by omega))) ?_
  refine rg_q (q_call en283 (.cons rfl (.cons rfl .nil)) rfl (up_p _ _ ⟨by omega, by omega⟩ (by omega))) ?_
  refine rg_q (q_sub rfl rfl (In64.mk (by omega) (by omega))) ?_
  refine rg_q (q_max rfl rfl) ?_
  refine rg_q (q_fieldAddr_ref fld56_0 rfl) ?_
  refine rg_nil ?_
  refine aops_store sz3 rfl rfl (by exact .inl rfl) rfl rfl (by exact Nat.le_of_ble_eq_true rfl) rfl ?_
  refine aops_nil ?_
  change Awp _ _ _ _ _
  refine awp_seq ?_
  refine awp_region 1 mixed (by kernel_rfl) ?_
  refine rg_q (q_load_refA (ds := [_, _]) sz56 rfl rfl rfl rfl) ?_
  refine rg_nil ?_
  refine aops_store sz56 rfl rfl (by exact .inr ⟨_, rfl⟩) rfl rfl (by decide) rfl ?_
  refine aops_nil ?_
  change Awp _ _ _ _ _
  refine awp_ret ?_
  refine ⟨_, (.cons (.cellA rfl rfl sz56 rfl) .nil), ?_⟩
  unfold leastI; rw [hz]; rfl
end Go.Proofs.YtphlaicnmmglhaaGreat.Am.M
