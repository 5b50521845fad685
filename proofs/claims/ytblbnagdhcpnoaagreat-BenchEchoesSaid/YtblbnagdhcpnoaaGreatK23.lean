/- Contracts over the abstract machine: BenchTraces, BenchEchoes. Conditions: none. -/
import Derived.Test.YtblbnagdhcpnoaaGreatK22
set_option linter.unusedVariables false
set_option linter.unusedSimpArgs false
-- mini
namespace Go.Proofs.YtblbnagdhcpnoaaGreat.Am.M
open Go

def trB (s : Spc) (pr : Int × Int) : List Nat := if (ckSpc s).2 ≠ 0 ∨ pairE s.ar.el.length pr ≠ 0 ∨ (smT s.ar s.pl pr (ptsS s) (ptsS s).length).any bigB = true then List.replicate 64 0 else (smT s.ar s.pl pr (ptsS s) (ptsS s).length).map FloatKind.f32.nearest
theorem trB_len (s : Spc) (pr : Int × Int) : (trB s pr).length = 64 := by
  unfold trB
  split
  · rfl
  · rw [List.length_map, smT_len]
theorem tcR_bits (s : Spc) (pr : Int × Int) : (tcR s pr).1 = (trB s pr).map fd := by
  unfold tcR trB
  by_cases h1 : (ckSpc s).2 ≠ 0
  · rw [if_pos h1, if_pos (.inl h1)]; rfl
  · rw [if_neg h1]
    by_cases h2 : pairE s.ar.el.length pr ≠ 0
    · rw [if_pos h2, if_pos (.inr (.inl h2))]; rfl
    · rw [if_neg h2]
      unfold trcR
      by_cases h3 : (smT s.ar s.pl pr (ptsS s) (ptsS s).length).any bigB = true
      · rw [if_pos h3, if_pos (.inr (.inr h3))]; rfl
      · rw [if_neg h3, if_neg (fun q => q.elim h1 fun q => q.elim h2 h3), List.map_map]; rfl
theorem tcR_trc {s : Spc} {pr : Int × Int} (h1 : (ckSpc s).2 = 0) (h2 : pairE s.ar.el.length pr = 0) : tcR s pr = trcR s (ptsS s) pr := by
  unfold tcR; rw [if_neg (fun q => q h1), if_neg (fun q => q h2)]
set_option maxRecDepth 100000 in
theorem benchTraces_p (s : Spc) (pr : Int × Int) : PC Tryz.prog 3 [.agg (spcC s), .agg (shC pr)] (.v (.bool (true))) := by
  have hlb : ((trB s pr).map fd).length = 64 := by rw [List.length_map, trB_len]
  refine pc_of_awpN Tryz.func3 rfl Tryz.ntmps3 (rs := [.tmp 4]) Tryz.results3 (by simp) fun w0 hmine hrnd hpn => ?_
  refine awp_seq ?_
  refine awp_region 3 mixed (by kernel_rfl) ?_
  refine rg_q (q_box rfl (by exact .inr ⟨_, rfl⟩)) ?_
  refine rg_q (q_box rfl (by exact .inr ⟨_, rfl⟩)) ?_
  refine rg_q (q_assign (x := .d (.v _)) rfl) ?_
  refine rg_nil ?_
  refine aops_nil ?_
  change Awp _ _ _ _ _
  refine awp_seq ?_
  refine awp_seq ?_
  refine awp_region 2 mixed (by kernel_rfl) ?_
  refine rg_q (q_call en9 .nil rfl (awake_p)) ?_
  refine rg_q (q_not rfl) ?_
  refine rg_nil ?_
  refine aops_nil ?_
  change Awp _ _ _ _ _
  refine awp_cond rfl (fun hc1 => ?_) (fun hc1 => ?_)
  ·
    simp at hc1
  ·
    (try simp only [decide_eq_true_eq, decide_eq_false_iff_not, Bool.and_eq_true, Bool.or_eq_true, Bool.and_eq_false_iff, Bool.or_eq_false_iff, Bool.not_eq_true', Bool.not_eq_false', Bool.not_true, Bool.not_false, bif_and, bif_or, Bool.not_not, ne_eq, Decidable.not_not, not_true_eq_false, not_false_eq_true, Int.not_le, Int.not_lt] at hc1)
    refine awp_skip ?_
    change Awp _ _ _ _ _
    refine awp_seq ?_
    refine awp_seq ?_
    refine awp_region 3 mixed (by kernel_rfl) ?_
    refine rg_q (q_loadA sz32 rfl rfl rfl) ?_
    refine rg_q (q_call en10 (.cons rfl .nil) rfl (slight_p _)) ?_
    refine rg_q (q_not rfl) ?_
    refine rg_nil ?_
    refine aops_nil ?_
    change Awp _ _ _ _ _
    refine awp_cond rfl (fun hc3 => ?_) (fun hc3 => ?_)
    ·
      (try simp only [decide_eq_true_eq, decide_eq_false_iff_not, Bool.and_eq_true, Bool.or_eq_true, Bool.and_eq_false_iff, Bool.or_eq_false_iff, Bool.not_eq_true', Bool.not_eq_false', Bool.not_true, Bool.not_false, bif_and, bif_or, Bool.not_not, ne_eq, Decidable.not_not, not_true_eq_false, not_false_eq_true, Int.not_le, Int.not_lt] at hc3)
      refine awp_seq ?_
      refine awp_region 1 mixed (by kernel_rfl) ?_
      refine rg_q (q_assign (x := .d (.v _)) rfl) ?_
      refine rg_nil ?_
      refine aops_nil ?_
      change Awp _ _ _ _ _
      refine awp_ret ?_
      refine ⟨_, (.cons (.tmp (by exact .d _)) .nil), ?_⟩
      rfl
    ·
      (try simp only [decide_eq_true_eq, decide_eq_false_iff_not, Bool.and_eq_true, Bool.or_eq_true, Bool.and_eq_false_iff, Bool.or_eq_false_iff, Bool.not_eq_true', Bool.not_eq_false', Bool.not_true, Bool.not_false, bif_and, bif_or, Bool.not_not, ne_eq, Decidable.not_not, not_true_eq_false, not_false_eq_true, Int.not_le, Int.not_lt] at hc3)
      have hfw : sliB s = true := by simpa using hc3
      obtain ⟨l1, l2, l3⟩ := sli_le hfw
      refine awp_skip ?_
      change Awp _ _ _ _ _
      refine awp_seq ?_
      refine awp_regionM 10 [none, none, none, none, none, none, none, some 5, some 5, none] mixed (by kernel_rfl) ?_
      refine rgm_q rfl (q_loadA sz32 rfl rfl rfl) ?_
      refine rgm_q rfl (q_call en12 (.cons rfl .nil) rfl (copySpc_p s (by omega) (by omega) (by omega))) ?_
      refine rgm_q rfl (q_loadA (ds := [_, _]) sz33 rfl rfl rfl) ?_
      refine rgm_q rfl (q_call en11 (.cons rfl (.cons rfl .nil)) rfl ((by have h := traceOfS_p s pr; rw [tcR_bits] at h; exact h))) ?_
      refine rgm_q rfl (q_move (x := .d (.tup _)) rfl) ?_
      refine rgm_q rfl (q_extract rfl rfl) ?_
      refine rgm_q rfl (q_extract rfl rfl) ?_
      refine rgm_m (k := 5) rfl rfl (by rfl) (m_alloc zr38 rfl rfl) ?_
      refine rgm_m (k := 5) rfl rfl (by rfl) (m_store (cs' := (trB s pr).map fd) sz38 rfl rfl (by exact .inr ⟨_, rfl⟩) hlb rfl (Nat.le_of_ble_eq_true rfl) (setCs_all hlb)) ?_
      refine rgm_q rfl (q_assign (x := .d (.v _)) rfl) ?_
      refine rgm_nil ?_
      refine aops_nil ?_
      change Awp _ _ _ _ _
      refine awp_seq ?_
      refine awp_region 3 mixed (by kernel_rfl) ?_
      refine rg_q (q_loadA sz32 rfl rfl rfl) ?_
      refine rg_q (q_call en13 (.cons rfl .nil) rfl (specimenErr_p _)) ?_
      refine rg_q (q_assign (x := .d (.v _)) rfl) ?_
      refine rg_nil ?_
      refine aops_nil ?_
      change Awp _ _ _ _ _
      refine awp_seq ?_
      refine awp_seq ?_
      refine awp_region 2 mixed (by kernel_rfl) ?_
      refine rg_q (q_move (x := .d (.v _)) rfl) ?_
      refine rg_q (q_eql rfl rfl) ?_
      refine rg_nil ?_
      refine aops_nil ?_
      change Awp _ _ _ _ _
      refine awp_cond rfl (fun hc7 => ?_) (fun hc7 => ?_)
      ·
        (try simp only [decide_eq_true_eq, decide_eq_false_iff_not, Bool.and_eq_true, Bool.or_eq_true, Bool.and_eq_false_iff, Bool.or_eq_false_iff, Bool.not_eq_true', Bool.not_eq_false', Bool.not_true, Bool.not_false, bif_and, bif_or, Bool.not_not, ne_eq, Decidable.not_not, not_true_eq_false, not_false_eq_true, Int.not_le, Int.not_lt] at hc7)
        have h0 : (ckSpc s).2 = 0 := hc7
        have hsp := spc_ok h0
        refine awp_region 5 mixed (by kernel_rfl) ?_
        refine rg_q (q_fieldAddr fld32_0 rfl) ?_
        refine rg_q (q_loadA (ds := [_, _, _, _, _, _, _, _, _, _, _]) sz28 rfl rfl rfl) ?_
        refine rg_q (q_loadA (ds := [_, _]) sz33 rfl rfl rfl) ?_
        refine rg_q (q_call en14 (.cons rfl (.cons rfl .nil)) rfl (rpairErr_p s.ar pr (by omega))) ?_
        refine rg_q (q_assign (x := .d (.v _)) rfl) ?_
        refine rg_nil ?_
        refine aops_nil ?_
        change Awp _ _ _ _ _
        refine awp_seq ?_
        refine awp_region 0 mixed (by kernel_rfl) ?_
        refine rg_nil ?_
        refine aops_alloc zr38 rfl rfl rfl ?_
        refine aops_nil ?_
        change Awp _ _ _ _ _
        refine awp_seq ?_
        refine awp_seq ?_
        refine awp_region 2 mixed (by kernel_rfl) ?_
        refine rg_q (q_move (x := .d (.v _)) rfl) ?_
        refine rg_q (q_eql rfl rfl) ?_
        refine rg_nil ?_
        refine aops_nil ?_
        change Awp _ _ _ _ _
        refine awp_cond rfl (fun hc10 => ?_) (fun hc10 => ?_)
        ·
          (try simp only [decide_eq_true_eq, decide_eq_false_iff_not, Bool.and_eq_true, Bool.or_eq_true, Bool.and_eq_false_iff, Bool.or_eq_false_iff, Bool.not_eq_true', Bool.not_eq_false', Bool.not_true, Bool.not_false, bif_and, bif_or, Bool.not_not, ne_eq, Decidable.not_not, not_true_eq_false, not_false_eq_true, Int.not_le, Int.not_lt] at hc10)
          have h1 : pairE s.ar.el.length pr = 0 := hc10
          have hpk := pair_ok h1
          have htc := tcR_trc h0 h1
          have hbt : (trcR s (ptsS s) pr).1 = (trB s pr).map fd := by rw [← htc]; exact tcR_bits s pr
          have hz : (tcR s pr).2 = (trcR s (ptsS s) pr).2 := by rw [htc]
          refine awp_region 6 mixed (by kernel_rfl) ?_
          refine rg_q (q_loadA sz32 rfl rfl rfl) ?_
          refine rg_q (q_loadA (ds := [_, _]) sz33 rfl rfl rfl) ?_
          refine rg_q (q_call en15 (.cons rfl (.cons rfl .nil)) rfl ((by have h := rtraceOf_p s pr h0 hpk; rw [hbt] at h; exact h))) ?_
          refine rg_q (q_move (x := .d (.tup _)) rfl) ?_
          refine rg_q (q_extract rfl rfl) ?_
          refine rg_q (q_extract rfl rfl) ?_
          refine rg_nil ?_
          refine aops_store (cs' := (trB s pr).map fd) sz38 rfl rfl (by exact .inr ⟨_, rfl⟩) hlb rfl (Nat.le_of_ble_eq_true rfl) (setCs_all hlb) ?_
          refine aops_q rfl (q_assign (x := .d (.v _)) rfl) ?_
          refine aops_nil ?_
          change Awp _ _ _ _ _
          refine awp_seq ?_
          refine awp_region 9 mixed (by kernel_rfl) ?_
          refine rg_q (q_move (x := .d (.v _)) rfl) ?_
          refine rg_q (q_move (x := .d (.v _)) rfl) ?_
          refine rg_q (q_eql rfl rfl) ?_
          refine rg_q (q_move (x := .d (.v _)) rfl) ?_
          refine rg_g rfl rfl (fun hG => (q_load_refA (ds := (trB s pr).map fd) sz38 rfl rfl (by rw [List.drop_zero]; exact List.take_of_length_le (by rw [hlb]; exact Nat.le_refl _)) hlb)) ?_
          refine rg_g rfl rfl (fun hG => (q_load_refA (ds := (trB s pr).map fd) sz38 rfl rfl (by (rw [List.drop_zero]; exact List.take_of_length_le (by rw [hlb]; exact Nat.le_refl _))) hlb)) ?_
          refine rg_g rfl rfl (fun hG => (q_call en16 (.cons rfl (.cons rfl .nil)) rfl (sameTrace_p (trB s pr) (trB s pr) (trB_len _ _) (trB_len _ _)))) ?_
          refine rg_pick rfl rfl rfl rfl rfl rfl ?_
          refine rg_q (q_assign (x := .d (.v _)) rfl) ?_
          refine rg_nil ?_
          refine aops_nil ?_
          change Awp _ _ _ _ _
          refine awp_ret ?_
          refine ⟨_, (.cons (.tmp (by exact .d _)) .nil), ?_⟩
          rw [hz]; simp [retD]
        ·
          (try simp only [decide_eq_true_eq, decide_eq_false_iff_not, Bool.and_eq_true, Bool.or_eq_true, Bool.and_eq_false_iff, Bool.or_eq_false_iff, Bool.not_eq_true', Bool.not_eq_false', Bool.not_true, Bool.not_false, bif_and, bif_or, Bool.not_not, ne_eq, Decidable.not_not, not_true_eq_false, not_false_eq_true, Int.not_le, Int.not_lt] at hc10)
          have h1 : pairE s.ar.el.length pr ≠ 0 := hc10
          have hzb : trB s pr = List.replicate 64 0 := by unfold trB; rw [if_pos (.inr (.inl h1))]
          have hz : (tcR s pr).2 = pairE s.ar.el.length pr := by unfold tcR; rw [if_neg (fun q => q h0), if_pos h1]
          refine awp_skip ?_
          change Awp _ _ _ _ _
          refine awp_seq ?_
          refine awp_region 9 mixed (by kernel_rfl) ?_
          refine rg_q (q_move (x := .d (.v _)) rfl) ?_
          refine rg_q (q_move (x := .d (.v _)) rfl) ?_
          refine rg_q (q_eql rfl rfl) ?_
          refine rg_q (q_move (x := .d (.v _)) rfl) ?_
          refine rg_g rfl rfl (fun hG => (q_load_refA (ds := (trB s pr).map fd) sz38 rfl rfl (by rw [List.drop_zero]; exact List.take_of_length_le (by rw [hlb]; exact Nat.le_refl _)) hlb)) ?_
          refine rg_g rfl rfl (fun hG => (q_load_refA (ds := (trB s pr).map fd) sz38 rfl rfl (by (rw [hzb]; rfl)) hlb)) ?_
          refine rg_g rfl rfl (fun hG => (q_call en16 (.cons rfl (.cons rfl .nil)) rfl (sameTrace_p (trB s pr) (trB s pr) (trB_len _ _) (trB_len _ _)))) ?_
          refine rg_pick rfl rfl rfl rfl rfl rfl ?_
          refine rg_q (q_assign (x := .d (.v _)) rfl) ?_
          refine rg_nil ?_
          refine aops_nil ?_
          change Awp _ _ _ _ _
          refine awp_ret ?_
          refine ⟨_, (.cons (.tmp (by exact .d _)) .nil), ?_⟩
          rw [hz]; simp [retD]
      ·
        (try simp only [decide_eq_true_eq, decide_eq_false_iff_not, Bool.and_eq_true, Bool.or_eq_true, Bool.and_eq_false_iff, Bool.or_eq_false_iff, Bool.not_eq_true', Bool.not_eq_false', Bool.not_true, Bool.not_false, bif_and, bif_or, Bool.not_not, ne_eq, Decidable.not_not, not_true_eq_false, not_false_eq_true, Int.not_le, Int.not_lt] at hc7)
        have h0 : (ckSpc s).2 ≠ 0 := hc7
        have hzb : trB s pr = List.replicate 64 0 := by unfold trB; rw [if_pos (.inl h0)]
        have hz : (tcR s pr).2 = (ckSpc s).2 := by unfold tcR; rw [if_pos h0]
        refine awp_skip ?_
        change Awp _ _ _ _ _
        refine awp_seq ?_
        refine awp_region 0 mixed (by kernel_rfl) ?_
        refine rg_nil ?_
        refine aops_alloc zr38 rfl rfl rfl ?_
        refine aops_nil ?_
        change Awp _ _ _ _ _
        refine awp_seq ?_
        refine awp_seq ?_
        refine awp_region 2 mixed (by kernel_rfl) ?_
        refine rg_q (q_move (x := .d (.v _)) rfl) ?_
        refine rg_q (q_eql rfl rfl) ?_
        refine rg_nil ?_
        refine aops_nil ?_
        change Awp _ _ _ _ _
        refine awp_cond rfl (fun hc10 => ?_) (fun hc10 => ?_)
        ·
          exact absurd (of_decide_eq_true hc10) h0
        ·
          (try simp only [decide_eq_true_eq, decide_eq_false_iff_not, Bool.and_eq_true, Bool.or_eq_true, Bool.and_eq_false_iff, Bool.or_eq_false_iff, Bool.not_eq_true', Bool.not_eq_false', Bool.not_true, Bool.not_false, bif_and, bif_or, Bool.not_not, ne_eq, Decidable.not_not, not_true_eq_false, not_false_eq_true, Int.not_le, Int.not_lt] at hc10)
          refine awp_skip ?_
          change Awp _ _ _ _ _
          refine awp_seq ?_
          refine awp_region 9 mixed (by kernel_rfl) ?_
          refine rg_q (q_move (x := .d (.v _)) rfl) ?_
          refine rg_q (q_move (x := .d (.v _)) rfl) ?_
          refine rg_q (q_eql rfl rfl) ?_
          refine rg_q (q_move (x := .d (.v _)) rfl) ?_
          refine rg_g rfl rfl (fun hG => (q_load_refA (ds := (trB s pr).map fd) sz38 rfl rfl (by rw [List.drop_zero]; exact List.take_of_length_le (by rw [hlb]; exact Nat.le_refl _)) hlb)) ?_
          refine rg_g rfl rfl (fun hG => (q_load_refA (ds := (trB s pr).map fd) sz38 rfl rfl (by (rw [hzb]; rfl)) hlb)) ?_
          refine rg_g rfl rfl (fun hG => (q_call en16 (.cons rfl (.cons rfl .nil)) rfl (sameTrace_p (trB s pr) (trB s pr) (trB_len _ _) (trB_len _ _)))) ?_
          refine rg_pick rfl rfl rfl rfl rfl rfl ?_
          refine rg_q (q_assign (x := .d (.v _)) rfl) ?_
          refine rg_nil ?_
          refine aops_nil ?_
          change Awp _ _ _ _ _
          refine awp_ret ?_
          refine ⟨_, (.cons (.tmp (by exact .d _)) .nil), ?_⟩
          rw [hz]; simp [retD]

theorem len_le (x z : Int) : (lenI x z).1 ≤ (lenI x z).2 := by unfold lenI; simp only; split <;> omega
theorem tim_le {r : Rg} {v : Int} (h : r.1 ≤ r.2) (hv : 0 < v) : (timI r v).1 ≤ (timI r v).2 := by
  unfold timI ceilI
  simp only
  have h1 := Int.ediv_le_ediv hv (show r.1 * 10000 ≤ r.2 * 10000 by omega)
  have e1 : r.2 * 10000 / v * v ≤ r.2 * 10000 := Int.ediv_mul_le _ (by omega)
  have e2 : (-(r.2 * 10000)) / v * v ≤ -(r.2 * 10000) := Int.ediv_mul_le _ (by omega)
  have e3 : r.2 * 10000 / v * v ≤ (-((-(r.2 * 10000)) / v)) * v := by rw [Int.neg_mul]; omega
  have := Int.le_of_mul_le_mul_right e3 hv
  omega
theorem timeAt_le {x : Crs} (hx : CrsOk x) (t : Int) : (timeAtI x t).1 ≤ (timeAtI x t).2 := by
  have h1 := tim_le (len_le (t - x.x1) x.h1) (show 0 < x.v1 by have := hx.e1; omega)
  have h2 := tim_le (len_le (x.x2 - t) x.h2) (show 0 < x.v2 by have := hx.f1; omega)
  unfold timeAtI
  simp only
  omega
theorem least_le {x : Crs} (hx : CrsOk x) : (leastI x).1 ≤ (leastI x).2 := by
  have h0 : (least0 x).1 ≤ (least0 x).2 := by
    have h1 := timeAt_le hx (crossI x)
    have h2 := timeAt_le hx (crossI x + 1)
    unfold least0
    split
    · simp only; omega
    · exact h1
  have h3 := (least_in hx).c
  have u1 := (up_in (n := 10000000) (d := x.v1 * x.h1) (by omega) (Int.mul_pos (by have := hx.e1; omega) (by have := hx.c1; omega))).1
  have u2 := (up_in (n := 10000000) (d := x.v2 * x.h2) (by omega) (Int.mul_pos (by have := hx.f1; omega) (by have := hx.d1; omega))).1
  unfold leastI at h3 ⊢
  simp only at h3 ⊢
  omega
theorem lt_le (m : Md) (a b : Int × Int) : (ltI m a b).1.1 ≤ (ltI m a b).1.2 := by
  unfold ltI
  split
  · exact Int.le_refl _
  · rename_i h
    obtain ⟨hm, hw, e⟩ := opn_ok (Decidable.not_not.1 h)
    rw [e]
    exact least_le (way_law hm hw).2
theorem ech_btw (a : Arr) (t p : Int × Int) : (erI a t p).1 ≤ echI a t p ∧ echI a t p ≤ (erI a t p).2 := by
  have h1 := lt_le a.ou (elAt a p.1) t
  have h2 := lt_le a.ba (elAt a p.2) t
  unfold erI echI rtI
  simp only
  omega
def echC (m n : Md) (a t b : Int × Int) : List D := mdC m ++ mdC n ++ shC a ++ shC t ++ shC b
set_option maxRecDepth 100000 in
theorem echoTime_p (m n : Md) (a t b : Int × Int) (hm : MdOk m) (hn : MdOk n) (hw1 : wayE m a t = 0) (hw2 : wayE n b t = 0) : PC Tryz.prog 67 [.agg (echC m n a t b)] (.tup [.agg [.v (.int .i64 ((ltI m a t).1.1 + (ltI n b t).1.1)), .v (.int .i64 ((ltI m a t).1.2 + (ltI n b t).1.2))], .v (.int .i64 (0))]) := by
  have hfe : firstE [modeE m, modeE n] = 0 := first_zero.2 (by intro x hx; simp only [List.mem_cons, List.not_mem_nil, or_false] at hx; rcases hx with q | q; (rw [q]; exact mode_ok.2 hm); (rw [q]; exact mode_ok.2 hn))
  have hz1 := (way_law hm hw1).1
  have hz2 := (way_law hn hw2).1
  have hcx1 := (way_law hm hw1).2
  have hcx2 := (way_law hn hw2).2
  have hl1 := lt_is hm hw1
  have hl2 := lt_is hn hw2
  have li1 := least_in hcx1
  have li2 := least_in hcx2
  obtain ⟨a1, a2, a3, a4⟩ := li1
  obtain ⟨b1, b2, b3, b4⟩ := li2
  have f1 : (wayI m a t).2 = 0 := by rw [hz1]
  have f2 : (wayI n b t).2 = 0 := by rw [hz2]
  refine pc_of_awpN Tryz.func67 rfl Tryz.ntmps67 (rs := [.cell 2 71, .tmp 3]) Tryz.results67 (by simp) fun w0 hmine hrnd hpn => ?_
  refine awp_seq ?_
  refine awp_region 1 mixed (by kernel_rfl) ?_
  refine rg_q (q_box rfl (by exact .inr ⟨_, rfl⟩)) ?_
  refine rg_nil ?_
  refine aops_alloc zr71 rfl rfl rfl ?_
  refine aops_q rfl (q_assign (x := .d (.v _)) rfl) ?_
  refine aops_nil ?_
  change Awp _ _ _ _ _
  refine awp_seq ?_
  refine awp_seq ?_
  refine awp_region 9 mixed (by kernel_rfl) ?_
  refine rg_q (q_fieldAddr fld131_0 rfl) ?_
  refine rg_q (q_loadA (ds := [_, _, _, _]) sz24 rfl rfl rfl) ?_
  refine rg_q (q_call en98 (.cons rfl .nil) rfl (checkMode_p m)) ?_
  refine rg_q (q_fieldAddr fld131_1 rfl) ?_
  refine rg_q (q_loadA (ds := [_, _, _, _]) sz24 rfl rfl rfl) ?_
  refine rg_q (q_call en98 (.cons rfl .nil) rfl (checkMode_p n)) ?_
  refine rg_q (q_buildSlice sl146 zr39 rfl rfl (by decide) (.cons rfl (by exact .inl rfl) (.cons rfl (by exact .inl rfl) .nil)) ⟨rfl, rfl, rfl, rfl, trivial⟩ rfl (by decide) rfl) ?_
  refine rg_q (q_call en97 (.cons rfl .nil) rfl (rfirst_p [_, _])) ?_
  refine rg_q (q_assign (x := .d (.v _)) rfl) ?_
  refine rg_nil ?_
  refine aops_nil ?_
  change Awp _ _ _ _ _
  refine awp_seq ?_
  refine awp_region 2 mixed (by kernel_rfl) ?_
  refine rg_q (q_move (x := .d (.v _)) rfl) ?_
  refine rg_q (q_neq rfl rfl) ?_
  refine rg_nil ?_
  refine aops_nil ?_
  change Awp _ _ _ _ _
  refine awp_cond rfl (fun hc2 => ?_) (fun hc2 => ?_)
  ·
    exact absurd hfe (of_decide_eq_true hc2)
  ·
    (try simp only [decide_eq_true_eq, decide_eq_false_iff_not, Bool.and_eq_true, Bool.or_eq_true, Bool.and_eq_false_iff, Bool.or_eq_false_iff, Bool.not_eq_true', Bool.not_eq_false', Bool.not_true, Bool.not_false, bif_and, bif_or, Bool.not_not, ne_eq, Decidable.not_not, not_true_eq_false, not_false_eq_true, Int.not_le, Int.not_lt] at hc2)
    refine awp_skip ?_
    change Awp _ _ _ _ _
    refine awp_seq ?_
    refine awp_region 10 mixed (by kernel_rfl) ?_
    refine rg_q (q_fieldAddr fld131_0 rfl) ?_
    refine rg_q (q_loadA (ds := [_, _, _, _]) sz24 rfl rfl rfl) ?_
    refine rg_q (q_fieldAddr fld131_2 rfl) ?_
    refine rg_q (q_loadA (ds := [_, _]) sz50 rfl rfl rfl) ?_
    refine rg_q (q_fieldAddr fld131_3 rfl) ?_
    refine rg_q (q_loadA (ds := [_, _]) sz50 rfl rfl rfl) ?_
    refine rg_q (q_call en99 (.cons rfl (.cons rfl (.cons rfl .nil))) rfl (way_p m a t hm)) ?_
    refine rg_q (q_move (x := .d (.tup _)) rfl) ?_
    refine rg_q (q_extract rfl rfl) ?_
    refine rg_q (q_extract rfl rfl) ?_
    refine rg_nil ?_
    refine aops_alloc zr167 rfl rfl rfl ?_
    refine aops_store sz167 rfl rfl (by exact .inr ⟨_, rfl⟩) rfl rfl (by decide) rfl ?_
    refine aops_q rfl (q_assign (x := .d (.v _)) rfl) ?_
    refine aops_nil ?_
    change Awp _ _ _ _ _
    refine awp_seq ?_
    refine awp_seq ?_
    refine awp_region 2 mixed (by kernel_rfl) ?_
    refine rg_q (q_move (x := .d (.v _)) rfl) ?_
    refine rg_q (q_neq rfl rfl) ?_
    refine rg_nil ?_
    refine aops_nil ?_
    change Awp _ _ _ _ _
    refine awp_cond rfl (fun hc5 => ?_) (fun hc5 => ?_)
    ·
      exact absurd f1 (of_decide_eq_true hc5)
    ·
      (try simp only [decide_eq_true_eq, decide_eq_false_iff_not, Bool.and_eq_true, Bool.or_eq_true, Bool.and_eq_false_iff, Bool.or_eq_false_iff, Bool.not_eq_true', Bool.not_eq_false', Bool.not_true, Bool.not_false, bif_and, bif_or, Bool.not_not, ne_eq, Decidable.not_not, not_true_eq_false, not_false_eq_true, Int.not_le, Int.not_lt] at hc5)
      refine awp_skip ?_
      change Awp _ _ _ _ _
      refine awp_seq ?_
      refine awp_region 10 mixed (by kernel_rfl) ?_
      refine rg_q (q_fieldAddr fld131_1 rfl) ?_
      refine rg_q (q_loadA (ds := [_, _, _, _]) sz24 rfl rfl rfl) ?_
      refine rg_q (q_fieldAddr fld131_4 rfl) ?_
      refine rg_q (q_loadA (ds := [_, _]) sz50 rfl rfl rfl) ?_
      refine rg_q (q_fieldAddr fld131_3 rfl) ?_
      refine rg_q (q_loadA (ds := [_, _]) sz50 rfl rfl rfl) ?_
      refine rg_q (q_call en99 (.cons rfl (.cons rfl (.cons rfl .nil))) rfl (way_p n b t hn)) ?_
      refine rg_q (q_move (x := .d (.tup _)) rfl) ?_
      refine rg_q (q_extract rfl rfl) ?_
      refine rg_q (q_extract rfl rfl) ?_
      refine rg_nil ?_
      refine aops_alloc zr167 rfl rfl rfl ?_
      refine aops_store sz167 rfl rfl (by exact .inr ⟨_, rfl⟩) rfl rfl (by decide) rfl ?_
      refine aops_q rfl (q_assign (x := .d (.v _)) rfl) ?_
      refine aops_nil ?_
      change Awp _ _ _ _ _
      refine awp_seq ?_
      refine awp_seq ?_
      refine awp_region 2 mixed (by kernel_rfl) ?_
      refine rg_q (q_move (x := .d (.v _)) rfl) ?_
      refine rg_q (q_neq rfl rfl) ?_
      refine rg_nil ?_
      refine aops_nil ?_
      change Awp _ _ _ _ _
      refine awp_cond rfl (fun hc8 => ?_) (fun hc8 => ?_)
      ·
        exact absurd f2 (of_decide_eq_true hc8)
      ·
        (try simp only [decide_eq_true_eq, decide_eq_false_iff_not, Bool.and_eq_true, Bool.or_eq_true, Bool.and_eq_false_iff, Bool.or_eq_false_iff, Bool.not_eq_true', Bool.not_eq_false', Bool.not_true, Bool.not_false, bif_and, bif_or, Bool.not_not, ne_eq, Decidable.not_not, not_true_eq_false, not_false_eq_true, Int.not_le, Int.not_lt] at hc8)
        refine awp_skip ?_
        change Awp _ _ _ _ _
        refine awp_seq ?_
        refine awp_region 5 mixed (by kernel_rfl) ?_
        refine rg_q (q_load_refA (ds := [_, _, _, _, _, _]) sz167 rfl rfl rfl rfl) ?_
        refine rg_q (q_call en101 (.cons rfl .nil) rfl (least_p (wayI m a t).1 hcx1)) ?_
        refine rg_q (q_load_refA (ds := [_, _, _, _, _, _]) sz167 rfl rfl rfl rfl) ?_
        refine rg_q (q_call en101 (.cons rfl .nil) rfl (least_p (wayI n b t).1 hcx2)) ?_
        refine rg_q (q_call en100 (.cons rfl (.cons rfl .nil)) rfl (plus_p (leastI (wayI m a t).1) (leastI (wayI n b t).1) (by omega) (by omega) (by omega) (by omega) (by omega) (by omega) (by omega) (by omega))) ?_
        refine rg_nil ?_
        refine aops_store sz71 rfl rfl (by exact .inr ⟨_, rfl⟩) rfl rfl (by decide) rfl ?_
        refine aops_q rfl (q_assign (x := .d (.v _)) rfl) ?_
        refine aops_nil ?_
        change Awp _ _ _ _ _
        refine awp_ret ?_
        refine ⟨_, (.cons (.cellA rfl rfl sz71 rfl) (.cons (.tmp (by exact .d _)) .nil)), ?_⟩
        rw [hl1, hl2]; rfl

def erR (a : Arr) (t p : Int × Int) : Rg × Int := if opE a t p ≠ 0 then ((0, 0), opE a t p) else (erI a t p, 0)
theorem opE_is (a : Arr) (t p : Int × Int) : opE a t p = if (ckArr a).2 ≠ 0 then (ckArr a).2 else if firstE [spotE t, plateE t.2 a.ou.t] ≠ 0 then firstE [spotE t, plateE t.2 a.ou.t] else pairE a.el.length p := by
  unfold opE
  by_cases h1 : (ckArr a).2 ≠ 0
  · rw [if_pos h1, if_pos h1]
  · rw [if_neg h1, if_neg h1]
    by_cases h2 : spotE t = 0
    · by_cases h3 : plateE t.2 a.ou.t = 0
      · by_cases h4 : pairE a.el.length p = 0
        · simp [firstE, h2, h3, h4]
        · simp [firstE, h2, h3, h4]
      · simp [firstE, h2, h3]
    · simp [firstE, h2]
set_option maxRecDepth 100000 in
theorem echoRange_p (a : Arr) (t p : Int × Int) : PC Tryz.prog 27 [.agg (arrC a), .agg (shC t), .agg (shC p)] (.tup [.agg [.v (.int .i64 (((erR a t p).1).1)), .v (.int .i64 (((erR a t p).1).2))], .v (.int .i64 ((erR a t p).2))]) := by
  refine pc_of_awpN Tryz.func27 rfl Tryz.ntmps27 (rs := [.cell 6 71, .tmp 7]) Tryz.results27 (by simp) fun w0 hmine hrnd hpn => ?_
  refine awp_seq ?_
  refine awp_region 3 mixed (by kernel_rfl) ?_
  refine rg_q (q_box rfl (by exact .inr ⟨_, rfl⟩)) ?_
  refine rg_q (q_box rfl (by exact .inr ⟨_, rfl⟩)) ?_
  refine rg_q (q_box rfl (by exact .inr ⟨_, rfl⟩)) ?_
  refine rg_nil ?_
  refine aops_alloc zr71 rfl rfl rfl ?_
  refine aops_q rfl (q_assign (x := .d (.v _)) rfl) ?_
  refine aops_nil ?_
  change Awp _ _ _ _ _
  refine awp_seq ?_
  refine awp_seq ?_
  refine awp_region 7 mixed (by kernel_rfl) ?_
  refine rg_q (q_loadA (ds := [_, _, _, _, _, _, _, _, _, _, _]) sz28 rfl rfl rfl) ?_
  refine rg_q (q_loadA (ds := [_, _]) sz50 rfl rfl rfl) ?_
  refine rg_q (q_loadA (ds := [_, _]) sz33 rfl rfl rfl) ?_
  refine rg_q (q_call en64 (.cons rfl (.cons rfl (.cons rfl .nil))) rfl (bopen_p _ _ _)) ?_
  refine rg_q (q_move (x := .d (.tup _)) rfl) ?_
  refine rg_q (q_extract rfl rfl) ?_
  refine rg_q (q_extract rfl rfl) ?_
  refine rg_nil ?_
  refine aops_alloc zr100 rfl rfl rfl ?_
  refine aops_store sz100 rfl rfl (by exact .inr ⟨_, rfl⟩) rfl rfl (by decide) rfl ?_
  refine aops_q rfl (q_assign (x := .d (.v _)) rfl) ?_
  refine aops_nil ?_
  change Awp _ _ _ _ _
  refine awp_seq ?_
  refine awp_region 2 mixed (by kernel_rfl) ?_
  refine rg_q (q_move (x := .d (.v _)) rfl) ?_
  refine rg_q (q_neq rfl rfl) ?_
  refine rg_nil ?_
  refine aops_nil ?_
  change Awp _ _ _ _ _
  refine awp_cond rfl (fun hc2 => ?_) (fun hc2 => ?_)
  ·
    (try simp only [decide_eq_true_eq, decide_eq_false_iff_not, Bool.and_eq_true, Bool.or_eq_true, Bool.and_eq_false_iff, Bool.or_eq_false_iff, Bool.not_eq_true', Bool.not_eq_false', Bool.not_true, Bool.not_false, bif_and, bif_or, Bool.not_not, ne_eq, Decidable.not_not, not_true_eq_false, not_false_eq_true, Int.not_le, Int.not_lt] at hc2)
    have hz : erR a t p = ((0, 0), opE a t p) := by unfold erR; rw [if_pos hc2]
    refine awp_seq ?_
    refine awp_region 2 mixed (by kernel_rfl) ?_
    refine rg_q (q_build (cs := [_, _]) pl71 zr71 rfl .nil trivial rfl) ?_
    refine rg_q (q_move (x := .d (.v _)) rfl) ?_
    refine rg_nil ?_
    refine aops_store sz71 rfl rfl (by exact .inr ⟨_, rfl⟩) rfl rfl (by decide) rfl ?_
    refine aops_q rfl (q_assign (x := .d (.v _)) rfl) ?_
    refine aops_nil ?_
    change Awp _ _ _ _ _
    refine awp_ret ?_
    refine ⟨_, (.cons (.cellA rfl rfl sz71 rfl) (.cons (.tmp (by exact .d _)) .nil)), ?_⟩
    rw [hz]; rfl
  ·
    (try simp only [decide_eq_true_eq, decide_eq_false_iff_not, Bool.and_eq_true, Bool.or_eq_true, Bool.and_eq_false_iff, Bool.or_eq_false_iff, Bool.not_eq_true', Bool.not_eq_false', Bool.not_true, Bool.not_false, bif_and, bif_or, Bool.not_not, ne_eq, Decidable.not_not, not_true_eq_false, not_false_eq_true, Int.not_le, Int.not_lt] at hc2)
    have ho : opE a t p = 0 := by simpa using hc2
    obtain ⟨hok, hpk, hs, hp⟩ := op_ok ho
    have hz : erR a t p = (erI a t p, 0) := by unfold erR; rw [if_neg (by rw [ho]; simp)]
    obtain ⟨⟨p1, p2⟩, p3, p4⟩ := hpk
    have hx := el_at p1 p2
    have hy := el_at p3 p4
    have hw1 := way_of hok p1 p2 hs hp (m := a.ou) rfl
    have hw2 := way_of hok p3 p4 hs hp (m := a.ba) hok.th.symm
    have e1 : ((p.1.toNat : Nat) : Int) = p.1 := by omega
    have e2 : ((p.2.toNat : Nat) : Int) = p.2 := by omega
    refine awp_skip ?_
    change Awp _ _ _ _ _
    refine awp_seq ?_
    refine awp_region 21 mixed (by kernel_rfl) ?_
    refine rg_q (q_fieldAddr fld28_1 rfl) ?_
    refine rg_q (q_loadA (ds := [_, _, _, _]) sz24 rfl rfl rfl) ?_
    refine rg_q (q_fieldAddr fld28_2 rfl) ?_
    refine rg_q (q_loadA (ds := [_, _, _, _]) sz24 rfl rfl rfl) ?_
    refine rg_q (q_fieldAddr fld28_0 rfl) ?_
    refine rg_q (q_load sz22 rfl rfl) ?_
    refine rg_q (q_indexAddr_ar ar33 rfl rfl (by omega) (by omega)) ?_
    refine rg_q (q_load sz3 rfl rfl) ?_
    refine rg_q (q_indexAddr sl22 rfl rfl (by omega) (map_at (k := p.1.toNat) (by omega) hx)) ?_
    refine rg_q (q_loadA (ds := [_, _]) sz50 rfl rfl rfl) ?_
    refine rg_q (q_loadA (ds := [_, _]) sz50 rfl rfl rfl) ?_
    refine rg_q (q_fieldAddr fld28_0 rfl) ?_
    refine rg_q (q_load sz22 rfl rfl) ?_
    refine rg_q (q_indexAddr_ar ar33 rfl rfl (by omega) (by omega)) ?_
    refine rg_q (q_load sz3 rfl rfl) ?_
    refine rg_q (q_indexAddr sl22 rfl rfl (by omega) (map_at (k := p.2.toNat) (by omega) hy)) ?_
    refine rg_q (q_loadA (ds := [_, _]) sz50 rfl rfl rfl) ?_
    refine rg_q (q_build pl131 zr131 rfl (.cons rfl (by exact .inr ⟨_, rfl⟩) (.cons rfl (by exact .inr ⟨_, rfl⟩) (.cons rfl (by exact .inr ⟨_, rfl⟩) (.cons rfl (by exact .inr ⟨_, rfl⟩) (.cons rfl (by exact .inr ⟨_, rfl⟩) .nil))))) ⟨⟨rfl, by decide⟩, ⟨rfl, by decide⟩, ⟨rfl, by decide⟩, ⟨rfl, by decide⟩, ⟨rfl, by decide⟩, trivial⟩ rfl) ?_
    refine rg_q (q_call en67 (.cons rfl .nil) rfl (echoTime_p a.ou a.ba (elAt a p.1) t (elAt a p.2) hok.ou hok.ba hw1 hw2)) ?_
    refine rg_q (q_extract rfl rfl) ?_
    refine rg_q (q_extract rfl rfl) ?_
    refine rg_nil ?_
    refine aops_store sz71 rfl rfl (by exact .inr ⟨_, rfl⟩) rfl rfl (by decide) rfl ?_
    refine aops_q rfl (q_assign (x := .d (.v _)) rfl) ?_
    refine aops_nil ?_
    change Awp _ _ _ _ _
    refine awp_ret ?_
    refine ⟨_, (.cons (.cellA rfl rfl sz71 rfl) (.cons (.tmp (by exact .d _)) .nil)), ?_⟩
    rw [hz]; rfl
set_option maxRecDepth 100000 in
theorem benchEchoes_p (a : Arr) (t p : Int × Int) : PC Tryz.prog 6 [.agg (arrC a), .agg (shC t), .agg (shC p)] (.v (.bool (true))) := by
  refine pc_of_awpN Tryz.func6 rfl Tryz.ntmps6 (rs := [.tmp 6]) Tryz.results6 (by simp) fun w0 hmine hrnd hpn => ?_
  refine awp_seq ?_
  refine awp_region 4 mixed (by kernel_rfl) ?_
  refine rg_q (q_box rfl (by exact .inr ⟨_, rfl⟩)) ?_
  refine rg_q (q_box rfl (by exact .inr ⟨_, rfl⟩)) ?_
  refine rg_q (q_box rfl (by exact .inr ⟨_, rfl⟩)) ?_
  refine rg_q (q_assign (x := .d (.v _)) rfl) ?_
  refine rg_nil ?_
  refine aops_nil ?_
  change Awp _ _ _ _ _
  refine awp_seq ?_
  refine awp_seq ?_
  refine awp_region 2 mixed (by kernel_rfl) ?_
  refine rg_q (q_call en9 .nil rfl (awake_p)) ?_
  refine rg_q (q_not rfl) ?_
  refine rg_nil ?_
  refine aops_nil ?_
  change Awp _ _ _ _ _
  refine awp_cond rfl (fun hc1 => ?_) (fun hc1 => ?_)
  ·
    simp at hc1
  ·
    (try simp only [decide_eq_true_eq, decide_eq_false_iff_not, Bool.and_eq_true, Bool.or_eq_true, Bool.and_eq_false_iff, Bool.or_eq_false_iff, Bool.not_eq_true', Bool.not_eq_false', Bool.not_true, Bool.not_false, bif_and, bif_or, Bool.not_not, ne_eq, Decidable.not_not, not_true_eq_false, not_false_eq_true, Int.not_le, Int.not_lt] at hc1)
    refine awp_skip ?_
    change Awp _ _ _ _ _
    refine awp_seq ?_
    refine awp_seq ?_
    refine awp_region 3 mixed (by kernel_rfl) ?_
    refine rg_q (q_loadA (ds := [_, _, _, _, _, _, _, _, _, _, _]) sz28 rfl rfl rfl) ?_
    refine rg_q (q_call en24 (.cons rfl .nil) rfl (few_p _)) ?_
    refine rg_q (q_not rfl) ?_
    refine rg_nil ?_
    refine aops_nil ?_
    change Awp _ _ _ _ _
    refine awp_cond rfl (fun hc3 => ?_) (fun hc3 => ?_)
    ·
      (try simp only [decide_eq_true_eq, decide_eq_false_iff_not, Bool.and_eq_true, Bool.or_eq_true, Bool.and_eq_false_iff, Bool.or_eq_false_iff, Bool.not_eq_true', Bool.not_eq_false', Bool.not_true, Bool.not_false, bif_and, bif_or, Bool.not_not, ne_eq, Decidable.not_not, not_true_eq_false, not_false_eq_true, Int.not_le, Int.not_lt] at hc3)
      refine awp_seq ?_
      refine awp_region 1 mixed (by kernel_rfl) ?_
      refine rg_q (q_assign (x := .d (.v _)) rfl) ?_
      refine rg_nil ?_
      refine aops_nil ?_
      change Awp _ _ _ _ _
      refine awp_ret ?_
      refine ⟨_, (.cons (.tmp (by exact .d _)) .nil), ?_⟩
      rfl
    ·
      (try simp only [decide_eq_true_eq, decide_eq_false_iff_not, Bool.and_eq_true, Bool.or_eq_true, Bool.and_eq_false_iff, Bool.or_eq_false_iff, Bool.not_eq_true', Bool.not_eq_false', Bool.not_true, Bool.not_false, bif_and, bif_or, Bool.not_not, ne_eq, Decidable.not_not, not_true_eq_false, not_false_eq_true, Int.not_le, Int.not_lt] at hc3)
      have hfw : fewB a.el.length = true := by simpa using hc3
      have hl18 := few_le hfw
      refine awp_skip ?_
      change Awp _ _ _ _ _
      refine awp_seq ?_
      refine awp_region 10 mixed (by kernel_rfl) ?_
      refine rg_q (q_loadA (ds := [_, _, _, _, _, _, _, _, _, _, _]) sz28 rfl rfl rfl) ?_
      refine rg_q (q_call en26 (.cons rfl .nil) rfl (copyArr_p a (by omega))) ?_
      refine rg_q (q_loadA (ds := [_, _]) sz50 rfl rfl rfl) ?_
      refine rg_q (q_loadA (ds := [_, _]) sz33 rfl rfl rfl) ?_
      refine rg_q (q_call en25 (.cons rfl (.cons rfl (.cons rfl .nil))) rfl (echoAt_p a t p)) ?_
      refine rg_q (q_move (x := .d (.tup _)) rfl) ?_
      refine rg_q (q_extract rfl rfl) ?_
      refine rg_q (q_extract rfl rfl) ?_
      refine rg_q (q_assign (x := .d (.v _)) rfl) ?_
      refine rg_q (q_assign (x := .d (.v _)) rfl) ?_
      refine rg_nil ?_
      refine aops_nil ?_
      change Awp _ _ _ _ _
      refine awp_seq ?_
      refine awp_regionM 11 [none, none, none, none, none, none, none, none, some 9, some 9, none] mixed (by kernel_rfl) ?_
      refine rgm_q rfl (q_loadA (ds := [_, _, _, _, _, _, _, _, _, _, _]) sz28 rfl rfl rfl) ?_
      refine rgm_q rfl (q_call en26 (.cons rfl .nil) rfl (copyArr_p a (by omega))) ?_
      refine rgm_q rfl (q_loadA (ds := [_, _]) sz50 rfl rfl rfl) ?_
      refine rgm_q rfl (q_loadA (ds := [_, _]) sz33 rfl rfl rfl) ?_
      refine rgm_q rfl (q_call en27 (.cons rfl (.cons rfl (.cons rfl .nil))) rfl (echoRange_p a t p)) ?_
      refine rgm_q rfl (q_move (x := .d (.tup _)) rfl) ?_
      refine rgm_q rfl (q_extract rfl rfl) ?_
      refine rgm_q rfl (q_extract rfl rfl) ?_
      refine rgm_m (k := 9) rfl rfl (by rfl) (m_alloc zr71 rfl rfl) ?_
      refine rgm_m (k := 9) rfl rfl (by rfl) (m_store sz71 rfl rfl (by exact .inr ⟨_, rfl⟩) rfl rfl (by decide) rfl) ?_
      refine rgm_q rfl (q_assign (x := .d (.v _)) rfl) ?_
      refine rgm_nil ?_
      refine aops_nil ?_
      change Awp _ _ _ _ _
      refine awp_seq ?_
      refine awp_region 10 mixed (by kernel_rfl) ?_
      refine rg_q (q_loadA (ds := [_, _, _, _, _, _, _, _, _, _, _]) sz28 rfl rfl rfl) ?_
      refine rg_q (q_call en26 (.cons rfl .nil) rfl (copyArr_p a (by omega))) ?_
      refine rg_q (q_loadA (ds := [_, _]) sz50 rfl rfl rfl) ?_
      refine rg_q (q_loadA (ds := [_, _]) sz33 rfl rfl rfl) ?_
      refine rg_q (q_call en28 (.cons rfl (.cons rfl (.cons rfl .nil))) rfl (sampleOf_p a t p)) ?_
      refine rg_q (q_move (x := .d (.tup _)) rfl) ?_
      refine rg_q (q_extract rfl rfl) ?_
      refine rg_q (q_extract rfl rfl) ?_
      refine rg_q (q_assign (x := .d (.v _)) rfl) ?_
      refine rg_q (q_assign (x := .d (.v _)) rfl) ?_
      refine rg_nil ?_
      refine aops_nil ?_
      change Awp _ _ _ _ _
      refine awp_seq ?_
      refine awp_region 3 mixed (by kernel_rfl) ?_
      refine rg_q (q_loadA (ds := [_, _, _, _, _, _, _, _, _, _, _]) sz28 rfl rfl rfl) ?_
      refine rg_q (q_call en29 (.cons rfl .nil) rfl (arrayErr_p _)) ?_
      refine rg_q (q_assign (x := .d (.v _)) rfl) ?_
      refine rg_nil ?_
      refine aops_nil ?_
      change Awp _ _ _ _ _
      refine awp_seq ?_
      refine awp_seq ?_
      refine awp_region 2 mixed (by kernel_rfl) ?_
      refine rg_q (q_move (x := .d (.v _)) rfl) ?_
      refine rg_q (q_eql rfl rfl) ?_
      refine rg_nil ?_
      refine aops_nil ?_
      change Awp _ _ _ _ _
      refine awp_cond rfl (fun hc9 => ?_) (fun hc9 => ?_)
      ·
        (try simp only [decide_eq_true_eq, decide_eq_false_iff_not, Bool.and_eq_true, Bool.or_eq_true, Bool.and_eq_false_iff, Bool.or_eq_false_iff, Bool.not_eq_true', Bool.not_eq_false', Bool.not_true, Bool.not_false, bif_and, bif_or, Bool.not_not, ne_eq, Decidable.not_not, not_true_eq_false, not_false_eq_true, Int.not_le, Int.not_lt] at hc9)
        have hb1 : (ckArr a).2 = 0 := hc9
        have hok := (ckArr_ok hb1).1
        have ht1 := hok.ou.t1
        have ht2 := hok.ou.t2
        refine awp_region 4 mixed (by kernel_rfl) ?_
        refine rg_q (q_loadA (ds := [_, _, _, _, _, _, _, _, _, _, _]) sz28 rfl rfl rfl) ?_
        refine rg_q (q_loadA (ds := [_, _]) sz50 rfl rfl rfl) ?_
        refine rg_q (q_call en18 (.cons rfl (.cons rfl .nil)) rfl (rplaceErr_p a t ht1 ht2)) ?_
        refine rg_q (q_assign (x := .d (.v _)) rfl) ?_
        refine rg_nil ?_
        refine aops_nil ?_
        change Awp _ _ _ _ _
        refine awp_seq ?_
        refine awp_seq ?_
        refine awp_region 2 mixed (by kernel_rfl) ?_
        refine rg_q (q_move (x := .d (.v _)) rfl) ?_
        refine rg_q (q_eql rfl rfl) ?_
        refine rg_nil ?_
        refine aops_nil ?_
        change Awp _ _ _ _ _
        refine awp_cond rfl (fun hc11 => ?_) (fun hc11 => ?_)
        ·
          (try simp only [decide_eq_true_eq, decide_eq_false_iff_not, Bool.and_eq_true, Bool.or_eq_true, Bool.and_eq_false_iff, Bool.or_eq_false_iff, Bool.not_eq_true', Bool.not_eq_false', Bool.not_true, Bool.not_false, bif_and, bif_or, Bool.not_not, ne_eq, Decidable.not_not, not_true_eq_false, not_false_eq_true, Int.not_le, Int.not_lt] at hc11)
          have hb2 : firstE [spotE t, plateE t.2 a.ou.t] = 0 := hc11
          refine awp_region 4 mixed (by kernel_rfl) ?_
          refine rg_q (q_loadA (ds := [_, _, _, _, _, _, _, _, _, _, _]) sz28 rfl rfl rfl) ?_
          refine rg_q (q_loadA (ds := [_, _]) sz33 rfl rfl rfl) ?_
          refine rg_q (q_call en14 (.cons rfl (.cons rfl .nil)) rfl (rpairErr_p a p (by omega))) ?_
          refine rg_q (q_assign (x := .d (.v _)) rfl) ?_
          refine rg_nil ?_
          refine aops_nil ?_
          change Awp _ _ _ _ _
          refine awp_seq ?_
          refine awp_seq ?_
          refine awp_region 2 mixed (by kernel_rfl) ?_
          refine rg_q (q_move (x := .d (.v _)) rfl) ?_
          refine rg_q (q_neq rfl rfl) ?_
          refine rg_nil ?_
          refine aops_nil ?_
          change Awp _ _ _ _ _
          refine awp_cond rfl (fun hc13 => ?_) (fun hc13 => ?_)
          ·
            (try simp only [decide_eq_true_eq, decide_eq_false_iff_not, Bool.and_eq_true, Bool.or_eq_true, Bool.and_eq_false_iff, Bool.or_eq_false_iff, Bool.not_eq_true', Bool.not_eq_false', Bool.not_true, Bool.not_false, bif_and, bif_or, Bool.not_not, ne_eq, Decidable.not_not, not_true_eq_false, not_false_eq_true, Int.not_le, Int.not_lt] at hc13)
            have hb3 : pairE a.el.length p ≠ 0 := hc13
            have ho : opE a t p = pairE a.el.length p := by rw [opE_is]; rw [if_neg (fun q => q hb1), if_neg (fun q => q hb2)]
            have hn0 : opE a t p ≠ 0 := by rw [ho]; exact hb3
            have z1 : echR a t p = (0, opE a t p) := by unfold echR; rw [if_pos hn0]
            have z2 : erR a t p = ((0, 0), opE a t p) := by unfold erR; rw [if_pos hn0]
            have z3 : smpR a t p = (0, opE a t p) := by unfold smpR; rw [if_pos hn0]
            rw [z1, z2, z3, ho] at *
            refine awp_seq ?_
            refine awp_region 27 mixed (by kernel_rfl) ?_
            refine rg_q (q_move (x := .d (.v _)) rfl) ?_
            refine rg_q (q_move (x := .d (.v _)) rfl) ?_
            refine rg_q (q_eql rfl rfl) ?_
            refine rg_q (q_move (x := .d (.v _)) rfl) ?_
            refine rg_g rfl rfl (fun hG => (q_move (x := .d (.v _)) rfl)) ?_
            refine rg_g rfl rfl (fun hG => (q_move (x := .d (.v _)) rfl)) ?_
            refine rg_g rfl rfl (fun hG => (q_eql rfl rfl)) ?_
            refine rg_pick rfl rfl rfl rfl rfl rfl ?_
            refine rg_q (q_move (x := .d (.v _)) rfl) ?_
            refine rg_g rfl rfl (fun hG => (q_move (x := .d (.v _)) rfl)) ?_
            refine rg_g rfl rfl (fun hG => (q_move (x := .d (.v _)) rfl)) ?_
            refine rg_g rfl rfl (fun hG => (q_eql rfl rfl)) ?_
            refine rg_pick rfl rfl rfl rfl rfl rfl ?_
            refine rg_q (q_move (x := .d (.v _)) rfl) ?_
            refine rg_g rfl rfl (fun hG => (q_move (x := .d (.v _)) rfl)) ?_
            refine rg_g rfl rfl (fun hG => (q_eql rfl rfl)) ?_
            refine rg_pick rfl rfl rfl rfl rfl rfl ?_
            refine rg_q (q_move (x := .d (.v _)) rfl) ?_
            refine rg_g rfl rfl (fun hG => (q_load_refA (ds := [_, _]) sz71 rfl rfl rfl rfl)) ?_
            refine rg_g rfl rfl (fun hG => (q_build (cs := [_, _]) pl71 zr71 rfl .nil trivial rfl)) ?_
            refine rg_g rfl rfl (fun hG => (q_eqlI (xs := [_, _]) (ys := [_, _]) eqi71 rfl rfl rfl rfl)) ?_
            refine rg_pick rfl rfl rfl rfl rfl rfl ?_
            refine rg_q (q_move (x := .d (.v _)) rfl) ?_
            refine rg_g rfl rfl (fun hG => (q_move (x := .d (.v _)) rfl)) ?_
            refine rg_g rfl rfl (fun hG => (q_eql rfl rfl)) ?_
            refine rg_pick rfl rfl rfl rfl rfl rfl ?_
            refine rg_q (q_assign (x := .d (.v _)) rfl) ?_
            refine rg_nil ?_
            refine aops_nil ?_
            change Awp _ _ _ _ _
            refine awp_ret ?_
            refine ⟨_, (.cons (.tmp (by exact .d _)) .nil), ?_⟩
            simp [retD]
          ·
            (try simp only [decide_eq_true_eq, decide_eq_false_iff_not, Bool.and_eq_true, Bool.or_eq_true, Bool.and_eq_false_iff, Bool.or_eq_false_iff, Bool.not_eq_true', Bool.not_eq_false', Bool.not_true, Bool.not_false, bif_and, bif_or, Bool.not_not, ne_eq, Decidable.not_not, not_true_eq_false, not_false_eq_true, Int.not_le, Int.not_lt] at hc13)
            have hb3 : pairE a.el.length p = 0 := by omega
            have ho : opE a t p = 0 := by rw [opE_is, if_neg (fun q => q hb1), if_neg (fun q => q hb2), hb3]
            obtain ⟨_, hpk, hs, hp⟩ := op_ok ho
            have z1 : echR a t p = (echI a t p, 0) := by unfold echR; rw [if_neg (fun q => q ho)]
            have z2 : erR a t p = (erI a t p, 0) := by unfold erR; rw [if_neg (fun q => q ho)]
            have z3 : smpR a t p = (smpI a t p, 0) := by unfold smpR; rw [if_neg (fun q => q ho)]
            obtain ⟨w1, w2⟩ := ech_btw a t p
            rw [z1, z2, z3] at *
            refine awp_skip ?_
            change Awp _ _ _ _ _
            refine awp_seq ?_
            refine awp_region 43 mixed (by kernel_rfl) ?_
            refine rg_q (q_move (x := .d (.v _)) rfl) ?_
            refine rg_q (q_eql rfl rfl) ?_
            refine rg_q (q_move (x := .d (.v _)) rfl) ?_
            refine rg_g rfl rfl (fun hG => (q_move (x := .d (.v _)) rfl)) ?_
            refine rg_g rfl rfl (fun hG => (q_loadA (ds := [_, _, _, _, _, _, _, _, _, _, _]) sz28 rfl rfl rfl)) ?_
            refine rg_g rfl rfl (fun hG => (q_loadA (ds := [_, _]) sz50 rfl rfl rfl)) ?_
            refine rg_g rfl rfl (fun hG => (q_loadA (ds := [_, _]) sz33 rfl rfl rfl)) ?_
            refine rg_g rfl rfl (fun hG => (q_call en30 (.cons rfl (.cons rfl (.cons rfl .nil))) rfl (rechoAt_p a t p hok hpk hs hp))) ?_
            refine rg_g rfl rfl (fun hG => (q_eql rfl rfl)) ?_
            refine rg_pick rfl rfl rfl rfl rfl rfl ?_
            refine rg_q (q_move (x := .d (.v _)) rfl) ?_
            refine rg_g rfl rfl (fun hG => (q_move (x := .d (.v _)) rfl)) ?_
            refine rg_g rfl rfl (fun hG => (q_eql rfl rfl)) ?_
            refine rg_pick rfl rfl rfl rfl rfl rfl ?_
            refine rg_q (q_move (x := .d (.v _)) rfl) ?_
            refine rg_g rfl rfl (fun hG => (q_load_refA (ds := [_, _]) sz71 rfl rfl rfl rfl)) ?_
            refine rg_g rfl rfl (fun hG => (q_loadA (ds := [_, _, _, _, _, _, _, _, _, _, _]) sz28 rfl rfl rfl)) ?_
            refine rg_g rfl rfl (fun hG => (q_loadA (ds := [_, _]) sz50 rfl rfl rfl)) ?_
            refine rg_g rfl rfl (fun hG => (q_loadA (ds := [_, _]) sz33 rfl rfl rfl)) ?_
            refine rg_g rfl rfl (fun hG => (q_call en31 (.cons rfl (.cons rfl (.cons rfl .nil))) rfl (rechoRange_p a t p hok hpk hs hp))) ?_
            refine rg_g rfl rfl (fun hG => (q_eqlI (xs := [_, _]) (ys := [_, _]) eqi71 rfl rfl rfl rfl)) ?_
            refine rg_pick rfl rfl rfl rfl rfl rfl ?_
            refine rg_q (q_move (x := .d (.v _)) rfl) ?_
            refine rg_g rfl rfl (fun hG => (q_move (x := .d (.v _)) rfl)) ?_
            refine rg_g rfl rfl (fun hG => (q_eql rfl rfl)) ?_
            refine rg_pick rfl rfl rfl rfl rfl rfl ?_
            refine rg_q (q_move (x := .d (.v _)) rfl) ?_
            refine rg_g rfl rfl (fun hG => (q_move (x := .d (.v _)) rfl)) ?_
            refine rg_g rfl rfl (fun hG => (q_loadA (ds := [_, _, _, _, _, _, _, _, _, _, _]) sz28 rfl rfl rfl)) ?_
            refine rg_g rfl rfl (fun hG => (q_loadA (ds := [_, _]) sz50 rfl rfl rfl)) ?_
            refine rg_g rfl rfl (fun hG => (q_loadA (ds := [_, _]) sz33 rfl rfl rfl)) ?_
            refine rg_g rfl rfl (fun hG => (q_call en32 (.cons rfl (.cons rfl (.cons rfl .nil))) rfl (rsampleOf_p a t p hok hpk hs hp))) ?_
            refine rg_g rfl rfl (fun hG => (q_eql rfl rfl)) ?_
            refine rg_pick rfl rfl rfl rfl rfl rfl ?_
            refine rg_q (q_move (x := .d (.v _)) rfl) ?_
            refine rg_g rfl rfl (fun hG => (q_move (x := .d (.v _)) rfl)) ?_
            refine rg_g rfl rfl (fun hG => (q_fieldAddr_ref fld71_0 rfl)) ?_
            refine rg_g rfl rfl (fun hG => (q_load_ref sz3 rfl rfl rfl)) ?_
            refine rg_g rfl rfl (fun hG => (q_fieldAddr_ref fld71_1 rfl)) ?_
            refine rg_g rfl rfl (fun hG => (q_load_ref sz3 rfl rfl rfl)) ?_
            refine rg_g rfl rfl (fun hG => (q_call en33 (.cons rfl (.cons rfl (.cons rfl .nil))) rfl (within4_p _ _ _))) ?_
            refine rg_pick rfl rfl rfl rfl rfl rfl ?_
            refine rg_q (q_assign (x := .d (.v _)) rfl) ?_
            refine rg_nil ?_
            refine aops_nil ?_
            change Awp _ _ _ _ _
            refine awp_ret ?_
            refine ⟨_, (.cons (.tmp (by exact .d _)) .nil), ?_⟩
            simp [retD, inR, w1, w2]
        ·
          (try simp only [decide_eq_true_eq, decide_eq_false_iff_not, Bool.and_eq_true, Bool.or_eq_true, Bool.and_eq_false_iff, Bool.or_eq_false_iff, Bool.not_eq_true', Bool.not_eq_false', Bool.not_true, Bool.not_false, bif_and, bif_or, Bool.not_not, ne_eq, Decidable.not_not, not_true_eq_false, not_false_eq_true, Int.not_le, Int.not_lt] at hc11)
          have hb2 : firstE [spotE t, plateE t.2 a.ou.t] ≠ 0 := hc11
          refine awp_skip ?_
          change Awp _ _ _ _ _
          refine awp_seq ?_
          refine awp_seq ?_
          refine awp_region 2 mixed (by kernel_rfl) ?_
          refine rg_q (q_move (x := .d (.v _)) rfl) ?_
          refine rg_q (q_neq rfl rfl) ?_
          refine rg_nil ?_
          refine aops_nil ?_
          change Awp _ _ _ _ _
          refine awp_cond rfl (fun hc13 => ?_) (fun hc13 => ?_)
          ·
            (try simp only [decide_eq_true_eq, decide_eq_false_iff_not, Bool.and_eq_true, Bool.or_eq_true, Bool.and_eq_false_iff, Bool.or_eq_false_iff, Bool.not_eq_true', Bool.not_eq_false', Bool.not_true, Bool.not_false, bif_and, bif_or, Bool.not_not, ne_eq, Decidable.not_not, not_true_eq_false, not_false_eq_true, Int.not_le, Int.not_lt] at hc13)
            have ho : opE a t p = firstE [spotE t, plateE t.2 a.ou.t] := by rw [opE_is]; rw [if_neg (fun q => q hb1), if_pos hb2]
            have hn0 : opE a t p ≠ 0 := by rw [ho]; exact hb2
            have z1 : echR a t p = (0, opE a t p) := by unfold echR; rw [if_pos hn0]
            have z2 : erR a t p = ((0, 0), opE a t p) := by unfold erR; rw [if_pos hn0]
            have z3 : smpR a t p = (0, opE a t p) := by unfold smpR; rw [if_pos hn0]
            rw [z1, z2, z3, ho] at *
            refine awp_seq ?_
            refine awp_region 27 mixed (by kernel_rfl) ?_
            refine rg_q (q_move (x := .d (.v _)) rfl) ?_
            refine rg_q (q_move (x := .d (.v _)) rfl) ?_
            refine rg_q (q_eql rfl rfl) ?_
            refine rg_q (q_move (x := .d (.v _)) rfl) ?_
            refine rg_g rfl rfl (fun hG => (q_move (x := .d (.v _)) rfl)) ?_
            refine rg_g rfl rfl (fun hG => (q_move (x := .d (.v _)) rfl)) ?_
            refine rg_g rfl rfl (fun hG => (q_eql rfl rfl)) ?_
            refine rg_pick rfl rfl rfl rfl rfl rfl ?_
            refine rg_q (q_move (x := .d (.v _)) rfl) ?_
            refine rg_g rfl rfl (fun hG => (q_move (x := .d (.v _)) rfl)) ?_
            refine rg_g rfl rfl (fun hG => (q_move (x := .d (.v _)) rfl)) ?_
            refine rg_g rfl rfl (fun hG => (q_eql rfl rfl)) ?_
            refine rg_pick rfl rfl rfl rfl rfl rfl ?_
            refine rg_q (q_move (x := .d (.v _)) rfl) ?_
            refine rg_g rfl rfl (fun hG => (q_move (x := .d (.v _)) rfl)) ?_
            refine rg_g rfl rfl (fun hG => (q_eql rfl rfl)) ?_
            refine rg_pick rfl rfl rfl rfl rfl rfl ?_
            refine rg_q (q_move (x := .d (.v _)) rfl) ?_
            refine rg_g rfl rfl (fun hG => (q_load_refA (ds := [_, _]) sz71 rfl rfl rfl rfl)) ?_
            refine rg_g rfl rfl (fun hG => (q_build (cs := [_, _]) pl71 zr71 rfl .nil trivial rfl)) ?_
            refine rg_g rfl rfl (fun hG => (q_eqlI (xs := [_, _]) (ys := [_, _]) eqi71 rfl rfl rfl rfl)) ?_
            refine rg_pick rfl rfl rfl rfl rfl rfl ?_
            refine rg_q (q_move (x := .d (.v _)) rfl) ?_
            refine rg_g rfl rfl (fun hG => (q_move (x := .d (.v _)) rfl)) ?_
            refine rg_g rfl rfl (fun hG => (q_eql rfl rfl)) ?_
            refine rg_pick rfl rfl rfl rfl rfl rfl ?_
            refine rg_q (q_assign (x := .d (.v _)) rfl) ?_
            refine rg_nil ?_
            refine aops_nil ?_
            change Awp _ _ _ _ _
            refine awp_ret ?_
            refine ⟨_, (.cons (.tmp (by exact .d _)) .nil), ?_⟩
            simp [retD]
          ·
            exact absurd hb2 (of_decide_eq_false hc13)
      ·
        (try simp only [decide_eq_true_eq, decide_eq_false_iff_not, Bool.and_eq_true, Bool.or_eq_true, Bool.and_eq_false_iff, Bool.or_eq_false_iff, Bool.not_eq_true', Bool.not_eq_false', Bool.not_true, Bool.not_false, bif_and, bif_or, Bool.not_not, ne_eq, Decidable.not_not, not_true_eq_false, not_false_eq_true, Int.not_le, Int.not_lt] at hc9)
        have hb1 : (ckArr a).2 ≠ 0 := hc9
        refine awp_skip ?_
        change Awp _ _ _ _ _
        refine awp_seq ?_
        refine awp_seq ?_
        refine awp_region 2 mixed (by kernel_rfl) ?_
        refine rg_q (q_move (x := .d (.v _)) rfl) ?_
        refine rg_q (q_eql rfl rfl) ?_
        refine rg_nil ?_
        refine aops_nil ?_
        change Awp _ _ _ _ _
        refine awp_cond rfl (fun hc11 => ?_) (fun hc11 => ?_)
        ·
          exact absurd (of_decide_eq_true hc11) hb1
        ·
          (try simp only [decide_eq_true_eq, decide_eq_false_iff_not, Bool.and_eq_true, Bool.or_eq_true, Bool.and_eq_false_iff, Bool.or_eq_false_iff, Bool.not_eq_true', Bool.not_eq_false', Bool.not_true, Bool.not_false, bif_and, bif_or, Bool.not_not, ne_eq, Decidable.not_not, not_true_eq_false, not_false_eq_true, Int.not_le, Int.not_lt] at hc11)
          refine awp_skip ?_
          change Awp _ _ _ _ _
          refine awp_seq ?_
          refine awp_seq ?_
          refine awp_region 2 mixed (by kernel_rfl) ?_
          refine rg_q (q_move (x := .d (.v _)) rfl) ?_
          refine rg_q (q_neq rfl rfl) ?_
          refine rg_nil ?_
          refine aops_nil ?_
          change Awp _ _ _ _ _
          refine awp_cond rfl (fun hc13 => ?_) (fun hc13 => ?_)
          ·
            (try simp only [decide_eq_true_eq, decide_eq_false_iff_not, Bool.and_eq_true, Bool.or_eq_true, Bool.and_eq_false_iff, Bool.or_eq_false_iff, Bool.not_eq_true', Bool.not_eq_false', Bool.not_true, Bool.not_false, bif_and, bif_or, Bool.not_not, ne_eq, Decidable.not_not, not_true_eq_false, not_false_eq_true, Int.not_le, Int.not_lt] at hc13)
            have ho : opE a t p = (ckArr a).2 := by rw [opE_is]; rw [if_pos hb1]
            have hn0 : opE a t p ≠ 0 := by rw [ho]; exact hb1
            have z1 : echR a t p = (0, opE a t p) := by unfold echR; rw [if_pos hn0]
            have z2 : erR a t p = ((0, 0), opE a t p) := by unfold erR; rw [if_pos hn0]
            have z3 : smpR a t p = (0, opE a t p) := by unfold smpR; rw [if_pos hn0]
            rw [z1, z2, z3, ho] at *
            refine awp_seq ?_
            refine awp_region 27 mixed (by kernel_rfl) ?_
            refine rg_q (q_move (x := .d (.v _)) rfl) ?_
            refine rg_q (q_move (x := .d (.v _)) rfl) ?_
            refine rg_q (q_eql rfl rfl) ?_
            refine rg_q (q_move (x := .d (.v _)) rfl) ?_
            refine rg_g rfl rfl (fun hG => (q_move (x := .d (.v _)) rfl)) ?_
            refine rg_g rfl rfl (fun hG => (q_move (x := .d (.v _)) rfl)) ?_
            refine rg_g rfl rfl (fun hG => (q_eql rfl rfl)) ?_
            refine rg_pick rfl rfl rfl rfl rfl rfl ?_
            refine rg_q (q_move (x := .d (.v _)) rfl) ?_
            refine rg_g rfl rfl (fun hG => (q_move (x := .d (.v _)) rfl)) ?_
            refine rg_g rfl rfl (fun hG => (q_move (x := .d (.v _)) rfl)) ?_
            refine rg_g rfl rfl (fun hG => (q_eql rfl rfl)) ?_
            refine rg_pick rfl rfl rfl rfl rfl rfl ?_
            refine rg_q (q_move (x := .d (.v _)) rfl) ?_
            refine rg_g rfl rfl (fun hG => (q_move (x := .d (.v _)) rfl)) ?_
            refine rg_g rfl rfl (fun hG => (q_eql rfl rfl)) ?_
            refine rg_pick rfl rfl rfl rfl rfl rfl ?_
            refine rg_q (q_move (x := .d (.v _)) rfl) ?_
            refine rg_g rfl rfl (fun hG => (q_load_refA (ds := [_, _]) sz71 rfl rfl rfl rfl)) ?_
            refine rg_g rfl rfl (fun hG => (q_build (cs := [_, _]) pl71 zr71 rfl .nil trivial rfl)) ?_
            refine rg_g rfl rfl (fun hG => (q_eqlI (xs := [_, _]) (ys := [_, _]) eqi71 rfl rfl rfl rfl)) ?_
            refine rg_pick rfl rfl rfl rfl rfl rfl ?_
            refine rg_q (q_move (x := .d (.v _)) rfl) ?_
            refine rg_g rfl rfl (fun hG => (q_move (x := .d (.v _)) rfl)) ?_
            refine rg_g rfl rfl (fun hG => (q_eql rfl rfl)) ?_
            refine rg_pick rfl rfl rfl rfl rfl rfl ?_
            refine rg_q (q_assign (x := .d (.v _)) rfl) ?_
            refine rg_nil ?_
            refine aops_nil ?_
            change Awp _ _ _ _ _
            refine awp_ret ?_
            refine ⟨_, (.cons (.tmp (by exact .d _)) .nil), ?_⟩
            simp [retD]
          ·
            exact absurd hb1 (of_decide_eq_false hc13)
end Go.Proofs.YtblbnagdhcpnoaaGreat.Am.M
