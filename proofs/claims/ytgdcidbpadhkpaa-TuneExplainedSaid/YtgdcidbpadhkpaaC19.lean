/- Contracts over the abstract machine: Compare; Explains, Contradiction. Conditions: none. -/
import Derived.Test.YtgdcidbpadhkpaaC18
import Derived.Test.YtgdcidbpadhkpaaC11
set_option linter.unusedVariables false
set_option linter.unusedSimpArgs false
-- mini
namespace Go.Proofs.Ytgdcidbpadhkpaa.Am.M
open Go

def cmpI (n d m k : Int) : Int := if n * k < m * d then -1 else if m * d < n * k then 1 else 0
theorem cmp_lt {n d m k : Int} (hd : 0 < d) (hk : 0 < k) (h : n / d < m / k) : n * k < m * d := by
  have h1 : n < (n / d + 1) * d := Int.lt_ediv_add_one_mul_self n hd
  have h2 : (m / k) * k ≤ m := Int.ediv_mul_le m (by omega)
  have h3 : (n / d + 1) * d ≤ (m / k) * d := Int.mul_le_mul_of_nonneg_right (by omega) (by omega)
  have h4 : n * k < ((m / k) * d) * k := Int.mul_lt_mul_of_pos_right (by omega) hk
  have h5 : ((m / k) * k) * d ≤ m * d := Int.mul_le_mul_of_nonneg_right h2 (by omega)
  have h6 : ((m / k) * d) * k = ((m / k) * k) * d := by rw [Int.mul_assoc, Int.mul_comm d k, ← Int.mul_assoc]
  omega
theorem cmp_mod {n d m k : Int} (h : n / d = m / k) : cmpI n d m k = cmpI (n % d) d (m % k) k := by
  have e1 : n * k = d * (n / d) * k + n % d * k := by rw [← Int.add_mul, Int.mul_ediv_add_emod]
  have e2 : m * d = k * (m / k) * d + m % k * d := by rw [← Int.add_mul, Int.mul_ediv_add_emod]
  have e3 : d * (n / d) * k = k * (m / k) * d := by rw [h, Int.mul_comm d, Int.mul_comm k, Int.mul_assoc, Int.mul_assoc, Int.mul_comm d k]
  have c1 : (n * k < m * d) ↔ (n % d * k < m % k * d) := by omega
  have c2 : (m * d < n * k) ↔ (m % k * d < n % d * k) := by omega
  unfold cmpI
  simp only [c1, c2]
theorem cmp_swap (n d m k : Int) : cmpI n d m k = cmpI k m d n := by
  unfold cmpI
  rw [Int.mul_comm n k, Int.mul_comm m d]
theorem sub_mod (n d : Int) : n - n / d * d = n % d := by rw [Int.emod_def, Int.mul_comm]
theorem cmp_gt {n d m k : Int} (hd : 0 < d) (hk : 0 < k) (h : m / k < n / d) : m * d < n * k := cmp_lt hk hd h
set_option maxRecDepth 100000 in
theorem compare_p (n d m k : Int) (hn : Sm n) (hd : 0 < d ∧ Sm d) (hm : Sm m) (hk : 0 < k ∧ Sm k) : PC Try.prog 130 [.v (.int .i64 (n)), .v (.int .i64 (d)), .v (.int .i64 (m)), .v (.int .i64 (k))] (.v (.int .i64 (cmpI n d m k))) := by
  refine pc_of_awp Try.func130 rfl Try.ntmps130 (rs := [.tmp 8]) Try.results130 (by simp) fun w0 => ?_
  refine awp_seq ?_
  refine awp_region 1 mixed (by kernel_rfl) ?_
  refine rg_q (q_assign (x := .d (.v _)) rfl) ?_
  refine rg_nil ?_
  refine aops_nil ?_
  change Awp _ _ _ _ _
  refine awp_block ?_
  refine awp_loopH [0, 1, 2, 3, 8, 9, 10, 11, 12, 13, 14, 15, 16, 17, 18, 19, 20, 21, 22, 23, 24, 25, 26, 27, 28, 29, 30, 31, 32, 33, 34, 35, 36, 37, 38, 39, 40, 41, 42, 43, 44, 45, 46] [] (α := Int × Int × Int × Int) (fun x => [(0, T.i x.1), (1, T.i x.2.1), (2, T.i x.2.2.1), (3, T.i x.2.2.2)]) (fun x => []) (fun x => Sm x.1 ∧ (0 < x.2.1 ∧ Sm x.2.1) ∧ Sm x.2.2.1 ∧ (0 < x.2.2.2 ∧ Sm x.2.2.2) ∧ cmpI n d m k = cmpI x.1 x.2.1 x.2.2.1 x.2.2.2) (fun x => (x.2.1 + x.2.2.2).toNat) (n, d, m, k) ⟨hn, hd, hm, hk, rfl⟩ ?_ ?_
  · exact le_head (ms := []) (by repeat (exact Out.refl _)) ⟨(by rfl), (by rfl), (by rfl), (by rfl), trivial⟩ trivial rfl rfl rfl rfl
  ·
    intro ⟨n', d', m', k'⟩ ⟨gn, ⟨gd0, gd⟩, gm, ⟨gk0, gk⟩, hh⟩
    simp only at gn gd0 gd gm gk0 gk hh
    have hmn := Int.emod_nonneg n' (show d' ≠ 0 by omega)
    have hmm := Int.emod_nonneg m' (show k' ≠ 0 by omega)
    have hln := Int.emod_lt_of_pos n' gd0
    have hlm := Int.emod_lt_of_pos m' gk0
    have hsn := sub_mod n' d'
    have hsm := sub_mod m' k'
    have hgn := gn
    have hgm := gm
    obtain ⟨gn1, gn2⟩ := gn
    obtain ⟨gm1, gm2⟩ := gm
    obtain ⟨gd1, gd2⟩ := gd
    obtain ⟨gk1, gk2⟩ := gk
    refine awp_block ?_
    refine awp_seq ?_
    refine awp_region 8 mixed (by kernel_rfl) ?_
    refine rg_q (q_move (x := .d (.v _)) rfl) ?_
    refine rg_q (q_move (x := .d (.v _)) rfl) ?_
    refine rg_q (q_call en67 (.cons rfl (.cons rfl .nil)) rfl (Floor_p _ _ hgn gd0)) ?_
    refine rg_q (q_move (x := .d (.v _)) rfl) ?_
    refine rg_q (q_move (x := .d (.v _)) rfl) ?_
    refine rg_q (q_call en67 (.cons rfl (.cons rfl .nil)) rfl (Floor_p _ _ hgm gk0)) ?_
    refine rg_q (q_assign (x := .d (.v _)) rfl) ?_
    refine rg_q (q_assign (x := .d (.v _)) rfl) ?_
    refine rg_nil ?_
    refine aops_nil ?_
    change Awp _ _ _ _ _
    refine awp_seq ?_
    refine awp_seq ?_
    refine awp_region 3 mixed (by kernel_rfl) ?_
    refine rg_q (q_move (x := .d (.v _)) rfl) ?_
    refine rg_q (q_move (x := .d (.v _)) rfl) ?_
    refine rg_q (q_lss rfl rfl) ?_
    refine rg_nil ?_
    refine aops_nil ?_
    change Awp _ _ _ _ _
    refine awp_cond rfl (fun hc2 => ?_) (fun hc2 => ?_)
    ·
      (try simp only [decide_eq_true_eq, decide_eq_false_iff_not, Bool.and_eq_true, Bool.or_eq_true, Bool.and_eq_false_iff, Bool.or_eq_false_iff, Bool.not_eq_true', Bool.not_eq_false', Bool.not_true, Bool.not_false, bif_and, bif_or, Bool.not_not, ne_eq, Decidable.not_not, not_true_eq_false, not_false_eq_true, Int.not_le, Int.not_lt] at hc2)
      have hz : cmpI n d m k = -1 := by rw [hh]; unfold cmpI; rw [if_pos (cmp_lt gd0 gk0 hc2)]
      refine awp_seq ?_
      refine awp_region 1 mixed (by kernel_rfl) ?_
      refine rg_q (q_assign (x := .d (.v _)) rfl) ?_
      refine rg_nil ?_
      refine aops_nil ?_
      change Awp _ _ _ _ _
      refine awp_ret ?_
      refine ⟨_, (.cons (.tmp (by exact .d _)) .nil), ?_⟩
      rw [hz]; rfl
    ·
      (try simp only [decide_eq_true_eq, decide_eq_false_iff_not, Bool.and_eq_true, Bool.or_eq_true, Bool.and_eq_false_iff, Bool.or_eq_false_iff, Bool.not_eq_true', Bool.not_eq_false', Bool.not_true, Bool.not_false, bif_and, bif_or, Bool.not_not, ne_eq, Decidable.not_not, not_true_eq_false, not_false_eq_true, Int.not_le, Int.not_lt] at hc2)
      refine awp_skip ?_
      change Awp _ _ _ _ _
      refine awp_seq ?_
      refine awp_seq ?_
      refine awp_region 3 mixed (by kernel_rfl) ?_
      refine rg_q (q_move (x := .d (.v _)) rfl) ?_
      refine rg_q (q_move (x := .d (.v _)) rfl) ?_
      refine rg_q (q_gtr rfl rfl) ?_
      refine rg_nil ?_
      refine aops_nil ?_
      change Awp _ _ _ _ _
      refine awp_cond rfl (fun hc4 => ?_) (fun hc4 => ?_)
      ·
        (try simp only [decide_eq_true_eq, decide_eq_false_iff_not, Bool.and_eq_true, Bool.or_eq_true, Bool.and_eq_false_iff, Bool.or_eq_false_iff, Bool.not_eq_true', Bool.not_eq_false', Bool.not_true, Bool.not_false, bif_and, bif_or, Bool.not_not, ne_eq, Decidable.not_not, not_true_eq_false, not_false_eq_true, Int.not_le, Int.not_lt] at hc4)
        have hz : cmpI n d m k = 1 := by
          have := cmp_gt gd0 gk0 hc4
          rw [hh]; unfold cmpI; rw [if_neg (by omega), if_pos this]
        refine awp_seq ?_
        refine awp_region 1 mixed (by kernel_rfl) ?_
        refine rg_q (q_assign (x := .d (.v _)) rfl) ?_
        refine rg_nil ?_
        refine aops_nil ?_
        change Awp _ _ _ _ _
        refine awp_ret ?_
        refine ⟨_, (.cons (.tmp (by exact .d _)) .nil), ?_⟩
        rw [hz]; rfl
      ·
        (try simp only [decide_eq_true_eq, decide_eq_false_iff_not, Bool.and_eq_true, Bool.or_eq_true, Bool.and_eq_false_iff, Bool.or_eq_false_iff, Bool.not_eq_true', Bool.not_eq_false', Bool.not_true, Bool.not_false, bif_and, bif_or, Bool.not_not, ne_eq, Decidable.not_not, not_true_eq_false, not_false_eq_true, Int.not_le, Int.not_lt] at hc4)
        have hpq : n' / d' = m' / k' := by omega
        have h2 := hh.trans (cmp_mod hpq)
        refine awp_skip ?_
        change Awp _ _ _ _ _
        refine awp_seq ?_
        refine awp_region 12 mixed (by kernel_rfl) ?_
        refine rg_q (q_move (x := .d (.v _)) rfl) ?_
        refine rg_q (q_move (x := .d (.v _)) rfl) ?_
        refine rg_q (q_move (x := .d (.v _)) rfl) ?_
        refine rg_q (q_mul rfl rfl (In64.mk (by (simp only; omega)) (by (simp only; omega)))) ?_
        refine rg_q (q_sub rfl rfl (In64.mk (by (simp only; omega)) (by (simp only; omega)))) ?_
        refine rg_q (q_move (x := .d (.v _)) rfl) ?_
        refine rg_q (q_move (x := .d (.v _)) rfl) ?_
        refine rg_q (q_move (x := .d (.v _)) rfl) ?_
        refine rg_q (q_mul rfl rfl (In64.mk (by (simp only; omega)) (by (simp only; omega)))) ?_
        refine rg_q (q_sub rfl rfl (In64.mk (by (simp only; omega)) (by (simp only; omega)))) ?_
        refine rg_q (q_assign (x := .d (.v _)) rfl) ?_
        refine rg_q (q_assign (x := .d (.v _)) rfl) ?_
        refine rg_nil ?_
        refine aops_nil ?_
        change Awp _ _ _ _ _
        refine awp_seq ?_
        refine awp_seq ?_
        refine awp_region 6 mixed (by kernel_rfl) ?_
        refine rg_q (q_move (x := .d (.v _)) rfl) ?_
        refine rg_q (q_eql rfl rfl) ?_
        refine rg_q (q_move (x := .d (.v _)) rfl) ?_
        refine rg_g rfl rfl (fun hG => (q_move (x := .d (.v _)) rfl)) ?_
        refine rg_g rfl rfl (fun hG => (q_eql rfl rfl)) ?_
        refine rg_pick rfl rfl rfl rfl rfl rfl ?_
        refine rg_nil ?_
        refine aops_nil ?_
        change Awp _ _ _ _ _
        refine awp_cond rfl (fun hc7 => ?_) (fun hc7 => ?_)
        ·
          (try simp only [decide_eq_true_eq, decide_eq_false_iff_not, Bool.and_eq_true, Bool.or_eq_true, Bool.and_eq_false_iff, Bool.or_eq_false_iff, Bool.not_eq_true', Bool.not_eq_false', Bool.not_true, Bool.not_false, bif_and, bif_or, Bool.not_not, ne_eq, Decidable.not_not, not_true_eq_false, not_false_eq_true, Int.not_le, Int.not_lt] at hc7)
          refine awp_seq ?_
          refine awp_region 1 mixed (by kernel_rfl) ?_
          refine rg_q (q_assign (x := .d (.v _)) rfl) ?_
          refine rg_nil ?_
          refine aops_nil ?_
          change Awp _ _ _ _ _
          refine awp_ret ?_
          refine ⟨_, (.cons (.tmp (by exact .d _)) .nil), ?_⟩
          have e1 : n' % d' = 0 := by rw [← hsn]; omega
          have e2 : m' % k' = 0 := by rw [← hsm]; omega
          have hz : cmpI n d m k = 0 := by rw [h2, e1, e2]; unfold cmpI; simp
          rw [hz]; rfl
        ·
          (try simp only [decide_eq_true_eq, decide_eq_false_iff_not, Bool.and_eq_true, Bool.or_eq_true, Bool.and_eq_false_iff, Bool.or_eq_false_iff, Bool.not_eq_true', Bool.not_eq_false', Bool.not_true, Bool.not_false, bif_and, bif_or, Bool.not_not, ne_eq, Decidable.not_not, not_true_eq_false, not_false_eq_true, Int.not_le, Int.not_lt] at hc7)
          refine awp_skip ?_
          change Awp _ _ _ _ _
          refine awp_seq ?_
          refine awp_seq ?_
          refine awp_region 2 mixed (by kernel_rfl) ?_
          refine rg_q (q_move (x := .d (.v _)) rfl) ?_
          refine rg_q (q_eql rfl rfl) ?_
          refine rg_nil ?_
          refine aops_nil ?_
          change Awp _ _ _ _ _
          refine awp_cond rfl (fun hc9 => ?_) (fun hc9 => ?_)
          ·
            (try simp only [decide_eq_true_eq, decide_eq_false_iff_not, Bool.and_eq_true, Bool.or_eq_true, Bool.and_eq_false_iff, Bool.or_eq_false_iff, Bool.not_eq_true', Bool.not_eq_false', Bool.not_true, Bool.not_false, bif_and, bif_or, Bool.not_not, ne_eq, Decidable.not_not, not_true_eq_false, not_false_eq_true, Int.not_le, Int.not_lt] at hc9)
            refine awp_seq ?_
            refine awp_region 1 mixed (by kernel_rfl) ?_
            refine rg_q (q_assign (x := .d (.v _)) rfl) ?_
            refine rg_nil ?_
            refine aops_nil ?_
            change Awp _ _ _ _ _
            refine awp_ret ?_
            refine ⟨_, (.cons (.tmp (by exact .d _)) .nil), ?_⟩
            have e1 : n' % d' = 0 := by rw [← hsn]; omega
            have e2 : 0 < m' % k' := by rw [e1] at *; omega
            have e3 : 0 < m' % k' * d' := Int.mul_pos e2 gd0
            have hz : cmpI n d m k = -1 := by rw [h2, e1]; unfold cmpI; rw [if_pos (by omega)]
            rw [hz]; rfl
          ·
            (try simp only [decide_eq_true_eq, decide_eq_false_iff_not, Bool.and_eq_true, Bool.or_eq_true, Bool.and_eq_false_iff, Bool.or_eq_false_iff, Bool.not_eq_true', Bool.not_eq_false', Bool.not_true, Bool.not_false, bif_and, bif_or, Bool.not_not, ne_eq, Decidable.not_not, not_true_eq_false, not_false_eq_true, Int.not_le, Int.not_lt] at hc9)
            refine awp_skip ?_
            change Awp _ _ _ _ _
            refine awp_seq ?_
            refine awp_seq ?_
            refine awp_region 2 mixed (by kernel_rfl) ?_
            refine rg_q (q_move (x := .d (.v _)) rfl) ?_
            refine rg_q (q_eql rfl rfl) ?_
            refine rg_nil ?_
            refine aops_nil ?_
            change Awp _ _ _ _ _
            refine awp_cond rfl (fun hc11 => ?_) (fun hc11 => ?_)
            ·
              (try simp only [decide_eq_true_eq, decide_eq_false_iff_not, Bool.and_eq_true, Bool.or_eq_true, Bool.and_eq_false_iff, Bool.or_eq_false_iff, Bool.not_eq_true', Bool.not_eq_false', Bool.not_true, Bool.not_false, bif_and, bif_or, Bool.not_not, ne_eq, Decidable.not_not, not_true_eq_false, not_false_eq_true, Int.not_le, Int.not_lt] at hc11)
              refine awp_seq ?_
              refine awp_region 1 mixed (by kernel_rfl) ?_
              refine rg_q (q_assign (x := .d (.v _)) rfl) ?_
              refine rg_nil ?_
              refine aops_nil ?_
              change Awp _ _ _ _ _
              refine awp_ret ?_
              refine ⟨_, (.cons (.tmp (by exact .d _)) .nil), ?_⟩
              have e1 : m' % k' = 0 := by rw [← hsm]; omega
              have e2 : 0 < n' % d' := by rw [e1] at *; omega
              have e3 : 0 < n' % d' * k' := Int.mul_pos e2 gk0
              have hz : cmpI n d m k = 1 := by rw [h2, e1]; unfold cmpI; rw [if_neg (by omega), if_pos (by omega)]
              rw [hz]; rfl
            ·
              (try simp only [decide_eq_true_eq, decide_eq_false_iff_not, Bool.and_eq_true, Bool.or_eq_true, Bool.and_eq_false_iff, Bool.or_eq_false_iff, Bool.not_eq_true', Bool.not_eq_false', Bool.not_true, Bool.not_false, bif_and, bif_or, Bool.not_not, ne_eq, Decidable.not_not, not_true_eq_false, not_false_eq_true, Int.not_le, Int.not_lt] at hc11)
              refine awp_skip ?_
              change Awp _ _ _ _ _
              refine awp_region 8 mixed (by kernel_rfl) ?_
              refine rg_q (q_move (x := .d (.v _)) rfl) ?_
              refine rg_q (q_move (x := .d (.v _)) rfl) ?_
              refine rg_q (q_move (x := .d (.v _)) rfl) ?_
              refine rg_q (q_move (x := .d (.v _)) rfl) ?_
              refine rg_q (q_assign (x := .d (.v _)) rfl) ?_
              refine rg_q (q_assign (x := .d (.v _)) rfl) ?_
              refine rg_q (q_assign (x := .d (.v _)) rfl) ?_
              refine rg_q (q_assign (x := .d (.v _)) rfl) ?_
              refine rg_nil ?_
              refine aops_nil ?_
              have e1 : 0 < n' % d' := by omega
              have e2 : 0 < m' % k' := by omega
              refine ⟨(k', m' % k', d', n' % d'), ⟨⟨gk1, gk2⟩, ⟨e2, by constructor <;> simp only <;> omega⟩, ⟨gd1, gd2⟩, ⟨e1, by constructor <;> simp only <;> omega⟩, by rw [h2, cmp_swap]⟩, by simp only; omega, ?_⟩
              exact le_head (ms := []) (by repeat (first | exact Out.head rfl rfl | (refine Out.put ?_ rfl))) ⟨(by rfl), (by ((show T.i _ = T.i _; rw [hsm]; done))), (by rfl), (by ((show T.i _ = T.i _; rw [hsn]; done))), trivial⟩ trivial rfl rfl rfl rfl

theorem cmp_less (a b : Int × Int) : decide (cmpI a.1 a.2 b.1 b.2 < 0) = lessB a b := by
  unfold cmpI lessB
  by_cases h : a.1 * b.2 < b.1 * a.2
  · rw [if_pos h]; simp [h]
  · rw [if_neg h]
    by_cases h' : b.1 * a.2 < a.1 * b.2
    · rw [if_pos h']; simp [h]
    · rw [if_neg h']; simp [h]
/-- A share of arcs. -/
def ShOk (q : Int × Int) : Prop := -1000000000000 ≤ q.1 ∧ q.1 ≤ 1000000000000 ∧ 1 ≤ q.2 ∧ q.2 ≤ 200000
set_option maxRecDepth 100000 in
theorem rless_p (a b : Int × Int) (ha : ShOk a) (hb : ShOk b) : PC Try.prog 128 [.agg (qC a), .agg (qC b)] (.v (.bool (lessB a b))) := by
  obtain ⟨a1, a2, a3, a4⟩ := ha
  obtain ⟨b1, b2, b3, b4⟩ := hb
  refine pc_of_awp Try.func128 rfl Try.ntmps128 (rs := [.tmp 4]) Try.results128 (by simp) fun w0 => ?_
  refine awp_seq ?_
  refine awp_region 3 mixed (by kernel_rfl) ?_
  refine rg_q (q_box rfl (by exact .inr ⟨_, rfl⟩)) ?_
  refine rg_q (q_box rfl (by exact .inr ⟨_, rfl⟩)) ?_
  refine rg_q (q_assign (x := .d (.v _)) rfl) ?_
  refine rg_nil ?_
  refine aops_nil ?_
  change Awp _ _ _ _ _
  refine awp_seq ?_
  refine awp_region 11 mixed (by kernel_rfl) ?_
  refine rg_q (q_fieldAddr fld116_0 rfl) ?_
  refine rg_q (q_load sz3 rfl rfl) ?_
  refine rg_q (q_fieldAddr fld116_1 rfl) ?_
  refine rg_q (q_load sz3 rfl rfl) ?_
  refine rg_q (q_fieldAddr fld116_0 rfl) ?_
  refine rg_q (q_load sz3 rfl rfl) ?_
  refine rg_q (q_fieldAddr fld116_1 rfl) ?_
  refine rg_q (q_load sz3 rfl rfl) ?_
  refine rg_q (q_call en130 (.cons rfl (.cons rfl (.cons rfl (.cons rfl .nil)))) rfl (compare_p _ _ _ _ ⟨by omega, by omega⟩ ⟨by omega, by omega, by omega⟩ ⟨by omega, by omega⟩ ⟨by omega, by omega, by omega⟩)) ?_
  refine rg_q (q_lss rfl rfl) ?_
  refine rg_q (q_assign (x := .d (.v _)) rfl) ?_
  refine rg_nil ?_
  refine aops_nil ?_
  change Awp _ _ _ _ _
  refine awp_ret ?_
  refine ⟨_, (.cons (.tmp (by exact .d _)) .nil), ?_⟩
  rw [← cmp_less]; rfl
set_option maxRecDepth 100000 in
theorem indexArc_p {α : Type} (C : α → List D) (f : α → Bool) (g : FuncId) (cap : List D) (hen : enB Try.prog g = true) (l : List α) (hC : ∀ a, (C a).length = 3) (hf : ∀ a ∈ l, PC Try.prog g (.agg (C a) :: cap) (.v (.bool (f a)))) : PC Try.prog 127 [.sl 3 (l.map C), .fn (.func g) cap] (.v (.int .i64 (idxOf f 0 l))) := by
  refine pc_of_awp Try.func127 rfl Try.ntmps127 (rs := [.tmp 4]) Try.results127 (by simp) fun w0 => ?_
  refine awp_seq ?_
  refine awp_region 1 mixed (by kernel_rfl) ?_
  refine rg_q (q_assign (x := .d (.v _)) rfl) ?_
  refine rg_nil ?_
  refine aops_nil ?_
  change Awp _ _ _ _ _
  refine awp_seq ?_
  refine awp_seq ?_
  refine awp_region 3 mixed (by kernel_rfl) ?_
  refine rg_q (q_move (x := .d (.sl _ _)) rfl) ?_
  refine rg_q (q_len isl93 rfl (by exact len_map _ _)) ?_
  refine rg_q (q_move (x := .d (.v _)) rfl) ?_
  refine rg_nil ?_
  refine aops_nil ?_
  change Awp _ _ _ _ _
  refine awp_len (t := 6) rfl (fun hl6 => ?_)
  (try simp only [List.length_map] at hl6)
  refine awp_block ?_
  refine awp_loopH [4, 5, 8, 9, 10, 11, 12, 13, 14, 15, 16, 17, 18] [] (α := Nat) (fun k => [(8, T.i (k : Int))]) (fun k => []) (fun k => k ≤ l.length ∧ idxOf f 0 l = idxOf f k (l.drop k)) (fun k => l.length - k) 0 ⟨Nat.zero_le _, rfl⟩ ?_ ?_
  · exact le_head (ms := []) (by repeat (exact Out.refl _)) ⟨(by rfl), trivial⟩ trivial rfl rfl rfl rfl
  ·
    intro k ⟨hk, hh⟩
    refine awp_seq ?_
    refine awp_region 1 mixed (by kernel_rfl) ?_
    refine rg_q (q_lss rfl rfl) ?_
    refine rg_nil ?_
    refine aops_nil ?_
    change Awp _ _ _ _ _
    refine awp_seq ?_
    refine awp_cond rfl (fun hc2 => ?_) (fun hc2 => ?_)
    ·
      (try simp only [decide_eq_true_eq, decide_eq_false_iff_not, Bool.and_eq_true, Bool.or_eq_true, Bool.and_eq_false_iff, Bool.or_eq_false_iff, Bool.not_eq_true', Bool.not_eq_false', Bool.not_true, Bool.not_false, bif_and, bif_or, Bool.not_not, ne_eq, Decidable.not_not, not_true_eq_false, not_false_eq_true, Int.not_le, Int.not_lt] at hc2)
      have hlt : k < l.length := by omega
      have hx := List.getElem?_eq_getElem hlt
      have hd : idxOf f k (l.drop k) = if f l[k] = true then (k : Int) else idxOf f (k + 1) (l.drop (k + 1)) := by rw [List.drop_eq_getElem_cons hlt]; rfl
      have hfx := hf l[k] (List.getElem_mem hlt)
      have hCx := hC l[k]
      generalize l[k] = x at *
      have hds : ((C x).drop 0).take 3 = C x := by rw [List.drop_zero]; exact List.take_of_length_le (by omega)
      refine awp_skip ?_
      change Awp _ _ _ _ _
      refine awp_seq ?_
      refine awp_block ?_
      refine awp_seq ?_
      refine awp_region 2 mixed (by kernel_rfl) ?_
      refine rg_q (q_move (x := .d (.v _)) rfl) ?_
      refine rg_q (q_assign (x := .d (.v _)) rfl) ?_
      refine rg_nil ?_
      refine aops_nil ?_
      change Awp _ _ _ _ _
      refine awp_seq ?_
      refine awp_region 6 mixed (by kernel_rfl) ?_
      refine rg_q (q_move (x := .d (.fn _ _)) rfl) ?_
      refine rg_q (q_move (x := .d (.sl _ _)) rfl) ?_
      refine rg_q (q_move (x := .d (.v _)) rfl) ?_
      refine rg_q (q_indexAddr sl93 rfl rfl (by omega) (map_at (by omega) hx)) ?_
      refine rg_q (q_loadA (ds := C x) sz105 rfl hds hCx) ?_
      refine rg_q (q_callC hen rfl (.cons rfl .nil) (hfx)) ?_
      refine rg_nil ?_
      refine aops_nil ?_
      change Awp _ _ _ _ _
      refine awp_cond rfl (fun hc4 => ?_) (fun hc4 => ?_)
      ·
        (try simp only [decide_eq_true_eq, decide_eq_false_iff_not, Bool.and_eq_true, Bool.or_eq_true, Bool.and_eq_false_iff, Bool.or_eq_false_iff, Bool.not_eq_true', Bool.not_eq_false', Bool.not_true, Bool.not_false, bif_and, bif_or, Bool.not_not, ne_eq, Decidable.not_not, not_true_eq_false, not_false_eq_true, Int.not_le, Int.not_lt] at hc4)
        refine awp_seq ?_
        refine awp_region 2 mixed (by kernel_rfl) ?_
        refine rg_q (q_move (x := .d (.v _)) rfl) ?_
        refine rg_q (q_assign (x := .d (.v _)) rfl) ?_
        refine rg_nil ?_
        refine aops_nil ?_
        change Awp _ _ _ _ _
        refine awp_ret ?_
        refine ⟨_, (.cons (.tmp (by exact .d _)) .nil), ?_⟩
        rw [hh, hd, if_pos (by simpa using hc4)]; rfl
      ·
        (try simp only [decide_eq_true_eq, decide_eq_false_iff_not, Bool.and_eq_true, Bool.or_eq_true, Bool.and_eq_false_iff, Bool.or_eq_false_iff, Bool.not_eq_true', Bool.not_eq_false', Bool.not_true, Bool.not_false, bif_and, bif_or, Bool.not_not, ne_eq, Decidable.not_not, not_true_eq_false, not_false_eq_true, Int.not_le, Int.not_lt] at hc4)
        refine awp_skip ?_
        change Awp _ _ _ _ _
        refine awp_region 2 mixed (by kernel_rfl) ?_
        refine rg_q (q_add rfl rfl (In64.mk (by omega) (by omega))) ?_
        refine rg_q (q_move (x := .d (.v _)) rfl) ?_
        refine rg_nil ?_
        refine aops_nil ?_
        refine ⟨k + 1, ⟨by omega, by rw [hh, hd, if_neg (by simpa using hc4)]⟩, by omega, ?_⟩
        exact le_head (ms := []) (by repeat (first | exact Out.head rfl rfl | (refine Out.put ?_ rfl))) ⟨(by rfl), trivial⟩ trivial rfl rfl rfl rfl
    ·
      (try simp only [decide_eq_true_eq, decide_eq_false_iff_not, Bool.and_eq_true, Bool.or_eq_true, Bool.and_eq_false_iff, Bool.or_eq_false_iff, Bool.not_eq_true', Bool.not_eq_false', Bool.not_true, Bool.not_false, bif_and, bif_or, Bool.not_not, ne_eq, Decidable.not_not, not_true_eq_false, not_false_eq_true, Int.not_le, Int.not_lt] at hc2)
      refine awp_exit ?_
      change Awp _ _ _ _ _
      refine awp_seq ?_
      refine awp_region 1 mixed (by kernel_rfl) ?_
      refine rg_q (q_assign (x := .d (.v _)) rfl) ?_
      refine rg_nil ?_
      refine aops_nil ?_
      change Awp _ _ _ _ _
      refine awp_ret ?_
      refine ⟨_, (.cons (.tmp (by exact .d _)) .nil), ?_⟩
      rw [hh, List.drop_of_length_le (by omega)]; rfl
set_option maxRecDepth 100000 in
theorem containsArc_p {α : Type} (C : α → List D) (f : α → Bool) (g : FuncId) (cap : List D) (hen : enB Try.prog g = true) (l : List α) (hC : ∀ a, (C a).length = 3) (hf : ∀ a ∈ l, PC Try.prog g (.agg (C a) :: cap) (.v (.bool (f a)))) : PC Try.prog 112 [.sl 3 (l.map C), .fn (.func g) cap] (.v (.bool (l.any f))) := by
  have hm := idxOf_mem f l
  refine pc_of_awp Try.func112 rfl Try.ntmps112 (rs := [.tmp 4]) Try.results112 (by simp) fun w0 => ?_
  refine awp_seq ?_
  refine awp_region 1 mixed (by kernel_rfl) ?_
  refine rg_q (q_assign (x := .d (.v _)) rfl) ?_
  refine rg_nil ?_
  refine aops_nil ?_
  change Awp _ _ _ _ _
  refine awp_seq ?_
  refine awp_region 5 mixed (by kernel_rfl) ?_
  refine rg_q (q_move (x := .d (.sl _ _)) rfl) ?_
  refine rg_q (q_move (x := .d (.fn _ _)) rfl) ?_
  refine rg_q (q_call en127 (.cons rfl (.cons rfl .nil)) rfl (indexArc_p C f g cap hen l hC hf)) ?_
  refine rg_q (q_geq rfl rfl) ?_
  refine rg_q (q_assign (x := .d (.v _)) rfl) ?_
  refine rg_nil ?_
  refine aops_nil ?_
  change Awp _ _ _ _ _
  refine awp_ret ?_
  refine ⟨_, (.cons (.tmp (by exact .d _)) .nil), ?_⟩
  rw [← hm]; rfl

def exP (d s : Int) (a : Arc) : Bool := inR (a.lo * s) (d * s + 2 * a.r * 10000000) (a.hi * s)
def explR (l : List Arc) (d s : Int) : Bool × Int := if (ckA l).2 ≠ 0 then (false, (ckA l).2) else if (!(inR (-1000000000000) d 1000000000000) || !(inR 500 s 10000)) = true then (false, 2) else (!(l.any fun a => !exP d s a), 0)
set_option maxRecDepth 100000 in
theorem isDelay_p (n : Int) : PC Try.prog 92 [.v (.int .i64 (n))] (.v (.bool (inR (-1000000000000) n 1000000000000))) := by
  refine pc_of_awp Try.func92 rfl Try.ntmps92 (rs := [.tmp 2]) Try.results92 (by simp) fun w0 => ?_
  refine awp_seq ?_
  refine awp_region 1 mixed (by kernel_rfl) ?_
  refine rg_q (q_assign (x := .d (.v _)) rfl) ?_
  refine rg_nil ?_
  refine aops_nil ?_
  change Awp _ _ _ _ _
  refine awp_seq ?_
  refine awp_region 3 mixed (by kernel_rfl) ?_
  refine rg_q (q_move (x := .d (.v _)) rfl) ?_
  refine rg_q (q_call en119 (.cons rfl (.cons rfl .nil)) rfl (small_p _ _ (by omega) (by omega))) ?_
  refine rg_q (q_assign (x := .d (.v _)) rfl) ?_
  refine rg_nil ?_
  refine aops_nil ?_
  change Awp _ _ _ _ _
  refine awp_ret ?_
  refine ⟨_, (.cons (.tmp (by exact .d _)) .nil), ?_⟩
  rfl
set_option maxRecDepth 100000 in
theorem isSpeed_p (n : Int) : PC Try.prog 93 [.v (.int .i64 (n))] (.v (.bool (inR 500 n 10000))) := by
  refine pc_of_awp Try.func93 rfl Try.ntmps93 (rs := [.tmp 2]) Try.results93 (by simp) fun w0 => ?_
  refine awp_seq ?_
  refine awp_region 1 mixed (by kernel_rfl) ?_
  refine rg_q (q_assign (x := .d (.v _)) rfl) ?_
  refine rg_nil ?_
  refine aops_nil ?_
  change Awp _ _ _ _ _
  refine awp_seq ?_
  refine awp_region 3 mixed (by kernel_rfl) ?_
  refine rg_q (q_move (x := .d (.v _)) rfl) ?_
  refine rg_q (q_call en73 (.cons rfl (.cons rfl (.cons rfl .nil))) rfl (within_p _ _ _)) ?_
  refine rg_q (q_assign (x := .d (.v _)) rfl) ?_
  refine rg_nil ?_
  refine aops_nil ?_
  change Awp _ _ _ _ _
  refine awp_ret ?_
  refine ⟨_, (.cons (.tmp (by exact .d _)) .nil), ?_⟩
  rfl
set_option maxRecDepth 100000 in
theorem explains1_p (a : Arc) (d s : Int) (ha : ArcOk a) (h1 : -1000000000000 ≤ d) (h2 : d ≤ 1000000000000) (h3 : 500 ≤ s) (h4 : s ≤ 10000) : PC Try.prog 111 [.agg (arcC a), .pt [.v (.int .i64 (d))] 0, .pt [.v (.int .i64 (s))] 0] (.v (.bool (!exP d s a))) := by
  obtain ⟨a1, a2, a3, a4, a5, a6⟩ := ha
  have m1 := mulb (a := d) (b := s) (A := 1000000000000) (B := 10000) (by omega) (by omega) (by omega) (by omega)
  have m2 := mulb (a := a.lo) (b := s) (A := 1000000000000) (B := 10000) (by omega) (by omega) (by omega) (by omega)
  have m3 := mulb (a := a.hi) (b := s) (A := 1000000000000) (B := 10000) (by omega) (by omega) (by omega) (by omega)
  refine pc_of_awp Try.func111 rfl Try.ntmps111 (rs := [.tmp 4]) Try.results111 (by simp) fun w0 => ?_
  refine awp_seq ?_
  refine awp_region 2 mixed (by kernel_rfl) ?_
  refine rg_q (q_box rfl (by exact .inr ⟨_, rfl⟩)) ?_
  refine rg_q (q_assign (x := .d (.v _)) rfl) ?_
  refine rg_nil ?_
  refine aops_nil ?_
  change Awp _ _ _ _ _
  refine awp_seq ?_
  refine awp_region 21 mixed (by kernel_rfl) ?_
  refine rg_q (q_load sz3 rfl rfl) ?_
  refine rg_q (q_load sz3 rfl rfl) ?_
  refine rg_q (q_mul rfl rfl (In64.mk (by omega) (by omega))) ?_
  refine rg_q (q_fieldAddr fld105_0 rfl) ?_
  refine rg_q (q_load sz3 rfl rfl) ?_
  refine rg_q (q_mul rfl rfl (In64.mk (by omega) (by omega))) ?_
  refine rg_q (q_mul rfl rfl (In64.mk (by omega) (by omega))) ?_
  refine rg_q (q_add rfl rfl (In64.mk (by omega) (by omega))) ?_
  refine rg_q (q_fieldAddr fld105_1 rfl) ?_
  refine rg_q (q_fieldAddr fld52_0 rfl) ?_
  refine rg_q (q_load sz3 rfl rfl) ?_
  refine rg_q (q_load sz3 rfl rfl) ?_
  refine rg_q (q_mul rfl rfl (In64.mk (by omega) (by omega))) ?_
  refine rg_q (q_fieldAddr fld105_1 rfl) ?_
  refine rg_q (q_fieldAddr fld52_1 rfl) ?_
  refine rg_q (q_load sz3 rfl rfl) ?_
  refine rg_q (q_load sz3 rfl rfl) ?_
  refine rg_q (q_mul rfl rfl (In64.mk (by omega) (by omega))) ?_
  refine rg_q (q_call en73 (.cons rfl (.cons rfl (.cons rfl .nil))) rfl (within_p _ _ _)) ?_
  refine rg_q (q_not rfl) ?_
  refine rg_q (q_assign (x := .d (.v _)) rfl) ?_
  refine rg_nil ?_
  refine aops_nil ?_
  change Awp _ _ _ _ _
  refine awp_ret ?_
  refine ⟨_, (.cons (.tmp (by exact .d _)) .nil), ?_⟩
  rfl
set_option maxRecDepth 100000 in
theorem Explains_p (l : List Arc) (d s : Int) : PC Try.prog 62 [.sl 3 (l.map arcC), .v (.int .i64 (d)), .v (.int .i64 (s))] (.tup [.v (.bool (explR l d s).1), .v (.int .i64 ((explR l d s).2))]) := by
  refine pc_of_awp Try.func62 rfl Try.ntmps62 (rs := [.tmp 6, .tmp 7]) Try.results62 (by simp) fun w0 => ?_
  refine awp_seq ?_
  refine awp_region 4 mixed (by kernel_rfl) ?_
  refine rg_q (q_box rfl (by exact .inl rfl)) ?_
  refine rg_q (q_box rfl (by exact .inl rfl)) ?_
  refine rg_q (q_assign (x := .d (.v _)) rfl) ?_
  refine rg_q (q_assign (x := .d (.v _)) rfl) ?_
  refine rg_nil ?_
  refine aops_nil ?_
  change Awp _ _ _ _ _
  refine awp_seq ?_
  refine awp_seq ?_
  refine awp_region 7 mixed (by kernel_rfl) ?_
  refine rg_q (q_move (x := .d (.sl _ _)) rfl) ?_
  refine rg_q (q_call en106 (.cons rfl .nil) rfl (openA_p _)) ?_
  refine rg_q (q_move (x := .d (.tup _)) rfl) ?_
  refine rg_q (q_extract rfl rfl) ?_
  refine rg_q (q_extract rfl rfl) ?_
  refine rg_q (q_assign (x := .d (.sl _ _)) rfl) ?_
  refine rg_q (q_assign (x := .d (.v _)) rfl) ?_
  refine rg_nil ?_
  refine aops_nil ?_
  change Awp _ _ _ _ _
  refine awp_seq ?_
  refine awp_region 2 mixed (by kernel_rfl) ?_
  refine rg_q (q_move (x := .d (.v _)) rfl) ?_
  refine rg_q (q_neq rfl rfl) ?_
  refine rg_nil ?_
  refine aops_nil ?_
  change Awp _ _ _ _ _
  refine awp_cond rfl (fun hc2 => ?_) (fun hc2 => ?_)
  ·
    (try simp only [decide_eq_true_eq, decide_eq_false_iff_not, Bool.and_eq_true, Bool.or_eq_true, Bool.and_eq_false_iff, Bool.or_eq_false_iff, Bool.not_eq_true', Bool.not_eq_false', Bool.not_true, Bool.not_false, bif_and, bif_or, Bool.not_not, ne_eq, Decidable.not_not, not_true_eq_false, not_false_eq_true, Int.not_le, Int.not_lt] at hc2)
    have hz : explR l d s = (false, (ckA l).2) := by unfold explR; rw [if_pos hc2]
    refine awp_seq ?_
    refine awp_region 3 mixed (by kernel_rfl) ?_
    refine rg_q (q_move (x := .d (.v _)) rfl) ?_
    refine rg_q (q_assign (x := .d (.v _)) rfl) ?_
    refine rg_q (q_assign (x := .d (.v _)) rfl) ?_
    refine rg_nil ?_
    refine aops_nil ?_
    change Awp _ _ _ _ _
    refine awp_ret ?_
    refine ⟨_, (.cons (.tmp (by exact .d _)) (.cons (.tmp (by exact .d _)) .nil)), ?_⟩
    rw [hz]; rfl
  ·
    (try simp only [decide_eq_true_eq, decide_eq_false_iff_not, Bool.and_eq_true, Bool.or_eq_true, Bool.and_eq_false_iff, Bool.or_eq_false_iff, Bool.not_eq_true', Bool.not_eq_false', Bool.not_true, Bool.not_false, bif_and, bif_or, Bool.not_not, ne_eq, Decidable.not_not, not_true_eq_false, not_false_eq_true, Int.not_le, Int.not_lt] at hc2)
    have hz0 : (ckA l).2 = 0 := by simpa using hc2
    have hok := (ckA_ok hz0).1
    refine awp_skip ?_
    change Awp _ _ _ _ _
    refine awp_seq ?_
    refine awp_seq ?_
    refine awp_region 8 mixed (by kernel_rfl) ?_
    refine rg_q (q_load sz3 rfl rfl) ?_
    refine rg_q (q_call en92 (.cons rfl .nil) rfl (isDelay_p _)) ?_
    refine rg_q (q_not rfl) ?_
    refine rg_q (q_move (x := .d (.v _)) rfl) ?_
    refine rg_g rfl rfl (fun hG => (q_load sz3 rfl rfl)) ?_
    refine rg_g rfl rfl (fun hG => (q_call en93 (.cons rfl .nil) rfl (isSpeed_p _))) ?_
    refine rg_g rfl rfl (fun hG => (q_not rfl)) ?_
    refine rg_pick rfl rfl rfl rfl rfl rfl ?_
    refine rg_nil ?_
    refine aops_nil ?_
    change Awp _ _ _ _ _
    refine awp_cond rfl (fun hc4 => ?_) (fun hc4 => ?_)
    ·
      (try simp only [decide_eq_true_eq, decide_eq_false_iff_not, Bool.and_eq_true, Bool.or_eq_true, Bool.and_eq_false_iff, Bool.or_eq_false_iff, Bool.not_eq_true', Bool.not_eq_false', Bool.not_true, Bool.not_false, bif_and, bif_or, Bool.not_not, ne_eq, Decidable.not_not, not_true_eq_false, not_false_eq_true, Int.not_le, Int.not_lt] at hc4)
      have hz : explR l d s = (false, 2) := by unfold explR; rw [if_neg (by rw [hz0]; simp), if_pos (by simpa using hc4)]
      refine awp_seq ?_
      refine awp_region 2 mixed (by kernel_rfl) ?_
      refine rg_q (q_assign (x := .d (.v _)) rfl) ?_
      refine rg_q (q_assign (x := .d (.v _)) rfl) ?_
      refine rg_nil ?_
      refine aops_nil ?_
      change Awp _ _ _ _ _
      refine awp_ret ?_
      refine ⟨_, (.cons (.tmp (by exact .d _)) (.cons (.tmp (by exact .d _)) .nil)), ?_⟩
      rw [hz]; rfl
    ·
      (try simp only [decide_eq_true_eq, decide_eq_false_iff_not, Bool.and_eq_true, Bool.or_eq_true, Bool.and_eq_false_iff, Bool.or_eq_false_iff, Bool.not_eq_true', Bool.not_eq_false', Bool.not_true, Bool.not_false, bif_and, bif_or, Bool.not_not, ne_eq, Decidable.not_not, not_true_eq_false, not_false_eq_true, Int.not_le, Int.not_lt] at hc4)
      have hb : (!(inR (-1000000000000) d 1000000000000) || !(inR 500 s 10000)) = false := by simpa using hc4
      have hz : explR l d s = (!(l.any fun a => !exP d s a), 0) := by unfold explR; rw [if_neg (by rw [hz0]; simp), if_neg (by rw [hb]; simp)]
      have hb2 := hb
      simp [inR] at hb2
      obtain ⟨⟨d1, d2⟩, s1, s2⟩ := hb2
      refine awp_skip ?_
      change Awp _ _ _ _ _
      refine awp_seq ?_
      refine awp_region 2 mixed (by kernel_rfl) ?_
      refine rg_q (q_makeFunc (.cons rfl (.cons rfl .nil))) ?_
      refine rg_q (q_assign (x := .d (.fn _ _)) rfl) ?_
      refine rg_nil ?_
      refine aops_nil ?_
      change Awp _ _ _ _ _
      refine awp_seq ?_
      refine awp_region 6 mixed (by kernel_rfl) ?_
      refine rg_q (q_move (x := .d (.sl _ _)) rfl) ?_
      refine rg_q (q_move (x := .d (.fn _ _)) rfl) ?_
      refine rg_q (q_call en112 (.cons rfl (.cons rfl .nil)) rfl (containsArc_p arcC (fun a => !exP d s a) 111 [.pt [.v (.int .i64 d)] 0, .pt [.v (.int .i64 s)] 0] en111 l (fun _ => rfl) (fun a ha => explains1_p a d s (hok.ok a ha).1 d1 d2 s1 s2))) ?_
      refine rg_q (q_not rfl) ?_
      refine rg_q (q_assign (x := .d (.v _)) rfl) ?_
      refine rg_q (q_assign (x := .d (.v _)) rfl) ?_
      refine rg_nil ?_
      refine aops_nil ?_
      change Awp _ _ _ _ _
      refine awp_ret ?_
      refine ⟨_, (.cons (.tmp (by exact .d _)) (.cons (.tmp (by exact .d _)) .nil)), ?_⟩
      rw [hz]; rfl

def contr (a b c : Arc) : Bool := decide (a.hi * (c.r - b.r) + c.hi * (b.r - a.r) < b.lo * (c.r - a.r)) || decide (b.hi * (c.r - a.r) < a.lo * (c.r - b.r) + c.lo * (b.r - a.r))
def cK (l : List Arc) (i j : Nat) : Nat → Option (Nat × Nat × Nat)
  | 0 => none
  | d + 1 => if contr (l.getD i ⟨0, 0, 0⟩) (l.getD j ⟨0, 0, 0⟩) (l.getD (l.length - (d + 1)) ⟨0, 0, 0⟩) = true then some (i, j, l.length - (d + 1)) else cK l i j d
def cJ (l : List Arc) (i : Nat) : Nat → Option (Nat × Nat × Nat)
  | 0 => none
  | d + 1 => (cK l i (l.length - (d + 1)) d).or (cJ l i d)
def cI (l : List Arc) : Nat → Option (Nat × Nat × Nat)
  | 0 => none
  | d + 1 => (cJ l (l.length - (d + 1)) d).or (cI l d)
def conR (l : List Arc) : Option (Nat × Nat × Nat) := cI l l.length
def t1 (t : Option (Nat × Nat × Nat)) : Int := match t with
  | some t => t.1
  | none => 0
def t2 (t : Option (Nat × Nat × Nat)) : Int := match t with
  | some t => t.2.1
  | none => 0
def t3 (t : Option (Nat × Nat × Nat)) : Int := match t with
  | some t => t.2.2
  | none => 0
def triO (t : Option (Nat × Nat × Nat)) : List D := [.v (.int .i64 (t1 t)), .v (.int .i64 (t2 t)), .v (.int .i64 (t3 t))]
theorem cI_at {l : List Arc} {i : Nat} (h : i < l.length) : cI l (l.length - i) = (cJ l i (l.length - (i + 1))).or (cI l (l.length - (i + 1))) := by
  obtain ⟨d, hd⟩ : ∃ d, l.length - i = d + 1 := ⟨l.length - i - 1, by omega⟩
  rw [hd, cI, show l.length - (d + 1) = i by omega, show l.length - (i + 1) = d by omega]
theorem cJ_at {l : List Arc} {i j : Nat} (h : j < l.length) : cJ l i (l.length - j) = (cK l i j (l.length - (j + 1))).or (cJ l i (l.length - (j + 1))) := by
  obtain ⟨d, hd⟩ : ∃ d, l.length - j = d + 1 := ⟨l.length - j - 1, by omega⟩
  rw [hd, cJ, show l.length - (d + 1) = j by omega, show l.length - (j + 1) = d by omega]
theorem cK_at {l : List Arc} {i j k : Nat} {a b c : Arc} (ha : l[i]? = some a) (hb : l[j]? = some b) (hc : l[k]? = some c) : cK l i j (l.length - k) = if contr a b c = true then some (i, j, k) else cK l i j (l.length - (k + 1)) := by
  have h := (List.getElem?_eq_some_iff.1 hc).1
  obtain ⟨d, hd⟩ : ∃ d, l.length - k = d + 1 := ⟨l.length - k - 1, by omega⟩
  rw [hd, cK, show l.length - (d + 1) = k by omega, show l.length - (k + 1) = d by omega]
  simp only [List.getD_eq_getElem?_getD, ha, hb, hc, Option.getD_some]
/-- A difference of radii, times a time. -/
theorem tmul {t x y : Int} (h1 : 0 ≤ t) (h2 : t ≤ 1000000000000) (h3 : 1 ≤ x) (h4 : x ≤ 100000) (h5 : 1 ≤ y) (h6 : y ≤ 100000) : -100000000000000000 ≤ t * (x - y) ∧ t * (x - y) ≤ 100000000000000000 := by
  have := mulb (a := t) (b := x - y) (A := 1000000000000) (B := 100000) (by omega) (by omega) (by omega) (by omega)
  omega
set_option maxRecDepth 100000 in
theorem contradict_p (a b c : Arc) (ha : ArcOk a) (hb : ArcOk b) (hc : ArcOk c) : PC Try.prog 114 [.agg (arcC a), .agg (arcC b), .agg (arcC c)] (.v (.bool (contr a b c))) := by
  obtain ⟨a1, a2, a3, a4, a5, a6⟩ := ha
  obtain ⟨b1, b2, b3, b4, b5, b6⟩ := hb
  obtain ⟨c1, c2, c3, c4, c5, c6⟩ := hc
  have m1 := tmul a5 a6 c1 c2 b1 b2
  have m2 := tmul c5 c6 b1 b2 a1 a2
  have m3 := tmul a3 a4 c1 c2 b1 b2
  have m4 := tmul c3 c4 b1 b2 a1 a2
  have m5 := tmul b3 b4 c1 c2 a1 a2
  have m6 := tmul b5 b6 c1 c2 a1 a2
  refine pc_of_awp Try.func114 rfl Try.ntmps114 (rs := [.tmp 6]) Try.results114 (by simp) fun w0 => ?_
  refine awp_seq ?_
  refine awp_region 4 mixed (by kernel_rfl) ?_
  refine rg_q (q_box rfl (by exact .inr ⟨_, rfl⟩)) ?_
  refine rg_q (q_box rfl (by exact .inr ⟨_, rfl⟩)) ?_
  refine rg_q (q_box rfl (by exact .inr ⟨_, rfl⟩)) ?_
  refine rg_q (q_assign (x := .d (.v _)) rfl) ?_
  refine rg_nil ?_
  refine aops_nil ?_
  change Awp _ _ _ _ _
  refine awp_seq ?_
  refine awp_region 18 mixed (by kernel_rfl) ?_
  refine rg_q (q_fieldAddr fld105_0 rfl) ?_
  refine rg_q (q_load sz3 rfl rfl) ?_
  refine rg_q (q_fieldAddr fld105_0 rfl) ?_
  refine rg_q (q_load sz3 rfl rfl) ?_
  refine rg_q (q_sub rfl rfl (In64.mk (by omega) (by omega))) ?_
  refine rg_q (q_fieldAddr fld105_0 rfl) ?_
  refine rg_q (q_load sz3 rfl rfl) ?_
  refine rg_q (q_fieldAddr fld105_0 rfl) ?_
  refine rg_q (q_load sz3 rfl rfl) ?_
  refine rg_q (q_sub rfl rfl (In64.mk (by omega) (by omega))) ?_
  refine rg_q (q_fieldAddr fld105_0 rfl) ?_
  refine rg_q (q_load sz3 rfl rfl) ?_
  refine rg_q (q_fieldAddr fld105_0 rfl) ?_
  refine rg_q (q_load sz3 rfl rfl) ?_
  refine rg_q (q_sub rfl rfl (In64.mk (by omega) (by omega))) ?_
  refine rg_q (q_assign (x := .d (.v _)) rfl) ?_
  refine rg_q (q_assign (x := .d (.v _)) rfl) ?_
  refine rg_q (q_assign (x := .d (.v _)) rfl) ?_
  refine rg_nil ?_
  refine aops_nil ?_
  change Awp _ _ _ _ _
  refine awp_seq ?_
  refine awp_region 12 mixed (by kernel_rfl) ?_
  refine rg_q (q_fieldAddr fld105_1 rfl) ?_
  refine rg_q (q_fieldAddr fld52_1 rfl) ?_
  refine rg_q (q_load sz3 rfl rfl) ?_
  refine rg_q (q_move (x := .d (.v _)) rfl) ?_
  refine rg_q (q_mul rfl rfl (In64.mk (by omega) (by omega))) ?_
  refine rg_q (q_fieldAddr fld105_1 rfl) ?_
  refine rg_q (q_fieldAddr fld52_1 rfl) ?_
  refine rg_q (q_load sz3 rfl rfl) ?_
  refine rg_q (q_move (x := .d (.v _)) rfl) ?_
  refine rg_q (q_mul rfl rfl (In64.mk (by omega) (by omega))) ?_
  refine rg_q (q_add rfl rfl (In64.mk (by omega) (by omega))) ?_
  refine rg_q (q_assign (x := .d (.v _)) rfl) ?_
  refine rg_nil ?_
  refine aops_nil ?_
  change Awp _ _ _ _ _
  refine awp_seq ?_
  refine awp_region 12 mixed (by kernel_rfl) ?_
  refine rg_q (q_fieldAddr fld105_1 rfl) ?_
  refine rg_q (q_fieldAddr fld52_0 rfl) ?_
  refine rg_q (q_load sz3 rfl rfl) ?_
  refine rg_q (q_move (x := .d (.v _)) rfl) ?_
  refine rg_q (q_mul rfl rfl (In64.mk (by omega) (by omega))) ?_
  refine rg_q (q_fieldAddr fld105_1 rfl) ?_
  refine rg_q (q_fieldAddr fld52_0 rfl) ?_
  refine rg_q (q_load sz3 rfl rfl) ?_
  refine rg_q (q_move (x := .d (.v _)) rfl) ?_
  refine rg_q (q_mul rfl rfl (In64.mk (by omega) (by omega))) ?_
  refine rg_q (q_add rfl rfl (In64.mk (by omega) (by omega))) ?_
  refine rg_q (q_assign (x := .d (.v _)) rfl) ?_
  refine rg_nil ?_
  refine aops_nil ?_
  change Awp _ _ _ _ _
  refine awp_seq ?_
  refine awp_region 17 mixed (by kernel_rfl) ?_
  refine rg_q (q_move (x := .d (.v _)) rfl) ?_
  refine rg_q (q_fieldAddr fld105_1 rfl) ?_
  refine rg_q (q_fieldAddr fld52_0 rfl) ?_
  refine rg_q (q_load sz3 rfl rfl) ?_
  refine rg_q (q_move (x := .d (.v _)) rfl) ?_
  refine rg_q (q_mul rfl rfl (In64.mk (by omega) (by omega))) ?_
  refine rg_q (q_lss rfl rfl) ?_
  refine rg_q (q_move (x := .d (.v _)) rfl) ?_
  refine rg_g rfl rfl (fun hG => (q_move (x := .d (.v _)) rfl)) ?_
  refine rg_g rfl rfl (fun hG => (q_fieldAddr fld105_1 rfl)) ?_
  refine rg_g rfl rfl (fun hG => (q_fieldAddr fld52_1 rfl)) ?_
  refine rg_g rfl rfl (fun hG => (q_load sz3 rfl rfl)) ?_
  refine rg_g rfl rfl (fun hG => (q_move (x := .d (.v _)) rfl)) ?_
  refine rg_g rfl rfl (fun hG => (q_mul rfl rfl (In64.mk (by (have hg0 := T.bool_inj (a := _) hG.1; (try simp only [decide_eq_true_eq, decide_eq_false_iff_not, Bool.and_eq_true, Bool.or_eq_true, Bool.and_eq_false_iff, Bool.or_eq_false_iff, Bool.not_eq_true', Bool.not_eq_false', Bool.not_true, Bool.not_false, bif_and, bif_or, Bool.not_not, ne_eq, Decidable.not_not, not_true_eq_false, not_false_eq_true, Int.not_le, Int.not_lt] at hg0); omega)) (by (have hg0 := T.bool_inj (a := _) hG.1; (try simp only [decide_eq_true_eq, decide_eq_false_iff_not, Bool.and_eq_true, Bool.or_eq_true, Bool.and_eq_false_iff, Bool.or_eq_false_iff, Bool.not_eq_true', Bool.not_eq_false', Bool.not_true, Bool.not_false, bif_and, bif_or, Bool.not_not, ne_eq, Decidable.not_not, not_true_eq_false, not_false_eq_true, Int.not_le, Int.not_lt] at hg0); omega))))) ?_
  refine rg_g rfl rfl (fun hG => (q_gtr rfl rfl)) ?_
  refine rg_pick rfl rfl rfl rfl rfl rfl ?_
  refine rg_q (q_assign (x := .d (.v _)) rfl) ?_
  refine rg_nil ?_
  refine aops_nil ?_
  change Awp _ _ _ _ _
  refine awp_ret ?_
  refine ⟨_, (.cons (.tmp (by exact .d _)) .nil), ?_⟩
  simp only [bif_or]; rfl

def ctr (l : List Arc) : Option (Nat × Nat × Nat) × Int := if (ckA l).2 ≠ 0 then (none, (ckA l).2) else match conR l with
  | some t => (some t, 0)
  | none => (none, 12)
set_option maxRecDepth 100000 in
theorem Contradiction_p (l : List Arc) : PC Try.prog 69 [.sl 3 (l.map arcC)] (.tup [.agg (triO (ctr l).1), .v (.int .i64 ((ctr l).2))]) := by
  refine pc_of_awp Try.func69 rfl Try.ntmps69 (rs := [.cell 2 107, .tmp 3]) Try.results69 (by simp) fun w0 => ?_
  refine awp_seq ?_
  refine awp_region 0 mixed (by kernel_rfl) ?_
  refine rg_nil ?_
  refine aops_alloc zr107 rfl rfl rfl ?_
  refine aops_q rfl (q_assign (x := .d (.v _)) rfl) ?_
  refine aops_nil ?_
  change Awp _ _ _ _ _
  refine awp_seq ?_
  refine awp_seq ?_
  refine awp_region 7 mixed (by kernel_rfl) ?_
  refine rg_q (q_move (x := .d (.sl _ _)) rfl) ?_
  refine rg_q (q_call en106 (.cons rfl .nil) rfl (openA_p _)) ?_
  refine rg_q (q_move (x := .d (.tup _)) rfl) ?_
  refine rg_q (q_extract rfl rfl) ?_
  refine rg_q (q_extract rfl rfl) ?_
  refine rg_q (q_assign (x := .d (.sl _ _)) rfl) ?_
  refine rg_q (q_assign (x := .d (.v _)) rfl) ?_
  refine rg_nil ?_
  refine aops_nil ?_
  change Awp _ _ _ _ _
  refine awp_seq ?_
  refine awp_region 2 mixed (by kernel_rfl) ?_
  refine rg_q (q_move (x := .d (.v _)) rfl) ?_
  refine rg_q (q_neq rfl rfl) ?_
  refine rg_nil ?_
  refine aops_nil ?_
  change Awp _ _ _ _ _
  refine awp_cond rfl (fun hc2 => ?_) (fun hc2 => ?_)
  ·
    (try simp only [decide_eq_true_eq, decide_eq_false_iff_not, Bool.and_eq_true, Bool.or_eq_true, Bool.and_eq_false_iff, Bool.or_eq_false_iff, Bool.not_eq_true', Bool.not_eq_false', Bool.not_true, Bool.not_false, bif_and, bif_or, Bool.not_not, ne_eq, Decidable.not_not, not_true_eq_false, not_false_eq_true, Int.not_le, Int.not_lt] at hc2)
    have hz : ctr l = (none, (ckA l).2) := by unfold ctr; rw [if_pos hc2]
    refine awp_seq ?_
    refine awp_region 2 mixed (by kernel_rfl) ?_
    refine rg_q (q_buildA (cs := [_, _, _]) ar107 zr107 rfl .nil trivial rfl) ?_
    refine rg_q (q_move (x := .d (.v _)) rfl) ?_
    refine rg_nil ?_
    refine aops_store sz107 rfl rfl (by exact .inr ⟨_, rfl⟩) rfl rfl (by decide) rfl ?_
    refine aops_q rfl (q_assign (x := .d (.v _)) rfl) ?_
    refine aops_nil ?_
    change Awp _ _ _ _ _
    refine awp_ret ?_
    refine ⟨_, (.cons (.cellA rfl rfl sz107 rfl) (.cons (.tmp (by exact .d _)) .nil)), ?_⟩
    rw [hz]; rfl
  ·
    (try simp only [decide_eq_true_eq, decide_eq_false_iff_not, Bool.and_eq_true, Bool.or_eq_true, Bool.and_eq_false_iff, Bool.or_eq_false_iff, Bool.not_eq_true', Bool.not_eq_false', Bool.not_true, Bool.not_false, bif_and, bif_or, Bool.not_not, ne_eq, Decidable.not_not, not_true_eq_false, not_false_eq_true, Int.not_le, Int.not_lt] at hc2)
    have hz0 : (ckA l).2 = 0 := by simpa using hc2
    have hok := (ckA_ok hz0).1
    have hzc : ctr l = match conR l with | some t => (some t, 0) | none => (none, 12) := by unfold ctr; rw [if_neg (by rw [hz0]; simp)]
    refine awp_skip ?_
    change Awp _ _ _ _ _
    refine awp_seq ?_
    refine awp_seq ?_
    refine awp_region 3 mixed (by kernel_rfl) ?_
    refine rg_q (q_move (x := .d (.sl _ _)) rfl) ?_
    refine rg_q (q_len isl93 rfl (by exact len_map _ _)) ?_
    refine rg_q (q_move (x := .d (.v _)) rfl) ?_
    refine rg_nil ?_
    refine aops_nil ?_
    change Awp _ _ _ _ _
    refine awp_len (t := 18) rfl (fun hl18 => ?_)
    (try simp only [List.length_map] at hl18)
    refine awp_block ?_
    refine awp_loopH [3, 6, 7, 8, 20, 21, 22, 23, 24, 25, 26, 27, 28, 29, 30, 31, 32, 33, 34, 35, 36, 37, 38, 39, 40, 41, 42, 43, 44, 45, 46, 47, 48, 49, 50, 51, 52, 53, 54, 55, 56] [] (α := Nat) (fun i => [(20, T.i (i : Int))]) (fun i => []) (fun i => i ≤ l.length ∧ conR l = cI l (l.length - i)) (fun i => l.length - i) 0 ⟨Nat.zero_le _, rfl⟩ ?_ ?_
    · exact le_head (ms := []) (by repeat (exact Out.refl _)) ⟨(by rfl), trivial⟩ trivial rfl rfl rfl rfl
    ·
      intro i ⟨hi, hhi⟩
      refine awp_seq ?_
      refine awp_region 1 mixed (by kernel_rfl) ?_
      refine rg_q (q_lss rfl rfl) ?_
      refine rg_nil ?_
      refine aops_nil ?_
      change Awp _ _ _ _ _
      refine awp_seq ?_
      refine awp_cond rfl (fun hc5 => ?_) (fun hc5 => ?_)
      ·
        (try simp only [decide_eq_true_eq, decide_eq_false_iff_not, Bool.and_eq_true, Bool.or_eq_true, Bool.and_eq_false_iff, Bool.or_eq_false_iff, Bool.not_eq_true', Bool.not_eq_false', Bool.not_true, Bool.not_false, bif_and, bif_or, Bool.not_not, ne_eq, Decidable.not_not, not_true_eq_false, not_false_eq_true, Int.not_le, Int.not_lt] at hc5)
        have hil : i < l.length := by omega
        obtain ⟨xi, hxi⟩ : ∃ x, l[i]? = some x := ⟨_, List.getElem?_eq_getElem hil⟩
        refine awp_skip ?_
        change Awp _ _ _ _ _
        refine awp_seq ?_
        refine awp_block ?_
        refine awp_seq ?_
        refine awp_region 2 mixed (by kernel_rfl) ?_
        refine rg_q (q_move (x := .d (.v _)) rfl) ?_
        refine rg_q (q_assign (x := .d (.v _)) rfl) ?_
        refine rg_nil ?_
        refine aops_nil ?_
        change Awp _ _ _ _ _
        refine awp_seq ?_
        refine awp_region 3 mixed (by kernel_rfl) ?_
        refine rg_q (q_move (x := .d (.v _)) rfl) ?_
        refine rg_q (q_add rfl rfl (In64.mk (by omega) (by omega))) ?_
        refine rg_q (q_assign (x := .d (.v _)) rfl) ?_
        refine rg_nil ?_
        refine aops_nil ?_
        change Awp _ _ _ _ _
        refine awp_block ?_
        refine awp_loopH [3, 7, 8, 25, 26, 27, 28, 29, 30, 31, 32, 33, 34, 35, 36, 37, 38, 39, 40, 41, 42, 43, 44, 45, 46, 47, 48, 49, 50, 51, 52, 53, 54, 55] [] (α := Nat) (fun j => [(7, T.i (j : Int))]) (fun j => []) (fun j => i < j ∧ j ≤ l.length ∧ conR l = (cJ l i (l.length - j)).or (cI l (l.length - (i + 1)))) (fun j => l.length - j) (i + 1) ⟨by omega, by omega, by rw [hhi, cI_at hil]⟩ ?_ ?_
        · exact le_head (ms := []) (by repeat (exact Out.refl _)) ⟨(by rfl), trivial⟩ trivial rfl rfl rfl rfl
        ·
          intro j ⟨hij, hj, hhj⟩
          refine awp_seq ?_
          refine awp_seq ?_
          refine awp_region 4 mixed (by kernel_rfl) ?_
          refine rg_q (q_move (x := .d (.v _)) rfl) ?_
          refine rg_q (q_move (x := .d (.sl _ _)) rfl) ?_
          refine rg_q (q_len isl93 rfl (by exact len_map _ _)) ?_
          refine rg_q (q_lss rfl rfl) ?_
          refine rg_nil ?_
          refine aops_nil ?_
          change Awp _ _ _ _ _
          refine awp_len (t := 26) rfl (fun hl26 => ?_)
          (try simp only [List.length_map] at hl26)
          refine awp_cond rfl (fun hc8 => ?_) (fun hc8 => ?_)
          ·
            (try simp only [decide_eq_true_eq, decide_eq_false_iff_not, Bool.and_eq_true, Bool.or_eq_true, Bool.and_eq_false_iff, Bool.or_eq_false_iff, Bool.not_eq_true', Bool.not_eq_false', Bool.not_true, Bool.not_false, bif_and, bif_or, Bool.not_not, ne_eq, Decidable.not_not, not_true_eq_false, not_false_eq_true, Int.not_le, Int.not_lt] at hc8)
            have hjl : j < l.length := by omega
            obtain ⟨xj, hxj⟩ : ∃ x, l[j]? = some x := ⟨_, List.getElem?_eq_getElem hjl⟩
            refine awp_skip ?_
            change Awp _ _ _ _ _
            refine awp_seq ?_
            refine awp_block ?_
            refine awp_seq ?_
            refine awp_region 3 mixed (by kernel_rfl) ?_
            refine rg_q (q_move (x := .d (.v _)) rfl) ?_
            refine rg_q (q_add rfl rfl (In64.mk (by omega) (by omega))) ?_
            refine rg_q (q_assign (x := .d (.v _)) rfl) ?_
            refine rg_nil ?_
            refine aops_nil ?_
            change Awp _ _ _ _ _
            refine awp_block ?_
            refine awp_loopH [3, 8, 33, 34, 35, 36, 37, 38, 39, 40, 41, 42, 43, 44, 45, 46, 47, 48, 49, 50, 51, 52, 53, 54, 55] [] (α := Nat) (fun k => [(8, T.i (k : Int))]) (fun k => []) (fun k => j < k ∧ k ≤ l.length ∧ conR l = (cK l i j (l.length - k)).or ((cJ l i (l.length - (j + 1))).or (cI l (l.length - (i + 1))))) (fun k => l.length - k) (j + 1) ⟨by omega, by omega, by rw [hhj, cJ_at hjl, Option.or_assoc]⟩ ?_ ?_
            · exact le_head (ms := []) (by repeat (exact Out.refl _)) ⟨(by rfl), trivial⟩ trivial rfl rfl rfl rfl
            ·
              intro k ⟨hjk, hk, hhk⟩
              refine awp_seq ?_
              refine awp_seq ?_
              refine awp_region 4 mixed (by kernel_rfl) ?_
              refine rg_q (q_move (x := .d (.v _)) rfl) ?_
              refine rg_q (q_move (x := .d (.sl _ _)) rfl) ?_
              refine rg_q (q_len isl93 rfl (by exact len_map _ _)) ?_
              refine rg_q (q_lss rfl rfl) ?_
              refine rg_nil ?_
              refine aops_nil ?_
              change Awp _ _ _ _ _
              refine awp_len (t := 34) rfl (fun hl34 => ?_)
              (try simp only [List.length_map] at hl34)
              refine awp_cond rfl (fun hc11 => ?_) (fun hc11 => ?_)
              ·
                (try simp only [decide_eq_true_eq, decide_eq_false_iff_not, Bool.and_eq_true, Bool.or_eq_true, Bool.and_eq_false_iff, Bool.or_eq_false_iff, Bool.not_eq_true', Bool.not_eq_false', Bool.not_true, Bool.not_false, bif_and, bif_or, Bool.not_not, ne_eq, Decidable.not_not, not_true_eq_false, not_false_eq_true, Int.not_le, Int.not_lt] at hc11)
                have hkl : k < l.length := by omega
                obtain ⟨xk, hxk⟩ : ∃ x, l[k]? = some x := ⟨_, List.getElem?_eq_getElem hkl⟩
                have hck := cK_at (l := l) hxi hxj hxk
                refine awp_skip ?_
                change Awp _ _ _ _ _
                refine awp_seq ?_
                refine awp_block ?_
                refine awp_seq ?_
                refine awp_region 13 mixed (by kernel_rfl) ?_
                refine rg_q (q_move (x := .d (.sl _ _)) rfl) ?_
                refine rg_q (q_move (x := .d (.v _)) rfl) ?_
                refine rg_q (q_indexAddr sl93 rfl rfl (by omega) (map_at (by omega) hxi)) ?_
                refine rg_q (q_loadA (ds := [_, _, _]) sz105 rfl rfl rfl) ?_
                refine rg_q (q_move (x := .d (.sl _ _)) rfl) ?_
                refine rg_q (q_move (x := .d (.v _)) rfl) ?_
                refine rg_q (q_indexAddr sl93 rfl rfl (by omega) (map_at (by omega) hxj)) ?_
                refine rg_q (q_loadA (ds := [_, _, _]) sz105 rfl rfl rfl) ?_
                refine rg_q (q_move (x := .d (.sl _ _)) rfl) ?_
                refine rg_q (q_move (x := .d (.v _)) rfl) ?_
                refine rg_q (q_indexAddr sl93 rfl rfl (by omega) (map_at (by omega) hxk)) ?_
                refine rg_q (q_loadA (ds := [_, _, _]) sz105 rfl rfl rfl) ?_
                refine rg_q (q_call en114 (.cons rfl (.cons rfl (.cons rfl .nil))) rfl (contradict_p _ _ _ (hok.ok _ (List.mem_of_getElem? hxi)).1 (hok.ok _ (List.mem_of_getElem? hxj)).1 (hok.ok _ (List.mem_of_getElem? hxk)).1)) ?_
                refine rg_nil ?_
                refine aops_nil ?_
                change Awp _ _ _ _ _
                refine awp_cond rfl (fun hc13 => ?_) (fun hc13 => ?_)
                ·
                  (try simp only [decide_eq_true_eq, decide_eq_false_iff_not, Bool.and_eq_true, Bool.or_eq_true, Bool.and_eq_false_iff, Bool.or_eq_false_iff, Bool.not_eq_true', Bool.not_eq_false', Bool.not_true, Bool.not_false, bif_and, bif_or, Bool.not_not, ne_eq, Decidable.not_not, not_true_eq_false, not_false_eq_true, Int.not_le, Int.not_lt] at hc13)
                  have hz : conR l = some (i, j, k) := by rw [hhk, hck, if_pos hc13]; rfl
                  refine awp_seq ?_
                  refine awp_region 4 mixed (by kernel_rfl) ?_
                  refine rg_q (q_move (x := .d (.v _)) rfl) ?_
                  refine rg_q (q_move (x := .d (.v _)) rfl) ?_
                  refine rg_q (q_move (x := .d (.v _)) rfl) ?_
                  refine rg_q (q_buildA (cs := [_, _, _]) ar107 zr107 rfl (.cons rfl (by exact .inl rfl) (.cons rfl (by exact .inl rfl) (.cons rfl (by exact .inl rfl) .nil))) ⟨⟨rfl, by decide⟩, ⟨rfl, by decide⟩, ⟨rfl, by decide⟩, trivial⟩ rfl) ?_
                  refine rg_nil ?_
                  refine aops_store sz107 rfl rfl (by exact .inr ⟨_, rfl⟩) rfl rfl (by decide) rfl ?_
                  refine aops_q rfl (q_assign (x := .d (.v _)) rfl) ?_
                  refine aops_nil ?_
                  change Awp _ _ _ _ _
                  refine awp_ret ?_
                  refine ⟨_, (.cons (.cellA rfl rfl sz107 rfl) (.cons (.tmp (by exact .d _)) .nil)), ?_⟩
                  rw [hzc, hz]; rfl
                ·
                  (try simp only [decide_eq_true_eq, decide_eq_false_iff_not, Bool.and_eq_true, Bool.or_eq_true, Bool.and_eq_false_iff, Bool.or_eq_false_iff, Bool.not_eq_true', Bool.not_eq_false', Bool.not_true, Bool.not_false, bif_and, bif_or, Bool.not_not, ne_eq, Decidable.not_not, not_true_eq_false, not_false_eq_true, Int.not_le, Int.not_lt] at hc13)
                  have hnk : conR l = (cK l i j (l.length - (k + 1))).or ((cJ l i (l.length - (j + 1))).or (cI l (l.length - (i + 1)))) := by rw [hhk, hck, if_neg (by rw [hc13]; simp)]
                  refine awp_skip ?_
                  change Awp _ _ _ _ _
                  refine awp_region 3 mixed (by kernel_rfl) ?_
                  refine rg_q (q_move (x := .d (.v _)) rfl) ?_
                  refine rg_q (q_add rfl rfl (In64.mk (by omega) (by omega))) ?_
                  refine rg_q (q_assign (x := .d (.v _)) rfl) ?_
                  refine rg_nil ?_
                  refine aops_nil ?_
                  refine ⟨k + 1, ⟨by omega, by omega, hnk⟩, by omega, ?_⟩
                  exact le_head (ms := []) (by repeat (first | exact Out.head rfl rfl | (refine Out.put ?_ rfl))) ⟨(by rfl), trivial⟩ trivial rfl rfl rfl rfl
              ·
                (try simp only [decide_eq_true_eq, decide_eq_false_iff_not, Bool.and_eq_true, Bool.or_eq_true, Bool.and_eq_false_iff, Bool.or_eq_false_iff, Bool.not_eq_true', Bool.not_eq_false', Bool.not_true, Bool.not_false, bif_and, bif_or, Bool.not_not, ne_eq, Decidable.not_not, not_true_eq_false, not_false_eq_true, Int.not_le, Int.not_lt] at hc11)
                have hkl : k = l.length := by omega
                have hnj : conR l = (cJ l i (l.length - (j + 1))).or (cI l (l.length - (i + 1))) := by rw [hhk, hkl, Nat.sub_self]; rfl
                refine awp_exit ?_
                change Awp _ _ _ _ _
                refine awp_region 3 mixed (by kernel_rfl) ?_
                refine rg_q (q_move (x := .d (.v _)) rfl) ?_
                refine rg_q (q_add rfl rfl (In64.mk (by omega) (by omega))) ?_
                refine rg_q (q_assign (x := .d (.v _)) rfl) ?_
                refine rg_nil ?_
                refine aops_nil ?_
                refine ⟨j + 1, ⟨by omega, by omega, hnj⟩, by omega, ?_⟩
                exact le_head (ms := []) (by repeat (first | exact Out.head rfl rfl | (refine Out.put ?_ rfl) | (refine Out.headIn ?_ rfl rfl rfl))) ⟨(by rfl), trivial⟩ trivial rfl rfl rfl rfl
          ·
            (try simp only [decide_eq_true_eq, decide_eq_false_iff_not, Bool.and_eq_true, Bool.or_eq_true, Bool.and_eq_false_iff, Bool.or_eq_false_iff, Bool.not_eq_true', Bool.not_eq_false', Bool.not_true, Bool.not_false, bif_and, bif_or, Bool.not_not, ne_eq, Decidable.not_not, not_true_eq_false, not_false_eq_true, Int.not_le, Int.not_lt] at hc8)
            have hjl : j = l.length := by omega
            have hni : conR l = cI l (l.length - (i + 1)) := by rw [hhj, hjl, Nat.sub_self]; rfl
            refine awp_exit ?_
            change Awp _ _ _ _ _
            refine awp_region 2 mixed (by kernel_rfl) ?_
            refine rg_q (q_add rfl rfl (In64.mk (by omega) (by omega))) ?_
            refine rg_q (q_move (x := .d (.v _)) rfl) ?_
            refine rg_nil ?_
            refine aops_nil ?_
            refine ⟨i + 1, ⟨by omega, hni⟩, by omega, ?_⟩
            exact le_head (ms := []) (by repeat (first | exact Out.head rfl rfl | (refine Out.put ?_ rfl) | (refine Out.headIn ?_ rfl rfl rfl))) ⟨(by rfl), trivial⟩ trivial rfl rfl rfl rfl
      ·
        (try simp only [decide_eq_true_eq, decide_eq_false_iff_not, Bool.and_eq_true, Bool.or_eq_true, Bool.and_eq_false_iff, Bool.or_eq_false_iff, Bool.not_eq_true', Bool.not_eq_false', Bool.not_true, Bool.not_false, bif_and, bif_or, Bool.not_not, ne_eq, Decidable.not_not, not_true_eq_false, not_false_eq_true, Int.not_le, Int.not_lt] at hc5)
        have hil : i = l.length := by omega
        have hz : conR l = none := by rw [hhi, hil, Nat.sub_self]; rfl
        refine awp_exit ?_
        change Awp _ _ _ _ _
        refine awp_seq ?_
        refine awp_region 1 mixed (by kernel_rfl) ?_
        refine rg_q (q_buildA (cs := [_, _, _]) ar107 zr107 rfl .nil trivial rfl) ?_
        refine rg_nil ?_
        refine aops_store sz107 rfl rfl (by exact .inr ⟨_, rfl⟩) rfl rfl (by decide) rfl ?_
        refine aops_q rfl (q_assign (x := .d (.v _)) rfl) ?_
        refine aops_nil ?_
        change Awp _ _ _ _ _
        refine awp_ret ?_
        refine ⟨_, (.cons (.cellA rfl rfl sz107 rfl) (.cons (.tmp (by exact .d _)) .nil)), ?_⟩
        rw [hzc, hz]; rfl
end Go.Proofs.Ytgdcidbpadhkpaa.Am.M
