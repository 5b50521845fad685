/- Contracts over the abstract machine, joined. Conditions: none. -/
import Derived.Test.YtphlaicnmmglhaaGreatJ2
import Derived.Test.YtphlaicnmmglhaaGreatAmF
import Derived.Test.YtphlaicnmmglhaaGreatJ1
set_option linter.unusedVariables false
set_option linter.unusedSimpArgs false
-- mini
namespace Go.Proofs.YtphlaicnmmglhaaGreat.Am.M
open Go
set_option maxRecDepth 100000 in
theorem Floor_p (n b : Int) (h : Sm n) (hb : 0 < b) : PC Tryz.prog 273 [.v (.int .i64 (n)), .v (.int .i64 (b))] (.v (.int .i64 (n / b))) := by
 have hq := tdiv_sm h hb
 obtain ⟨h1, h2⟩ := h
 obtain ⟨h3, h4⟩ := hq
 have hl := floor_law (n := n) hb
 refine pc_of_awp Tryz.func273 rfl Tryz.ntmps273 (rs := [.tmp 4]) Tryz.results273 (by simp) fun w0 => ?_
 refine awp_seq ?_
 refine awp_region 1 mixed (by kernel_rfl) ?_
 refine rg_q (q_a rfl) ?_
 refine rs (awp_region 4 mixed (by kernel_rfl) ?_)
 refine rg_q (q_m rfl) (rg_q (q_m rfl) ?_)
 refine rg_q (q_quo rfl rfl (by omega) (In64.mk (by omega) (by omega))) ?_
 refine rg_q (q_a rfl) ?_
 refine rn ?_
 change Awp _ _ _ _ _
 refine awp_seq ?_
 refine awp_seq ?_
 refine awp_region 4 mixed (by kernel_rfl) ?_
 refine rg_q (q_m rfl) (rg_q (q_m rfl) ?_)
 refine rg_q (q_rem rfl rfl (by omega)) ?_
 refine rg_q (q_lss rfl rfl) ?_
 refine rn ?_
 change Awp _ _ _ _ _
 refine awp_cond rfl (fun hc2 => ?_) (fun hc2 => ?_)
 ·
  (try simp only [nb, ne_eq] at hc2)
  rw [if_pos hc2] at hl
  refine awp_region 3 mixed (by kernel_rfl) ?_
  refine rg_q (q_m rfl) ?_
  refine rg_q (q_sub rfl rfl (In64.mk (by omega) (by omega))) ?_
  refine rg_q (q_a rfl) ?_
  refine rs (awp_region 2 mixed (by kernel_rfl) ?_)
  refine rg_q (q_m rfl) (rg_q (q_a rfl) ?_)
  refine rn ?_
  change Awp _ _ _ _ _
  refine awp_ret ?_
  refine ⟨_, (.cons (.tmp (by exact .d _)) .nil), ?_⟩
  rw [← hl]; rfl
 ·
  (try simp only [nb, ne_eq] at hc2)
  rw [if_neg (by omega)] at hl
  refine awp_skip ?_
  change Awp _ _ _ _ _
  refine awp_seq ?_
  refine awp_region 2 mixed (by kernel_rfl) ?_
  refine rg_q (q_m rfl) (rg_q (q_a rfl) ?_)
  refine rn ?_
  change Awp _ _ _ _ _
  refine awp_ret ?_
  refine ⟨_, (.cons (.tmp (by exact .d _)) .nil), ?_⟩
  rw [← hl]; rfl
set_option maxRecDepth 100000 in
theorem Ceil_p (n b : Int) (h : Sm n) (hb : 0 < b) : PC Tryz.prog 287 [.v (.int .i64 (n)), .v (.int .i64 (b))] (.v (.int .i64 (ceilI n b))) := by
 obtain ⟨h1, h2⟩ := h
 have hq := ediv_sm (a := -n) ⟨by omega, by omega⟩ hb
 obtain ⟨h3, h4⟩ := hq
 refine pc_of_awp Tryz.func287 rfl Tryz.ntmps287 (rs := [.tmp 4]) Tryz.results287 (by simp) fun w0 => ?_
 refine awp_seq ?_
 refine awp_region 1 mixed (by kernel_rfl) ?_
 refine rg_q (q_a rfl) ?_
 refine rs (awp_region 6 mixed (by kernel_rfl) ?_)
 refine rg_q (q_m rfl) ?_
 refine rg_q (q_neg rfl (In64.mk (by omega) (by omega))) ?_
 refine rg_q (q_m rfl) ?_
 refine rg_q (q_call en273 (.cons rfl (.cons rfl .nil)) rfl (Floor_p _ _ ⟨by omega, by omega⟩ (by omega))) ?_
 refine rg_q (q_neg rfl (In64.mk (by omega) (by omega))) ?_
 refine rg_q (q_a rfl) ?_
 refine rn ?_
 change Awp _ _ _ _ _
 refine awp_ret ?_
 refine ⟨_, (.cons (.tmp (by exact .d _)) .nil), ?_⟩
 rfl
set_option maxRecDepth 100000 in
theorem bcompare_p (n d m k : Int) (hn : Sm n) (hd : 0 < d ∧ Sm d) (hm : Sm m) (hk : 0 < k ∧ Sm k) : PC Tryz.prog 306 [.v (.int .i64 (n)), .v (.int .i64 (d)), .v (.int .i64 (m)), .v (.int .i64 (k))] (.v (.int .i64 (cmpI n d m k))) := by
 refine pc_of_awp Tryz.func306 rfl Tryz.ntmps306 (rs := [.tmp 8]) Tryz.results306 (by simp) fun w0 => ?_
 refine awp_seq ?_
 refine awp_region 1 mixed (by kernel_rfl) ?_
 refine rg_q (q_a rfl) ?_
 refine rn ?_
 change Awp _ _ _ _ _
 refine awp_block ?_
 refine awp_loopH [0, 1, 2, 3, 8, 9, 10, 11, 12, 13, 14, 15, 16, 17, 18, 19, 20, 21, 22, 23, 24, 25, 26, 27, 28, 29, 30, 31, 32, 33, 34, 35, 36, 37, 38, 39, 40, 41, 42, 43, 44, 45, 46] [] (α := Int × Int × Int × Int) (fun x => [(0, T.i x.1), (1, T.i x.2.1), (2, T.i x.2.2.1), (3, T.i x.2.2.2)]) (fun x => []) (fun x => Sm x.1 ∧ (0 < x.2.1 ∧ Sm x.2.1) ∧ Sm x.2.2.1 ∧ (0 < x.2.2.2 ∧ Sm x.2.2.2) ∧ cmpI n d m k = cmpI x.1 x.2.1 x.2.2.1 x.2.2.2) (fun x => (x.2.1 + x.2.2.2).toNat) (n, d, m, k) ⟨hn, hd, hm, hk, rfl⟩ ?_ ?_
 · exact le_head (ms := []) (by repeat (exact Out.refl _)) ⟨(by rfl), (by rfl), (by rfl), (by rfl), trivial⟩ trivial rfl rfl rfl rfl
 ·
  intro ⟨n', d', m', k'⟩ ⟨gn, ⟨gd0, gd⟩, gm, ⟨gk0, gk⟩, hh⟩
  simp only at gn gd0 gd gm gk0 gk hh
  have hmn := Int.emod_nonneg n' (show d' ≠ 0 by omega)
  have hmm := Int.emod_nonneg m' (show k' ≠ 0 by omega)
  have hln := Int.emod_lt_of_pos n' gd0
  have hlm := Int.emod_lt_of_pos m' gk0
  have hsn := sub_mod n' d'
  have hsm := sub_mod m' k'
  have hgn := gn
  have hgm := gm
  obtain ⟨gn1, gn2⟩ := gn
  obtain ⟨gm1, gm2⟩ := gm
  obtain ⟨gd1, gd2⟩ := gd
  obtain ⟨gk1, gk2⟩ := gk
  refine awp_block ?_
  refine awp_seq ?_
  refine awp_region 8 mixed (by kernel_rfl) ?_
  refine rg_q (q_m rfl) (rg_q (q_m rfl) ?_)
  refine rg_q (q_call en273 (.cons rfl (.cons rfl .nil)) rfl (Floor_p _ _ hgn gd0)) ?_
  refine rg_q (q_m rfl) (rg_q (q_m rfl) ?_)
  refine rg_q (q_call en273 (.cons rfl (.cons rfl .nil)) rfl (Floor_p _ _ hgm gk0)) ?_
  refine rg_q (q_a rfl) (rg_q (q_a rfl) ?_)
  refine rn ?_
  change Awp _ _ _ _ _
  refine awp_seq ?_
  refine awp_seq ?_
  refine awp_region 3 mixed (by kernel_rfl) ?_
  refine rg_q (q_m rfl) (rg_q (q_m rfl) (rg_q (q_lss rfl rfl) ?_))
  refine rn ?_
  change Awp _ _ _ _ _
  refine awp_cond rfl (fun hc2 => ?_) (fun hc2 => ?_)
  ·
   (try simp only [nb, ne_eq] at hc2)
   have hz : cmpI n d m k = -1 := by rw [hh]; unfold cmpI; rw [if_pos (cmp_lt gd0 gk0 hc2)]
   refine awp_seq ?_
   refine awp_region 1 mixed (by kernel_rfl) ?_
   refine rg_q (q_a rfl) ?_
   refine rn ?_
   change Awp _ _ _ _ _
   refine awp_ret ?_
   refine ⟨_, (.cons (.tmp (by exact .d _)) .nil), ?_⟩
   rw [hz]; rfl
  ·
   (try simp only [nb, ne_eq] at hc2)
   refine awp_skip ?_
   change Awp _ _ _ _ _
   refine awp_seq ?_
   refine awp_seq ?_
   refine awp_region 3 mixed (by kernel_rfl) ?_
   refine rg_q (q_m rfl) (rg_q (q_m rfl) (rg_q (q_gtr rfl rfl) ?_))
   refine rn ?_
   change Awp _ _ _ _ _
   refine awp_cond rfl (fun hc4 => ?_) (fun hc4 => ?_)
   ·
    (try simp only [nb, ne_eq] at hc4)
    have hz : cmpI n d m k = 1 := by
     have := cmp_gt gd0 gk0 hc4
     rw [hh]; unfold cmpI; rw [if_neg (by omega), if_pos this]
    refine awp_seq ?_
    refine awp_region 1 mixed (by kernel_rfl) ?_
    refine rg_q (q_a rfl) ?_
    refine rn ?_
    change Awp _ _ _ _ _
    refine awp_ret ?_
    refine ⟨_, (.cons (.tmp (by exact .d _)) .nil), ?_⟩
    rw [hz]; rfl
   ·
    (try simp only [nb, ne_eq] at hc4)
    have hpq : n' / d' = m' / k' := by omega
    have h2 := hh.trans (cmp_mod hpq)
    refine awp_skip ?_
    change Awp _ _ _ _ _
    refine awp_seq ?_
    refine awp_region 12 mixed (by kernel_rfl) ?_
    refine rg_q (q_m rfl) (rg_q (q_m rfl) (rg_q (q_m rfl) ?_))
    refine rg_q (q_mul rfl rfl (In64.mk (by (simp only; omega)) (by (simp only; omega)))) ?_
    refine rg_q (q_sub rfl rfl (In64.mk (by (simp only; omega)) (by (simp only; omega)))) ?_
    refine rg_q (q_m rfl) (rg_q (q_m rfl) (rg_q (q_m rfl) ?_))
    refine rg_q (q_mul rfl rfl (In64.mk (by (simp only; omega)) (by (simp only; omega)))) ?_
    refine rg_q (q_sub rfl rfl (In64.mk (by (simp only; omega)) (by (simp only; omega)))) ?_
    refine rg_q (q_a rfl) (rg_q (q_a rfl) ?_)
    refine rn ?_
    change Awp _ _ _ _ _
    refine awp_seq ?_
    refine awp_seq ?_
    refine awp_region 6 mixed (by kernel_rfl) ?_
    refine rg_q (q_m rfl) (rg_q (q_eql rfl rfl) (rg_q (q_m rfl) ?_))
    refine rg_g rfl rfl (fun hG => (q_m rfl)) ?_
    refine rg_g rfl rfl (fun hG => (q_eql rfl rfl)) ?_
    refine rg_pick rfl rfl rfl rfl rfl rfl ?_
    refine rn ?_
    change Awp _ _ _ _ _
    refine awp_cond rfl (fun hc7 => ?_) (fun hc7 => ?_)
    ·
     (try simp only [nb, ne_eq] at hc7)
     refine awp_seq ?_
     refine awp_region 1 mixed (by kernel_rfl) ?_
     refine rg_q (q_a rfl) ?_
     refine rn ?_
     change Awp _ _ _ _ _
     refine awp_ret ?_
     refine ⟨_, (.cons (.tmp (by exact .d _)) .nil), ?_⟩
     have e1 : n' % d' = 0 := by rw [← hsn]; omega
     have e2 : m' % k' = 0 := by rw [← hsm]; omega
     have hz : cmpI n d m k = 0 := by rw [h2, e1, e2]; unfold cmpI; simp
     rw [hz]; rfl
    ·
     (try simp only [nb, ne_eq] at hc7)
     refine awp_skip ?_
     change Awp _ _ _ _ _
     refine awp_seq ?_
     refine awp_seq ?_
     refine awp_region 2 mixed (by kernel_rfl) ?_
     refine rg_q (q_m rfl) (rg_q (q_eql rfl rfl) ?_)
     refine rn ?_
     change Awp _ _ _ _ _
     refine awp_cond rfl (fun hc9 => ?_) (fun hc9 => ?_)
     ·
      (try simp only [nb, ne_eq] at hc9)
      refine awp_seq ?_
      refine awp_region 1 mixed (by kernel_rfl) ?_
      refine rg_q (q_a rfl) ?_
      refine rn ?_
      change Awp _ _ _ _ _
      refine awp_ret ?_
      refine ⟨_, (.cons (.tmp (by exact .d _)) .nil), ?_⟩
      have e1 : n' % d' = 0 := by rw [← hsn]; omega
      have e2 : 0 < m' % k' := by rw [e1] at *; omega
      have e3 : 0 < m' % k' * d' := Int.mul_pos e2 gd0
      have hz : cmpI n d m k = -1 := by rw [h2, e1]; unfold cmpI; rw [if_pos (by omega)]
      rw [hz]; rfl
     ·
      (try simp only [nb, ne_eq] at hc9)
      refine awp_skip ?_
      change Awp _ _ _ _ _
      refine awp_seq ?_
      refine awp_seq ?_
      refine awp_region 2 mixed (by kernel_rfl) ?_
      refine rg_q (q_m rfl) (rg_q (q_eql rfl rfl) ?_)
      refine rn ?_
      change Awp _ _ _ _ _
      refine awp_cond rfl (fun hc11 => ?_) (fun hc11 => ?_)
      ·
       (try simp only [nb, ne_eq] at hc11)
       refine awp_seq ?_
       refine awp_region 1 mixed (by kernel_rfl) ?_
       refine rg_q (q_a rfl) ?_
       refine rn ?_
       change Awp _ _ _ _ _
       refine awp_ret ?_
       refine ⟨_, (.cons (.tmp (by exact .d _)) .nil), ?_⟩
       have e1 : m' % k' = 0 := by rw [← hsm]; omega
       have e2 : 0 < n' % d' := by rw [e1] at *; omega
       have e3 : 0 < n' % d' * k' := Int.mul_pos e2 gk0
       have hz : cmpI n d m k = 1 := by rw [h2, e1]; unfold cmpI; rw [if_neg (by omega), if_pos (by omega)]
       rw [hz]; rfl
      ·
       (try simp only [nb, ne_eq] at hc11)
       refine awp_skip ?_
       change Awp _ _ _ _ _
       refine awp_region 8 mixed (by kernel_rfl) ?_
       refine rg_q (q_m rfl) (rg_q (q_m rfl) (rg_q (q_m rfl) (rg_q (q_m rfl) (rg_q (q_a rfl) (rg_q (q_a rfl) ?_)))))
       refine rg_q (q_a rfl) (rg_q (q_a rfl) ?_)
       refine rn ?_
       have e1 : 0 < n' % d' := by omega
       have e2 : 0 < m' % k' := by omega
       refine ⟨(k', m' % k', d', n' % d'), ⟨⟨gk1, gk2⟩, ⟨e2, by constructor <;> simp only <;> omega⟩, ⟨gd1, gd2⟩, ⟨e1, by constructor <;> simp only <;> omega⟩, by rw [h2, cmp_swap]⟩, by simp only; omega, ?_⟩
       exact le_head (ms := []) (by repeat (first | exact Out.head rfl rfl | (refine Out.put ?_ rfl))) ⟨(by rfl), (by ((show T.i _ = T.i _; rw [hsm]; done))), (by rfl), (by ((show T.i _ = T.i _; rw [hsn]; done))), trivial⟩ trivial rfl rfl rfl rfl

theorem tdiv_in {n d : Int} (h0 : 0 ≤ n) (hd : 0 < d) : 0 ≤ n.tdiv d ∧ n.tdiv d ≤ n := by
  refine ⟨Int.tdiv_nonneg h0 (by omega), ?_⟩
  have := Int.tdiv_le_self (a := n) d h0
  omega

def sgn1 (n : Int) : Int := if 0 < n then 1 else if n < 0 then -1 else 0
theorem sgn1_pos {n : Int} (h : 0 < n) : sgn1 n = 1 := by unfold sgn1; rw [if_pos h]
theorem sgn1_neg {n : Int} (h : n < 0) : sgn1 n = -1 := by unfold sgn1; rw [if_neg (by omega), if_pos h]
def cmpX (x : Crs) (t : Int) : Int := cmpI ((t - x.x1) * (t - x.x1) * x.v2 * x.v2) ((t - x.x1) * (t - x.x1) + x.h1 * x.h1) ((x.x2 - t) * (x.x2 - t) * x.v1 * x.v1) ((x.x2 - t) * (x.x2 - t) + x.h2 * x.h2)
theorem cmpX_eq (x : Crs) (t : Int) : cmpX x t = sgnI (oneI x t) (twoI x t) := by
  have e1 : (t - x.x1) * (t - x.x1) * x.v2 * x.v2 * ((x.x2 - t) * (x.x2 - t) + x.h2 * x.h2) = oneI x t := by unfold oneI; grind
  have e2 : (x.x2 - t) * (x.x2 - t) * x.v1 * x.v1 * ((t - x.x1) * (t - x.x1) + x.h1 * x.h1) = twoI x t := by unfold twoI; grind
  unfold cmpX cmpI sgnI
  rw [e1, e2]
  by_cases h : oneI x t = twoI x t
  · rw [if_neg (by omega), if_neg (by omega), if_pos h]
  · rw [if_neg h]
    by_cases h' : oneI x t < twoI x t
    · rw [if_pos h', if_pos h']
    · rw [if_neg h', if_neg h', if_pos (by omega)]
def rslope (x : Crs) (t : Int) : Int := if t - x.x1 = 0 ∨ x.x2 - t = 0 then sgn1 (sgn1 (t - x.x1) - sgn1 (x.x2 - t)) else if sgn1 (t - x.x1) + sgn1 (x.x2 - t) < 0 then -(cmpX x t) else cmpX x t
theorem one_pos {x : Crs} (hx : CrsOk x) {t : Int} (h : t - x.x1 ≠ 0) : 0 < oneI x t := by
  obtain ⟨_, _, _, _, c1, _, d1, _, e1, _, f1, _⟩ := hx
  have e : oneI x t = ((t - x.x1) * (t - x.x1)) * (x.v2 * x.v2) * ((x.x2 - t) * (x.x2 - t) + x.h2 * x.h2) := by unfold oneI; grind
  have sq : ∀ n : Int, n ≠ 0 → 0 < n * n := fun n hn => by
    rcases Int.lt_trichotomy n 0 with q | q | q
    · exact Int.mul_pos_of_neg_of_neg q q
    · exact absurd q hn
    · exact Int.mul_pos q q
  have s0 : 0 ≤ (x.x2 - t) * (x.x2 - t) := by
    by_cases q : x.x2 - t = 0
    · rw [q]; simp
    · exact Int.le_of_lt (sq _ q)
  rw [e]
  have := sq _ (show x.h2 ≠ 0 by omega)
  exact Int.mul_pos (Int.mul_pos (sq _ h) (sq _ (by omega))) (by omega)
theorem two_pos {x : Crs} (hx : CrsOk x) {t : Int} (h : x.x2 - t ≠ 0) : 0 < twoI x t := by
  obtain ⟨_, _, _, _, c1, _, d1, _, e1, _, f1, _⟩ := hx
  have e : twoI x t = ((x.x2 - t) * (x.x2 - t)) * (x.v1 * x.v1) * ((t - x.x1) * (t - x.x1) + x.h1 * x.h1) := by unfold twoI; grind
  have sq : ∀ n : Int, n ≠ 0 → 0 < n * n := fun n hn => by
    rcases Int.lt_trichotomy n 0 with q | q | q
    · exact Int.mul_pos_of_neg_of_neg q q
    · exact absurd q hn
    · exact Int.mul_pos q q
  have s0 : 0 ≤ (t - x.x1) * (t - x.x1) := by
    by_cases q : t - x.x1 = 0
    · rw [q]; simp
    · exact Int.le_of_lt (sq _ q)
  rw [e]
  have := sq _ (show x.h1 ≠ 0 by omega)
  exact Int.mul_pos (Int.mul_pos (sq _ h) (sq _ (by omega))) (by omega)
theorem sgn1_zero : sgn1 0 = 0 := by decide
theorem rslope_eq {x : Crs} (hx : CrsOk x) {t : Int} (h1 : loX x ≤ t) (h2 : t ≤ hiX x) : rslope x t = slopeI x t := by
  unfold rslope slopeI
  rw [cmpX_eq]
  unfold loX at h1
  unfold hiX at h2
  by_cases ha : t - x.x1 = 0
  · rw [if_pos (.inl ha), ha, sgn1_zero]
    have h0 : oneI x t = 0 := by unfold oneI; rw [ha]; simp
    rw [h0]
    by_cases hb : x.x2 - t = 0
    · have h3 : twoI x t = 0 := by unfold twoI; rw [hb]; simp
      rw [hb, h3, sgn1_zero]
      unfold sgnI sgn1; simp
    · have h3 := two_pos hx hb
      rw [show sgnI 0 (twoI x t) = -1 by unfold sgnI; rw [if_neg (by omega), if_pos h3]]
      by_cases hlt : x.x2 < x.x1
      · rw [if_pos hlt, sgn1_neg (show x.x2 - t < 0 by omega)]; decide
      · rw [if_neg hlt, sgn1_pos (show 0 < x.x2 - t by omega)]; decide
  · have h0 := one_pos hx ha
    by_cases hb : x.x2 - t = 0
    · rw [if_pos (.inr hb), hb, sgn1_zero]
      have h3 : twoI x t = 0 := by unfold twoI; rw [hb]; simp
      rw [h3, show sgnI (oneI x t) 0 = 1 by unfold sgnI; rw [if_neg (by omega), if_neg (by omega)]]
      by_cases hlt : x.x2 < x.x1
      · rw [if_pos hlt, sgn1_neg (show t - x.x1 < 0 by omega)]; decide
      · rw [if_neg hlt, sgn1_pos (show 0 < t - x.x1 by omega)]; decide
    · rw [if_neg (by omega)]
      by_cases hlt : x.x2 < x.x1
      · rw [if_pos hlt, sgn1_neg (show t - x.x1 < 0 by omega), sgn1_neg (show x.x2 - t < 0 by omega), if_pos (by decide)]
      · rw [if_neg hlt, sgn1_pos (show 0 < t - x.x1 by omega), sgn1_pos (show 0 < x.x2 - t by omega), if_neg (by decide)]
theorem modeE_ref (m : Md) : (if firstE [speedE m.w, speedE m.m] ≠ 0 then firstE [speedE m.w, speedE m.m] else if (!inR 0 m.k 4 || !inR 2 m.t 20000) = true then 2 else 0) = modeE m := by
  unfold modeE mustI firstE
  by_cases h1 : speedE m.w = 0
  · simp only [firstE, h1, if_true]
    by_cases h2 : speedE m.m = 0
    · simp only [h2, if_true]
      cases inR 0 m.k 4 <;> cases inR 2 m.t 20000 <;> simp
    · simp [h2]
  · simp [firstE, h1]
set_option maxRecDepth 100000 in
theorem xspeedErr_p (v : Int) : PC Tryz.prog 189 [.v (.int .i64 (v))] (.v (.int .i64 (speedE v))) := by
 refine pc_of_awp Tryz.func189 rfl Tryz.ntmps189 (rs := [.tmp 2]) Tryz.results189 (by simp) fun w0 => ?_
 refine awp_seq ?_
 refine awp_region 1 mixed (by kernel_rfl) ?_
 refine rg_q (q_a rfl) ?_
 refine rn ?_
 change Awp _ _ _ _ _
 refine awp_seq ?_
 refine awp_seq ?_
 refine awp_region 3 mixed (by kernel_rfl) ?_
 refine rg_q (q_m rfl) ?_
 refine rg_q (q_call en31 (.cons rfl (.cons rfl (.cons rfl .nil))) rfl (within4_p _ _ _)) ?_
 refine rg_q (q_not rfl) ?_
 refine rn ?_
 change Awp _ _ _ _ _
 refine awp_cond rfl (fun hc1 => ?_) (fun hc1 => ?_)
 ·
  (try simp only [nb, ne_eq] at hc1)
  have hz : speedE v = 2 := by unfold speedE mustI; rw [if_neg (by simp_all)]
  refine awp_seq ?_
  refine awp_region 1 mixed (by kernel_rfl) ?_
  refine rg_q (q_a rfl) ?_
  refine rn ?_
  change Awp _ _ _ _ _
  refine awp_ret ?_
  refine ⟨_, (.cons (.tmp (by exact .d _)) .nil), ?_⟩
  rw [hz]; rfl
 ·
  (try simp only [nb, ne_eq] at hc1)
  have hz : speedE v = 0 := by unfold speedE mustI; rw [if_pos (by simp_all)]
  refine awp_skip ?_
  change Awp _ _ _ _ _
  refine awp_seq ?_
  refine awp_region 1 mixed (by kernel_rfl) ?_
  refine rg_q (q_a rfl) ?_
  refine rn ?_
  change Awp _ _ _ _ _
  refine awp_ret ?_
  refine ⟨_, (.cons (.tmp (by exact .d _)) .nil), ?_⟩
  rw [hz]; rfl
set_option maxRecDepth 100000 in
theorem firstOf_p (l : List Int) : PC Tryz.prog 188 [.sl 1 (l.map iC)] (.v (.int .i64 (firstE l))) := by
 refine pc_of_awp Tryz.func188 rfl Tryz.ntmps188 (rs := [.tmp 2]) Tryz.results188 (by simp) fun w0 => ?_
 refine awp_seq ?_
 refine awp_region 1 mixed (by kernel_rfl) ?_
 refine rg_q (q_a rfl) ?_
 refine rn ?_
 change Awp _ _ _ _ _
 refine awp_seq ?_
 refine awp_seq ?_
 refine awp_region 1 mixed (by kernel_rfl) ?_
 refine rg_q (q_a rfl) ?_
 refine rn ?_
 change Awp _ _ _ _ _
 refine awp_block ?_
 refine awp_loopH [2, 3, 4, 5, 6, 7, 8, 9, 10, 11, 12, 13, 14, 15, 16, 17, 18] [] (α := Nat) (fun k => [(3, T.i (k : Int))]) (fun k => []) (fun k => k ≤ l.length ∧ firstE l = firstE (l.drop k)) (fun k => l.length - k) 0 ⟨Nat.zero_le _, rfl⟩ ?_ ?_
 · exact le_head (ms := []) (by repeat (exact Out.refl _)) ⟨(by rfl), trivial⟩ trivial rfl rfl rfl rfl
 ·
  intro k ⟨hk, hf⟩
  refine awp_seq ?_
  refine awp_seq ?_
  refine awp_region 4 mixed (by kernel_rfl) ?_
  refine rg_q (q_m rfl) (rg_q (q_move (x := .d (.sl _ _)) rfl) ?_)
  refine rg_q (q_len isl77 rfl (by exact len_map _ _)) ?_
  refine rg_q (q_lss rfl rfl) ?_
  refine rn ?_
  change Awp _ _ _ _ _
  refine awp_len (t := 5) rfl (fun hl5 => ?_)
  (try simp only [List.length_map] at hl5)
  refine awp_cond rfl (fun hc2 => ?_) (fun hc2 => ?_)
  ·
   (try simp only [nb, ne_eq] at hc2)
   have hlt : k < l.length := by omega
   obtain ⟨y, hx⟩ : ∃ y, l[k]? = some y := ⟨_, List.getElem?_eq_getElem hlt⟩
   have hd : firstE (l.drop k) = if y = 0 then firstE (l.drop (k + 1)) else y := by
    rw [List.drop_eq_getElem_cons hlt, (List.getElem?_eq_some_iff.1 hx).2]; rfl
   refine awp_skip ?_
   change Awp _ _ _ _ _
   refine awp_seq ?_
   refine awp_block ?_
   refine awp_seq ?_
   refine awp_region 5 mixed (by kernel_rfl) ?_
   refine rg_q (q_move (x := .d (.sl _ _)) rfl) (rg_q (q_m rfl) ?_)
   refine rg_q (q_indexAddr sl77 rfl rfl (by omega) (map_at (by omega) hx)) ?_
   refine rg_q (q_load sz3 rfl rfl) (rg_q (q_neq rfl rfl) ?_)
   refine rn ?_
   change Awp _ _ _ _ _
   refine awp_cond rfl (fun hc4 => ?_) (fun hc4 => ?_)
   ·
    (try simp only [nb, ne_eq] at hc4)
    refine awp_seq ?_
    refine awp_region 5 mixed (by kernel_rfl) ?_
    refine rg_q (q_move (x := .d (.sl _ _)) rfl) (rg_q (q_m rfl) ?_)
    refine rg_q (q_indexAddr sl77 rfl rfl (by omega) (map_at (by omega) hx)) ?_
    refine rg_q (q_load sz3 rfl rfl) (rg_q (q_a rfl) ?_)
    refine rn ?_
    change Awp _ _ _ _ _
    refine awp_ret ?_
    refine ⟨_, (.cons (.tmp (by exact .d _)) .nil), ?_⟩
    rw [hf, hd, if_neg (by omega)]; rfl
   ·
    (try simp only [nb, ne_eq] at hc4)
    refine awp_skip ?_
    change Awp _ _ _ _ _
    refine awp_region 3 mixed (by kernel_rfl) ?_
    refine rg_q (q_m rfl) ?_
    refine rg_q (q_add rfl rfl (In64.mk (by omega) (by omega))) ?_
    refine rg_q (q_a rfl) ?_
    refine rn ?_
    refine ⟨k + 1, ⟨by omega, by rw [hf, hd, if_pos (by omega)]⟩, by omega, ?_⟩
    exact le_head (ms := []) (by repeat (first | exact Out.head rfl rfl | (refine Out.put ?_ rfl))) ⟨(by rfl), trivial⟩ trivial rfl rfl rfl rfl
  ·
   (try simp only [nb, ne_eq] at hc2)
   refine awp_exit ?_
   change Awp _ _ _ _ _
   refine awp_seq ?_
   refine awp_region 1 mixed (by kernel_rfl) ?_
   refine rg_q (q_a rfl) ?_
   refine rn ?_
   change Awp _ _ _ _ _
   refine awp_ret ?_
   refine ⟨_, (.cons (.tmp (by exact .d _)) .nil), ?_⟩
   rw [hf, List.drop_of_length_le (by omega)]; rfl
set_option maxRecDepth 100000 in
theorem xcheckMode_p (m : Md) : PC Tryz.prog 124 [.agg (mdC m)] (.v (.int .i64 (modeE m))) := by
 have hr := modeE_ref m
 refine pc_of_awp Tryz.func124 rfl Tryz.ntmps124 (rs := [.tmp 2]) Tryz.results124 (by simp) fun w0 => ?_
 refine awp_seq ?_
 refine awp_region 2 mixed (by kernel_rfl) ?_
 refine rg_q (q_box rfl (by exact .inr ⟨_, rfl⟩)) ?_
 refine rg_q (q_a rfl) ?_
 refine rn ?_
 change Awp _ _ _ _ _
 refine awp_seq ?_
 refine awp_seq ?_
 refine awp_region 9 mixed (by kernel_rfl) ?_
 refine rg_q (q_fieldAddr fld24_0 rfl) (rg_q (q_load sz3 rfl rfl) ?_)
 refine rg_q (q_call en189 (.cons rfl .nil) rfl (xspeedErr_p _)) ?_
 refine rg_q (q_fieldAddr fld24_1 rfl) (rg_q (q_load sz3 rfl rfl) ?_)
 refine rg_q (q_call en189 (.cons rfl .nil) rfl (xspeedErr_p _)) ?_
 refine rg_q (q_buildSlice sl77 zr3 rfl rfl (by decide) (.cons rfl (by exact .inl rfl) (.cons rfl (by exact .inl rfl) .nil)) ⟨rfl, rfl, rfl, rfl, trivial⟩ rfl (by decide) rfl) ?_
 refine rg_q (q_call en188 (.cons rfl .nil) rfl (firstOf_p [_, _])) ?_
 refine rg_q (q_a rfl) ?_
 refine rs (awp_region 2 mixed (by kernel_rfl) ?_)
 refine rg_q (q_m rfl) (rg_q (q_neq rfl rfl) ?_)
 refine rn ?_
 change Awp _ _ _ _ _
 refine awp_cond rfl (fun hc2 => ?_) (fun hc2 => ?_)
 ·
  (try simp only [nb, ne_eq] at hc2)
  rw [if_pos hc2] at hr
  refine awp_seq ?_
  refine awp_region 2 mixed (by kernel_rfl) ?_
  refine rg_q (q_m rfl) (rg_q (q_a rfl) ?_)
  refine rn ?_
  change Awp _ _ _ _ _
  refine awp_ret ?_
  refine ⟨_, (.cons (.tmp (by exact .d _)) .nil), ?_⟩
  rw [← hr]; rfl
 ·
  (try simp only [nb, ne_eq] at hc2)
  rw [if_neg (fun h => h hc2)] at hr
  refine awp_skip ?_
  change Awp _ _ _ _ _
  refine awp_seq ?_
  refine awp_seq ?_
  refine awp_region 10 mixed (by kernel_rfl) ?_
  refine rg_q (q_fieldAddr fld24_2 rfl) (rg_q (q_load sz3 rfl rfl) ?_)
  refine rg_q (q_call en31 (.cons rfl (.cons rfl (.cons rfl .nil))) rfl (within4_p _ _ _)) ?_
  refine rg_q (q_not rfl) (rg_q (q_m rfl) ?_)
  refine rg_g rfl rfl (fun hG => (q_fieldAddr fld24_3 rfl)) ?_
  refine rg_g rfl rfl (fun hG => (q_load sz3 rfl rfl)) ?_
  refine rg_g rfl rfl (fun hG => (q_call en31 (.cons rfl (.cons rfl (.cons rfl .nil))) rfl (within4_p _ _ _))) ?_
  refine rg_g rfl rfl (fun hG => (q_not rfl)) ?_
  refine rg_pick rfl rfl rfl rfl rfl rfl ?_
  refine rn ?_
  change Awp _ _ _ _ _
  refine awp_cond rfl (fun hc4 => ?_) (fun hc4 => ?_)
  ·
   (try simp only [nb, ne_eq] at hc4)
   rw [if_pos (by simp_all)] at hr
   refine awp_seq ?_
   refine awp_region 1 mixed (by kernel_rfl) ?_
   refine rg_q (q_a rfl) ?_
   refine rn ?_
   change Awp _ _ _ _ _
   refine awp_ret ?_
   refine ⟨_, (.cons (.tmp (by exact .d _)) .nil), ?_⟩
   rw [← hr]; rfl
  ·
   (try simp only [nb, ne_eq] at hc4)
   rw [if_neg (by simp_all)] at hr
   refine awp_skip ?_
   change Awp _ _ _ _ _
   refine awp_seq ?_
   refine awp_region 1 mixed (by kernel_rfl) ?_
   refine rg_q (q_a rfl) ?_
   refine rn ?_
   change Awp _ _ _ _ _
   refine awp_ret ?_
   refine ⟨_, (.cons (.tmp (by exact .d _)) .nil), ?_⟩
   rw [← hr]; rfl

def bitI : Nat → Int
  | 0 => 0
  | k + 1 => 2 ^ k
theorem bit_half (k : Nat) : (bitI (k + 1)).tdiv 2 = bitI k := by
  cases k with
  | zero => decide
  | succ j =>
    show ((2 : Int) ^ (j + 1)).tdiv 2 = 2 ^ j
    rw [Int.pow_succ, Int.mul_tdiv_cancel _ (by decide)]
theorem rb_step (n : Int) (k : Nat) (r : Int) : rb n (k + 1) r = rb n k (if (r + 2 ^ k) * (r + 2 ^ k) ≤ n then r + 2 ^ k else r) := rfl
set_option maxRecDepth 100000 in
theorem bRoot_p (n : Int) (h0 : 0 ≤ n) (h1 : n < 4611686018427387904) : PC Tryz.prog 307 [.v (.int .i64 (n))] (.v (.int .i64 (rootI n))) := by
  refine pc_of_awp Tryz.func307 rfl Tryz.ntmps307 (rs := [.tmp 2]) Tryz.results307 (by simp) fun w0 => ?_
  refine awp_seq ?_
  refine awp_region 1 mixed (by kernel_rfl) ?_
  refine rg_q (q_a rfl) ?_
  refine rs (awp_region 2 mixed (by kernel_rfl) ?_)
  refine rg_q (q_a rfl) (rg_q (q_a rfl) ?_)
  refine rn ?_
  change Awp _ _ _ _ _
  refine awp_seq ?_
  refine awp_block ?_
  refine awp_loopH [3, 4, 5, 6, 7, 8, 9, 10, 11, 12, 13, 14, 15, 16, 17, 18, 19, 20] [] (α := Nat × Int) (fun y => [(3, T.i y.2), (4, T.i (bitI y.1))]) (fun y => []) (fun y => 0 ≤ y.2 ∧ y.2 + 2 ^ y.1 ≤ 2147483648 ∧ rb n 31 0 = rb n y.1 y.2) (fun y => y.1) (31, 0) ⟨Int.le_refl _, by decide, rfl⟩ ?_ ?_
  · exact le_head (ms := []) (by repeat (exact Out.refl _)) ⟨(by rfl), (by rfl), trivial⟩ trivial rfl rfl rfl rfl
  ·
    intro ⟨k, r⟩ ⟨hr0, hr1, hrb⟩
    simp only at hr0 hr1 hrb
    refine awp_seq ?_
    refine awp_seq ?_
    refine awp_region 2 mixed (by kernel_rfl) ?_
    refine rg_q (q_m rfl) (rg_q (q_gtr rfl rfl) ?_)
    refine rn ?_
    change Awp _ _ _ _ _
    refine awp_cond rfl (fun hc2 => ?_) (fun hc2 => ?_)
    ·
      (try simp only [nb, ne_eq] at hc2)
      obtain ⟨j, rfl⟩ : ∃ j, k = j + 1 := by
        cases k with
        | zero => simp only [bitI] at hc2; omega
        | succ j => exact ⟨j, rfl⟩
      have hhalf := bit_half j
      have hB : bitI (j + 1) = 2 ^ j := rfl
      have hp : (2 : Int) ^ (j + 1) = 2 ^ j * 2 := Int.pow_succ 2 j
      rw [hp] at hr1
      rw [rb_step n j r] at hrb
      have hp0 : (0 : Int) < 2 ^ j := Int.pow_pos (by decide)
      have hbj := tdiv_in (n := bitI (j + 1)) (d := 2) (by omega) (by decide)
      rw [hhalf] at hbj
      have m := mulb (a := r + bitI (j + 1)) (b := r + bitI (j + 1)) (A := 2147483648) (B := 2147483648) (by omega) (by omega) (by omega) (by omega)
      refine awp_skip ?_
      change Awp _ _ _ _ _
      refine awp_block ?_
      refine awp_seq ?_
      refine awp_seq ?_
      refine awp_region 9 mixed (by kernel_rfl) ?_
      refine rg_q (q_m rfl) (rg_q (q_m rfl) ?_)
      refine rg_q (q_add rfl rfl (In64.mk (by (simp only; omega)) (by (simp only; omega)))) ?_
      refine rg_q (q_m rfl) (rg_q (q_m rfl) ?_)
      refine rg_q (q_add rfl rfl (In64.mk (by (simp only; omega)) (by (simp only; omega)))) ?_
      refine rg_q (q_mul rfl rfl (In64.mk (by (simp only; omega)) (by (simp only; omega)))) ?_
      refine rg_q (q_m rfl) (rg_q (q_leq rfl rfl) ?_)
      refine rn ?_
      change Awp _ _ _ _ _
      refine awp_cond rfl (fun hc3 => ?_) (fun hc3 => ?_)
      ·
        (try simp only [nb, ne_eq] at hc3)
        have hrb2 : rb n 31 0 = rb n j (r + bitI (j + 1)) := by rw [hrb, if_pos (by rw [← hB]; exact hc3)]; rfl
        refine awp_region 4 mixed (by kernel_rfl) ?_
        refine rg_q (q_m rfl) (rg_q (q_m rfl) ?_)
        refine rg_q (q_add rfl rfl (In64.mk (by (simp only; omega)) (by (simp only; omega)))) ?_
        refine rg_q (q_a rfl) ?_
        refine rn ?_
        change Awp _ _ _ _ _
        refine awp_region 3 mixed (by kernel_rfl) ?_
        refine rg_q (q_m rfl) ?_
        refine rg_q (q_quo rfl rfl (by omega) (In64.mk (by (simp only; omega)) (by (simp only; omega)))) ?_
        refine rg_q (q_a rfl) ?_
        refine rn ?_
        refine ⟨(j, r + bitI (j + 1)), ⟨by simp only; omega, by simp only; omega, hrb2⟩, by simp only; omega, ?_⟩
        exact le_head (ms := []) (by repeat (first | exact Out.head rfl rfl | (refine Out.put ?_ rfl))) ⟨(by rfl), (by (show T.i _ = T.i _; (rw [hhalf]))), trivial⟩ trivial rfl rfl rfl rfl
      ·
        (try simp only [nb, ne_eq] at hc3)
        have hrb2 : rb n 31 0 = rb n j r := by rw [hrb, if_neg (by rw [hB] at hc3; omega)]
        refine awp_skip ?_
        change Awp _ _ _ _ _
        refine awp_region 3 mixed (by kernel_rfl) ?_
        refine rg_q (q_m rfl) ?_
        refine rg_q (q_quo rfl rfl (by omega) (In64.mk (by (simp only; omega)) (by (simp only; omega)))) ?_
        refine rg_q (q_a rfl) ?_
        refine rn ?_
        refine ⟨(j, r), ⟨by simp only; omega, by simp only; omega, hrb2⟩, by simp only; omega, ?_⟩
        exact le_head (ms := []) (by repeat (first | exact Out.head rfl rfl | (refine Out.put ?_ rfl))) ⟨(by rfl), (by (show T.i _ = T.i _; (rw [hhalf]))), trivial⟩ trivial rfl rfl rfl rfl
    ·
      (try simp only [nb, ne_eq] at hc2)
      have hk0 : k = 0 := by
        cases k with
        | zero => rfl
        | succ j => have hp0 : (0 : Int) < 2 ^ j := Int.pow_pos (by decide)
                    have hB : bitI (j + 1) = 2 ^ j := rfl
                    (try simp only at hc2); omega
      subst hk0
      have hz : rootI n = r := hrb
      refine awp_exit ?_
      change Awp _ _ _ _ _
      refine awp_seq ?_
      refine awp_region 2 mixed (by kernel_rfl) ?_
      refine rg_q (q_m rfl) (rg_q (q_a rfl) ?_)
      refine rn ?_
      change Awp _ _ _ _ _
      refine awp_ret ?_
      refine ⟨_, (.cons (.tmp (by exact .d _)) .nil), ?_⟩
      rw [hz]; rfl

def rupI (n : Int) : Int := if rootI n * rootI n < n then rootI n + 1 else rootI n
set_option maxRecDepth 100000 in
theorem bRootUp_p (n : Int) (h0 : 0 ≤ n) (h1 : n < 4611686018427387904) : PC Tryz.prog 308 [.v (.int .i64 (n))] (.v (.int .i64 (rupI n))) := by
 obtain ⟨r1, r2, r3, r4⟩ := root_spec h0 h1
 have r5 := Int.mul_nonneg r1 r1
 refine pc_of_awp Tryz.func308 rfl Tryz.ntmps308 (rs := [.tmp 2]) Tryz.results308 (by simp) fun w0 => ?_
 refine awp_seq ?_
 refine awp_region 1 mixed (by kernel_rfl) ?_
 refine rg_q (q_a rfl) ?_
 refine rs (awp_region 3 mixed (by kernel_rfl) ?_)
 refine rg_q (q_m rfl) ?_
 refine rg_q (q_call en307 (.cons rfl .nil) rfl (bRoot_p _ (by omega) (by omega))) ?_
 refine rg_q (q_a rfl) ?_
 refine rn ?_
 change Awp _ _ _ _ _
 refine awp_seq ?_
 refine awp_seq ?_
 refine awp_region 5 mixed (by kernel_rfl) ?_
 refine rg_q (q_m rfl) (rg_q (q_m rfl) ?_)
 refine rg_q (q_mul rfl rfl (In64.mk (by omega) (by omega))) ?_
 refine rg_q (q_m rfl) (rg_q (q_lss rfl rfl) ?_)
 refine rn ?_
 change Awp _ _ _ _ _
 refine awp_cond rfl (fun hc2 => ?_) (fun hc2 => ?_)
 ·
  (try simp only [nb, ne_eq] at hc2)
  have hz : rupI n = rootI n + 1 := by unfold rupI; rw [if_pos hc2]
  refine awp_region 3 mixed (by kernel_rfl) ?_
  refine rg_q (q_m rfl) ?_
  refine rg_q (q_add rfl rfl (In64.mk (by omega) (by omega))) ?_
  refine rg_q (q_a rfl) ?_
  refine rs (awp_region 2 mixed (by kernel_rfl) ?_)
  refine rg_q (q_m rfl) (rg_q (q_a rfl) ?_)
  refine rn ?_
  change Awp _ _ _ _ _
  refine awp_ret ?_
  refine ⟨_, (.cons (.tmp (by exact .d _)) .nil), ?_⟩
  rw [hz]; rfl
 ·
  (try simp only [nb, ne_eq] at hc2)
  have hz : rupI n = rootI n := by unfold rupI; rw [if_neg (by omega)]
  refine awp_skip ?_
  change Awp _ _ _ _ _
  refine awp_seq ?_
  refine awp_region 2 mixed (by kernel_rfl) ?_
  refine rg_q (q_m rfl) (rg_q (q_a rfl) ?_)
  refine rn ?_
  change Awp _ _ _ _ _
  refine awp_ret ?_
  refine ⟨_, (.cons (.tmp (by exact .d _)) .nil), ?_⟩
  rw [hz]; rfl
set_option maxRecDepth 100000 in
theorem lengthOf_p (x z : Int) (h1 : -200000 ≤ x) (h2 : x ≤ 200000) (h3 : -200000 ≤ z) (h4 : z ≤ 200000) : PC Tryz.prog 300 [.v (.int .i64 (x)), .v (.int .i64 (z))] (.agg [.v (.int .i64 ((lenI x z).1)), .v (.int .i64 ((lenI x z).2))]) := by
 obtain ⟨b1, b2, b3, b4⟩ := len_bounds (x := x) (z := z) h1 h2 h3 h4
 refine pc_of_awp Tryz.func300 rfl Tryz.ntmps300 (rs := [.cell 4 56]) Tryz.results300 (by simp) fun w0 => ?_
 refine awp_seq ?_
 refine awp_region 0 mixed (by kernel_rfl) ?_
 refine rg_nil ?_
 refine aops_alloc zr56 rfl rfl rfl ?_
 refine aops_nil ?_
 change Awp _ _ _ _ _
 refine awp_seq ?_
 refine awp_region 9 mixed (by kernel_rfl) ?_
 refine rg_q (q_m rfl) (rg_q (q_m rfl) ?_)
 refine rg_q (q_mul rfl rfl (In64.mk (by omega) (by omega))) ?_
 refine rg_q (q_m rfl) (rg_q (q_m rfl) ?_)
 refine rg_q (q_mul rfl rfl (In64.mk (by omega) (by omega))) ?_
 refine rg_q (q_add rfl rfl (In64.mk (by omega) (by omega))) ?_
 refine rg_q (q_mul rfl rfl (In64.mk (by omega) (by omega))) ?_
 refine rg_q (q_a rfl) ?_
 refine rs (awp_region 5 mixed (by kernel_rfl) ?_)
 refine rg_q (q_m rfl) ?_
 refine rg_q (q_call en307 (.cons rfl .nil) rfl (bRoot_p _ (by omega) (by omega))) ?_
 refine rg_q (q_m rfl) ?_
 refine rg_q (q_call en308 (.cons rfl .nil) rfl (bRootUp_p _ (by omega) (by omega))) ?_
 refine rg_q (q_build (cs := [_, _]) pl56 zr56 rfl (.cons rfl (by exact .inl rfl) (.cons rfl (by exact .inl rfl) .nil)) ⟨⟨rfl, by decide⟩, ⟨rfl, by decide⟩, trivial⟩ rfl) ?_
 refine rg_nil ?_
 refine aops_store sz56 rfl rfl (by exact .inr ⟨_, rfl⟩) rfl rfl (by decide) rfl ?_
 refine aops_nil ?_
 change Awp _ _ _ _ _
 refine awp_ret ?_
 refine ⟨_, (.cons (.cellA rfl rfl sz56 rfl) .nil), ?_⟩
 rfl
set_option maxRecDepth 100000 in
theorem lasting_p (r : Rg) (v : Int) (hr : LenIn r) (hv : 500 ≤ v) : PC Tryz.prog 299 [.agg [.v (.int .i64 ((r).1)), .v (.int .i64 ((r).2))], .v (.int .i64 (v))] (.agg [.v (.int .i64 ((timI r v).1)), .v (.int .i64 ((timI r v).2))]) := by
 obtain ⟨a, b, c, d, e⟩ := hr
 refine pc_of_awp Tryz.func299 rfl Tryz.ntmps299 (rs := [.cell 4 56]) Tryz.results299 (by simp) fun w0 => ?_
 refine awp_seq ?_
 refine awp_region 1 mixed (by kernel_rfl) ?_
 refine rg_q (q_box rfl (by exact .inr ⟨_, rfl⟩)) ?_
 refine rg_nil ?_
 refine aops_alloc zr56 rfl rfl rfl ?_
 refine aops_nil ?_
 change Awp _ _ _ _ _
 refine awp_seq ?_
 refine awp_region 11 mixed (by kernel_rfl) ?_
 refine rg_q (q_fieldAddr fld56_0 rfl) (rg_q (q_load sz3 rfl rfl) ?_)
 refine rg_q (q_mul rfl rfl (In64.mk (by omega) (by omega))) ?_
 refine rg_q (q_m rfl) ?_
 refine rg_q (q_call en273 (.cons rfl (.cons rfl .nil)) rfl (Floor_p _ _ ⟨by omega, by omega⟩ (by omega))) ?_
 refine rg_q (q_fieldAddr fld56_1 rfl) (rg_q (q_load sz3 rfl rfl) ?_)
 refine rg_q (q_mul rfl rfl (In64.mk (by omega) (by omega))) ?_
 refine rg_q (q_m rfl) ?_
 refine rg_q (q_call en287 (.cons rfl (.cons rfl .nil)) rfl (Ceil_p _ _ ⟨by omega, by omega⟩ (by omega))) ?_
 refine rg_q (q_build (cs := [_, _]) pl56 zr56 rfl (.cons rfl (by exact .inl rfl) (.cons rfl (by exact .inl rfl) .nil)) ⟨⟨rfl, by decide⟩, ⟨rfl, by decide⟩, trivial⟩ rfl) ?_
 refine rg_nil ?_
 refine aops_store sz56 rfl rfl (by exact .inr ⟨_, rfl⟩) rfl rfl (by decide) rfl ?_
 refine aops_nil ?_
 change Awp _ _ _ _ _
 refine awp_ret ?_
 refine ⟨_, (.cons (.cellA rfl rfl sz56 rfl) .nil), ?_⟩
 rfl
set_option maxRecDepth 100000 in
theorem sign_p (n : Int) : PC Tryz.prog 305 [.v (.int .i64 (n))] (.v (.int .i64 (sgn1 n))) := by
 refine pc_of_awp Tryz.func305 rfl Tryz.ntmps305 (rs := [.tmp 2]) Tryz.results305 (by simp) fun w0 => ?_
 refine awp_seq ?_
 refine awp_region 1 mixed (by kernel_rfl) ?_
 refine rg_q (q_a rfl) ?_
 refine rn ?_
 change Awp _ _ _ _ _
 refine awp_seq ?_
 refine awp_seq ?_
 refine awp_region 2 mixed (by kernel_rfl) ?_
 refine rg_q (q_m rfl) (rg_q (q_gtr rfl rfl) ?_)
 refine rn ?_
 change Awp _ _ _ _ _
 refine awp_cond rfl (fun hc1 => ?_) (fun hc1 => ?_)
 ·
  (try simp only [nb, ne_eq] at hc1)
  have hz : sgn1 n = 1 := sgn1_pos hc1
  refine awp_seq ?_
  refine awp_region 1 mixed (by kernel_rfl) ?_
  refine rg_q (q_a rfl) ?_
  refine rn ?_
  change Awp _ _ _ _ _
  refine awp_ret ?_
  refine ⟨_, (.cons (.tmp (by exact .d _)) .nil), ?_⟩
  rw [hz]; rfl
 ·
  (try simp only [nb, ne_eq] at hc1)
  refine awp_skip ?_
  change Awp _ _ _ _ _
  refine awp_seq ?_
  refine awp_seq ?_
  refine awp_region 2 mixed (by kernel_rfl) ?_
  refine rg_q (q_m rfl) (rg_q (q_lss rfl rfl) ?_)
  refine rn ?_
  change Awp _ _ _ _ _
  refine awp_cond rfl (fun hc3 => ?_) (fun hc3 => ?_)
  ·
   (try simp only [nb, ne_eq] at hc3)
   have hz : sgn1 n = -1 := sgn1_neg hc3
   refine awp_seq ?_
   refine awp_region 1 mixed (by kernel_rfl) ?_
   refine rg_q (q_a rfl) ?_
   refine rn ?_
   change Awp _ _ _ _ _
   refine awp_ret ?_
   refine ⟨_, (.cons (.tmp (by exact .d _)) .nil), ?_⟩
   rw [hz]; rfl
  ·
   (try simp only [nb, ne_eq] at hc3)
   have hz : sgn1 n = 0 := by unfold sgn1; rw [if_neg (by omega), if_neg (by omega)]
   refine awp_skip ?_
   change Awp _ _ _ _ _
   refine awp_seq ?_
   refine awp_region 1 mixed (by kernel_rfl) ?_
   refine rg_q (q_a rfl) ?_
   refine rn ?_
   change Awp _ _ _ _ _
   refine awp_ret ?_
   refine ⟨_, (.cons (.tmp (by exact .d _)) .nil), ?_⟩
   rw [hz]; rfl

theorem sgn1_in (n : Int) : -1 ≤ sgn1 n ∧ sgn1 n ≤ 1 := by unfold sgn1; split <;> (try split) <;> omega
theorem cmp_in (n d m k : Int) : -1 ≤ cmpI n d m k ∧ cmpI n d m k ≤ 1 := by unfold cmpI; split <;> (try split) <;> omega
theorem rs_bounds {t v h : Int} (t1 : -200000 ≤ t) (t2 : t ≤ 200000) (v1 : 500 ≤ v) (v2 : v ≤ 10000) (h1 : 1 ≤ h) (h2 : h ≤ 100000) :
    (0 ≤ t * t ∧ t * t ≤ 40000000000) ∧ (0 ≤ t * t * v ∧ t * t * v ≤ 400000000000000) ∧ (0 ≤ t * t * v * v ∧ t * t * v * v ≤ 4000000000000000000) ∧ (1 ≤ h * h ∧ h * h ≤ 10000000000) := by
  obtain ⟨b1, b2, b3, b4⟩ := len_bounds (x := t) (z := h) t1 t2 (by omega) (by omega)
  have m2 := mulb (a := t * t) (b := v) (A := 40000000000) (B := 10000) (by omega) (by omega) (by omega) (by omega)
  have m3 := mulb (a := t * t * v) (b := v) (A := 400000000000000) (B := 10000) (by omega) (by omega) (by omega) (by omega)
  have m4 := mulb (a := h) (b := h) (A := 100000) (B := 100000) (by omega) (by omega) (by omega) (by omega)
  have n2 := Int.mul_nonneg b1 (show 0 ≤ v by omega)
  have n3 := Int.mul_nonneg n2 (show 0 ≤ v by omega)
  have n4 := Int.mul_pos (show 0 < h by omega) (show 0 < h by omega)
  omega
set_option maxRecDepth 100000 in
theorem xslope_p (x : Crs) (t : Int) (hx : CrsOk x) (h1 : loX x ≤ t) (h2 : t ≤ hiX x) : PC Tryz.prog 298 [.agg (crsC x), .v (.int .i64 (t))] (.v (.int .i64 (slopeI x t))) := by
 have hu : slopeI x t = rslope x t := (rslope_eq hx h1 h2).symm
 unfold rslope at hu
 obtain ⟨a1, a2, b1, b2, c1, c2, d1, d2, e1, e2, f1, f2⟩ := hx
 unfold loX at h1
 unfold hiX at h2
 obtain ⟨⟨p1, p2⟩, ⟨p3, p4⟩, ⟨p5, p6⟩, p7, p8⟩ := rs_bounds (t := t - x.x1) (v := x.v2) (h := x.h1) (by omega) (by omega) f1 f2 c1 c2
 obtain ⟨⟨q1, q2⟩, ⟨q3, q4⟩, ⟨q5, q6⟩, q7, q8⟩ := rs_bounds (t := x.x2 - t) (v := x.v1) (h := x.h2) (by omega) (by omega) e1 e2 d1 d2
 have s1 := sgn1_in (t - x.x1)
 have s2 := sgn1_in (x.x2 - t)
 have hci := cmp_in ((t - x.x1) * (t - x.x1) * x.v2 * x.v2) ((t - x.x1) * (t - x.x1) + x.h1 * x.h1) ((x.x2 - t) * (x.x2 - t) * x.v1 * x.v1) ((x.x2 - t) * (x.x2 - t) + x.h2 * x.h2)
 refine pc_of_awp Tryz.func298 rfl Tryz.ntmps298 (rs := [.tmp 4]) Tryz.results298 (by simp) fun w0 => ?_
 refine awp_seq ?_
 refine awp_region 2 mixed (by kernel_rfl) ?_
 refine rg_q (q_box rfl (by exact .inr ⟨_, rfl⟩)) ?_
 refine rg_q (q_a rfl) ?_
 refine rs (awp_region 10 mixed (by kernel_rfl) ?_)
 refine rg_q (q_m rfl) (rg_q (q_fieldAddr fld364_0 rfl) (rg_q (q_load sz3 rfl rfl) ?_))
 refine rg_q (q_sub rfl rfl (In64.mk (by omega) (by omega))) ?_
 refine rg_q (q_fieldAddr fld364_3 rfl) (rg_q (q_load sz3 rfl rfl) (rg_q (q_m rfl) ?_))
 refine rg_q (q_sub rfl rfl (In64.mk (by omega) (by omega))) ?_
 refine rg_q (q_a rfl) (rg_q (q_a rfl) ?_)
 refine rs (awp_region 6 mixed (by kernel_rfl) ?_)
 refine rg_q (q_m rfl) ?_
 refine rg_q (q_call en305 (.cons rfl .nil) rfl (sign_p _)) ?_
 refine rg_q (q_m rfl) ?_
 refine rg_q (q_call en305 (.cons rfl .nil) rfl (sign_p _)) ?_
 refine rg_q (q_add rfl rfl (In64.mk (by omega) (by omega))) ?_
 refine rg_q (q_a rfl) ?_
 refine rn ?_
 change Awp _ _ _ _ _
 refine awp_seq ?_
 refine awp_seq ?_
 refine awp_region 6 mixed (by kernel_rfl) ?_
 refine rg_q (q_m rfl) (rg_q (q_eql rfl rfl) (rg_q (q_m rfl) ?_))
 refine rg_g rfl rfl (fun hG => (q_m rfl)) ?_
 refine rg_g rfl rfl (fun hG => (q_eql rfl rfl)) ?_
 refine rg_pick rfl rfl rfl rfl rfl rfl ?_
 refine rn ?_
 change Awp _ _ _ _ _
 refine awp_cond rfl (fun hc3 => ?_) (fun hc3 => ?_)
 ·
  (try simp only [nb, ne_eq] at hc3)
  rw [if_pos hc3] at hu
  refine awp_seq ?_
  refine awp_region 7 mixed (by kernel_rfl) ?_
  refine rg_q (q_m rfl) ?_
  refine rg_q (q_call en305 (.cons rfl .nil) rfl (sign_p _)) ?_
  refine rg_q (q_m rfl) ?_
  refine rg_q (q_call en305 (.cons rfl .nil) rfl (sign_p _)) ?_
  refine rg_q (q_sub rfl rfl (In64.mk (by omega) (by omega))) ?_
  refine rg_q (q_call en305 (.cons rfl .nil) rfl (sign_p _)) ?_
  refine rg_q (q_a rfl) ?_
  refine rn ?_
  change Awp _ _ _ _ _
  refine awp_ret ?_
  refine ⟨_, (.cons (.tmp (by exact .d _)) .nil), ?_⟩
  rw [hu]; rfl
 ·
  (try simp only [nb, ne_eq] at hc3)
  rw [if_neg (by omega)] at hu
  refine awp_skip ?_
  change Awp _ _ _ _ _
  refine awp_seq ?_
  refine awp_region 38 mixed (by kernel_rfl) ?_
  refine rg_q (q_m rfl) (rg_q (q_m rfl) ?_)
  refine rg_q (q_mul rfl rfl (In64.mk (by omega) (by omega))) ?_
  refine rg_q (q_fieldAddr fld364_5 rfl) (rg_q (q_load sz3 rfl rfl) ?_)
  refine rg_q (q_mul rfl rfl (In64.mk (by omega) (by omega))) ?_
  refine rg_q (q_fieldAddr fld364_5 rfl) (rg_q (q_load sz3 rfl rfl) ?_)
  refine rg_q (q_mul rfl rfl (In64.mk (by omega) (by omega))) ?_
  refine rg_q (q_m rfl) (rg_q (q_m rfl) ?_)
  refine rg_q (q_mul rfl rfl (In64.mk (by omega) (by omega))) ?_
  refine rg_q (q_fieldAddr fld364_1 rfl) (rg_q (q_load sz3 rfl rfl) (rg_q (q_fieldAddr fld364_1 rfl) (rg_q (q_load sz3 rfl rfl) ?_)))
  refine rg_q (q_mul rfl rfl (In64.mk (by omega) (by omega))) ?_
  refine rg_q (q_add rfl rfl (In64.mk (by omega) (by omega))) ?_
  refine rg_q (q_m rfl) (rg_q (q_m rfl) ?_)
  refine rg_q (q_mul rfl rfl (In64.mk (by omega) (by omega))) ?_
  refine rg_q (q_fieldAddr fld364_2 rfl) (rg_q (q_load sz3 rfl rfl) ?_)
  refine rg_q (q_mul rfl rfl (In64.mk (by omega) (by omega))) ?_
  refine rg_q (q_fieldAddr fld364_2 rfl) (rg_q (q_load sz3 rfl rfl) ?_)
  refine rg_q (q_mul rfl rfl (In64.mk (by omega) (by omega))) ?_
  refine rg_q (q_m rfl) (rg_q (q_m rfl) ?_)
  refine rg_q (q_mul rfl rfl (In64.mk (by omega) (by omega))) ?_
  refine rg_q (q_fieldAddr fld364_4 rfl) (rg_q (q_load sz3 rfl rfl) (rg_q (q_fieldAddr fld364_4 rfl) (rg_q (q_load sz3 rfl rfl) ?_)))
  refine rg_q (q_mul rfl rfl (In64.mk (by omega) (by omega))) ?_
  refine rg_q (q_add rfl rfl (In64.mk (by omega) (by omega))) ?_
  refine rg_q (q_call en306 (.cons rfl (.cons rfl (.cons rfl (.cons rfl .nil)))) rfl (bcompare_p _ _ _ _ ⟨by omega, by omega⟩ ⟨by omega, by omega, by omega⟩ ⟨by omega, by omega⟩ ⟨by omega, by omega, by omega⟩)) ?_
  refine rg_q (q_a rfl) ?_
  refine rn ?_
  change Awp _ _ _ _ _
  refine awp_seq ?_
  refine awp_seq ?_
  refine awp_region 2 mixed (by kernel_rfl) ?_
  refine rg_q (q_m rfl) (rg_q (q_lss rfl rfl) ?_)
  refine rn ?_
  change Awp _ _ _ _ _
  refine awp_cond rfl (fun hc6 => ?_) (fun hc6 => ?_)
  ·
   (try simp only [nb, ne_eq] at hc6)
   rw [if_pos hc6] at hu
   refine awp_seq ?_
   refine awp_region 3 mixed (by kernel_rfl) ?_
   refine rg_q (q_m rfl) ?_
   refine rg_q (q_neg rfl (In64.mk (by omega) (by omega))) ?_
   refine rg_q (q_a rfl) ?_
   refine rn ?_
   change Awp _ _ _ _ _
   refine awp_ret ?_
   refine ⟨_, (.cons (.tmp (by exact .d _)) .nil), ?_⟩
   rw [hu]; rfl
  ·
   (try simp only [nb, ne_eq] at hc6)
   rw [if_neg (by omega)] at hu
   refine awp_skip ?_
   change Awp _ _ _ _ _
   refine awp_seq ?_
   refine awp_region 2 mixed (by kernel_rfl) ?_
   refine rg_q (q_m rfl) (rg_q (q_a rfl) ?_)
   refine rn ?_
   change Awp _ _ _ _ _
   refine awp_ret ?_
   refine ⟨_, (.cons (.tmp (by exact .d _)) .nil), ?_⟩
   rw [hu]; rfl
set_option maxRecDepth 100000 in
theorem xtimeAt_p (x : Crs) (t : Int) (hx : CrsOk x) (h1 : -100000 ≤ t) (h2 : t ≤ 100000) : PC Tryz.prog 285 [.agg (crsC x), .v (.int .i64 (t))] (.agg [.v (.int .i64 ((timeAtI x t).1)), .v (.int .i64 ((timeAtI x t).2))]) := by
 obtain ⟨a1, a2, b1, b2, c1, c2, d1, d2, e1, e2, f1, f2⟩ := hx
 have l1 := len_in (x := t - x.x1) (z := x.h1) (by omega) (by omega) (by omega) (by omega)
 have l2 := len_in (x := x.x2 - t) (z := x.h2) (by omega) (by omega) (by omega) (by omega)
 obtain ⟨p1, p2, p3, p4⟩ := tim_in l1 e1
 obtain ⟨q1, q2, q3, q4⟩ := tim_in l2 f1
 refine pc_of_awpN Tryz.func285 rfl Tryz.ntmps285 (rs := [.cell 4 56]) Tryz.results285 (by simp) fun w0 hmine hrnd hpn => ?_
 refine awp_seq ?_
 refine awp_region 1 mixed (by kernel_rfl) ?_
 refine rg_q (q_box rfl (by exact .inr ⟨_, rfl⟩)) ?_
 refine rg_nil ?_
 refine aops_alloc zr56 rfl rfl rfl ?_
 refine aops_nil ?_
 change Awp _ _ _ _ _
 refine awp_seq ?_
 refine awp_regionM 24 [none, none, none, none, none, none, none, none, none, none, none, none, none, none, none, none, none, none, none, none, some 5, some 6, some 5, some 6] mixed (by kernel_rfl) ?_
 refine rgm_q rfl (q_m rfl) ?_
 refine rgm_q rfl (q_fieldAddr fld364_0 rfl) ?_
 refine rgm_q rfl (q_load sz3 rfl rfl) ?_
 refine rgm_q rfl (q_sub rfl rfl (In64.mk (by omega) (by omega))) ?_
 refine rgm_q rfl (q_fieldAddr fld364_1 rfl) ?_
 refine rgm_q rfl (q_load sz3 rfl rfl) ?_
 refine rgm_q rfl (q_call en300 (.cons rfl (.cons rfl .nil)) rfl (lengthOf_p (t - x.x1) x.h1 (by omega) (by omega) (by omega) (by omega))) ?_
 refine rgm_q rfl (q_fieldAddr fld364_2 rfl) ?_
 refine rgm_q rfl (q_load sz3 rfl rfl) ?_
 refine rgm_q rfl (q_call en299 (.cons rfl (.cons rfl .nil)) rfl (lasting_p (lenI (t - x.x1) x.h1) x.v1 l1 e1)) ?_
 refine rgm_q rfl (q_fieldAddr fld364_3 rfl) ?_
 refine rgm_q rfl (q_load sz3 rfl rfl) ?_
 refine rgm_q rfl (q_m rfl) ?_
 refine rgm_q rfl (q_sub rfl rfl (In64.mk (by omega) (by omega))) ?_
 refine rgm_q rfl (q_fieldAddr fld364_4 rfl) ?_
 refine rgm_q rfl (q_load sz3 rfl rfl) ?_
 refine rgm_q rfl (q_call en300 (.cons rfl (.cons rfl .nil)) rfl (lengthOf_p (x.x2 - t) x.h2 (by omega) (by omega) (by omega) (by omega))) ?_
 refine rgm_q rfl (q_fieldAddr fld364_5 rfl) ?_
 refine rgm_q rfl (q_load sz3 rfl rfl) ?_
 refine rgm_q rfl (q_call en299 (.cons rfl (.cons rfl .nil)) rfl (lasting_p (lenI (x.x2 - t) x.h2) x.v2 l2 f1)) ?_
 refine rgm_m (k := 5) rfl rfl (by rfl) (m_alloc zr56 rfl rfl) ?_
 refine rgm_m (k := 6) rfl rfl (by rfl) (m_alloc zr56 rfl rfl) ?_
 refine rgm_m (k := 5) rfl rfl (by rfl) (m_store sz56 rfl rfl (by exact .inr ⟨_, rfl⟩) rfl rfl (by decide) rfl) ?_
 refine rgm_m (k := 6) rfl rfl (by rfl) (m_store sz56 rfl rfl (by exact .inr ⟨_, rfl⟩) rfl rfl (by decide) rfl) ?_
 refine rgm_nil (aops_nil ?_)
 change Awp _ _ _ _ _
 refine awp_seq ?_
 refine awp_region 11 mixed (by kernel_rfl) ?_
 refine rg_q (q_fieldAddr_ref fld56_0 rfl) (rg_q (q_load_ref sz3 rfl rfl rfl) (rg_q (q_fieldAddr_ref fld56_0 rfl) (rg_q (q_load_ref sz3 rfl rfl rfl) ?_)))
 refine rg_q (q_add rfl rfl (In64.mk (by omega) (by omega))) ?_
 refine rg_q (q_fieldAddr_ref fld56_1 rfl) (rg_q (q_load_ref sz3 rfl rfl rfl) (rg_q (q_fieldAddr_ref fld56_1 rfl) (rg_q (q_load_ref sz3 rfl rfl rfl) ?_)))
 refine rg_q (q_add rfl rfl (In64.mk (by omega) (by omega))) ?_
 refine rg_q (q_build (cs := [_, _]) pl56 zr56 rfl (.cons rfl (by exact .inl rfl) (.cons rfl (by exact .inl rfl) .nil)) ⟨⟨rfl, by decide⟩, ⟨rfl, by decide⟩, trivial⟩ rfl) ?_
 refine rg_nil ?_
 refine aops_store sz56 rfl rfl (by exact .inr ⟨_, rfl⟩) rfl rfl (by decide) rfl ?_
 refine aops_nil ?_
 change Awp _ _ _ _ _
 refine awp_ret ?_
 refine ⟨_, (.cons (.cellA rfl rfl sz56 rfl) .nil), ?_⟩
 rfl
set_option maxRecDepth 100000 in
theorem xis_p (x : Crs) (t : Int) : PC Tryz.prog 286 [.agg (crsC x), .v (.int .i64 (t))] (.v (.bool (inR (loX x) t (hiX x)))) := by
 refine pc_of_awp Tryz.func286 rfl Tryz.ntmps286 (rs := [.tmp 4]) Tryz.results286 (by simp) fun w0 => ?_
 refine awp_seq ?_
 refine awp_region 2 mixed (by kernel_rfl) ?_
 refine rg_q (q_box rfl (by exact .inr ⟨_, rfl⟩)) ?_
 refine rg_q (q_a rfl) ?_
 refine rs (awp_region 13 mixed (by kernel_rfl) ?_)
 refine rg_q (q_m rfl) (rg_q (q_fieldAddr fld364_0 rfl) (rg_q (q_load sz3 rfl rfl) (rg_q (q_fieldAddr fld364_3 rfl) (rg_q (q_load sz3 rfl rfl) ?_))))
 refine rg_q (q_min rfl rfl) ?_
 refine rg_q (q_fieldAddr fld364_0 rfl) (rg_q (q_load sz3 rfl rfl) (rg_q (q_fieldAddr fld364_3 rfl) (rg_q (q_load sz3 rfl rfl) ?_)))
 refine rg_q (q_max rfl rfl) ?_
 refine rg_q (q_call en31 (.cons rfl (.cons rfl (.cons rfl .nil))) rfl (within4_p _ _ _)) ?_
 refine rg_q (q_a rfl) ?_
 refine rn ?_
 change Awp _ _ _ _ _
 refine awp_ret ?_
 refine ⟨_, (.cons (.tmp (by exact .d _)) .nil), ?_⟩
 rfl
set_option maxRecDepth 100000 in
theorem xcrossing_p (x : Crs) (hx : CrsOk x) : PC Tryz.prog 284 [.agg (crsC x)] (.v (.int .i64 (crossI x))) := by
 have hx0 := hx
 obtain ⟨a1, a2, b1, b2, c1, c2, d1, d2, e1, e2, f1, f2⟩ := hx0
 have hl : -100000 ≤ loX x ∧ loX x ≤ hiX x ∧ hiX x ≤ 100000 := by unfold loX hiX; omega
 have hlo := slope_lo hx
 refine pc_of_awp Tryz.func284 rfl Tryz.ntmps284 (rs := [.tmp 2]) Tryz.results284 (by simp) fun w0 => ?_
 refine awp_seq ?_
 refine awp_region 2 mixed (by kernel_rfl) ?_
 refine rg_q (q_box rfl (by exact .inr ⟨_, rfl⟩)) ?_
 refine rg_q (q_a rfl) ?_
 refine rs (awp_region 12 mixed (by kernel_rfl) ?_)
 refine rg_q (q_fieldAddr fld364_0 rfl) (rg_q (q_load sz3 rfl rfl) (rg_q (q_fieldAddr fld364_3 rfl) (rg_q (q_load sz3 rfl rfl) ?_)))
 refine rg_q (q_min rfl rfl) ?_
 refine rg_q (q_fieldAddr fld364_0 rfl) (rg_q (q_load sz3 rfl rfl) (rg_q (q_fieldAddr fld364_3 rfl) (rg_q (q_load sz3 rfl rfl) ?_)))
 refine rg_q (q_max rfl rfl) ?_
 refine rg_q (q_a rfl) (rg_q (q_a rfl) ?_)
 refine rn ?_
 change Awp _ _ _ _ _
 refine awp_seq ?_
 refine awp_seq ?_
 refine awp_region 4 mixed (by kernel_rfl) ?_
 refine rg_q (q_loadA (ds := [_, _, _, _, _, _]) sz364 rfl rfl rfl) ?_
 refine rg_q (q_m rfl) ?_
 refine rg_q (q_call en298 (.cons rfl (.cons rfl .nil)) rfl (xslope_p x (hiX x) hx (by omega) (by omega))) ?_
 refine rg_q (q_leq rfl rfl) ?_
 refine rn ?_
 change Awp _ _ _ _ _
 refine awp_cond rfl (fun hc2 => ?_) (fun hc2 => ?_)
 ·
  (try simp only [nb, ne_eq] at hc2)
  have hz : crossI x = hiX x := (cross_unique hx (by omega) (by omega) (by omega) (.inl rfl)).symm
  refine awp_seq ?_
  refine awp_region 2 mixed (by kernel_rfl) ?_
  refine rg_q (q_m rfl) (rg_q (q_a rfl) ?_)
  refine rn ?_
  change Awp _ _ _ _ _
  refine awp_ret ?_
  refine ⟨_, (.cons (.tmp (by exact .d _)) .nil), ?_⟩
  rw [hz]; rfl
 ·
  (try simp only [nb, ne_eq] at hc2)
  have hlh : loX x < hiX x := by
   rcases Int.lt_or_eq_of_le hl.2.1 with q | q
   · exact q
   · rw [q] at hlo; omega
  refine awp_skip ?_
  change Awp _ _ _ _ _
  refine awp_seq ?_
  refine awp_block ?_
  refine awp_loopH [3, 4, 5, 21, 22, 23, 24, 25, 26, 27, 28, 29, 30, 31, 32, 33, 34] [] (α := Int × Int) (fun y => [(3, T.i y.1), (4, T.i y.2)]) (fun y => []) (fun y => loX x ≤ y.1 ∧ y.1 < y.2 ∧ y.2 ≤ hiX x ∧ ¬ 0 < slopeI x y.1 ∧ 0 < slopeI x y.2) (fun y => (y.2 - y.1).toNat) (loX x, hiX x) ⟨Int.le_refl _, hlh, Int.le_refl _, hlo, by simp only; omega⟩ ?_ ?_
  · exact le_head (ms := []) (by repeat (exact Out.refl _)) ⟨(by rfl), (by rfl), trivial⟩ trivial rfl rfl rfl rfl
  ·
   intro y ⟨k1, k2, k3, k4, k5⟩
   refine awp_seq ?_
   refine awp_seq ?_
   refine awp_region 4 mixed (by kernel_rfl) ?_
   refine rg_q (q_m rfl) (rg_q (q_m rfl) ?_)
   refine rg_q (q_sub rfl rfl (In64.mk (by omega) (by omega))) ?_
   refine rg_q (q_gtr rfl rfl) ?_
   refine rn ?_
   change Awp _ _ _ _ _
   refine awp_cond rfl (fun hc4 => ?_) (fun hc4 => ?_)
   ·
    (try simp only [nb, ne_eq] at hc4)
    have hmid : y.1 < (y.1 + y.2) / 2 ∧ (y.1 + y.2) / 2 < y.2 := by omega
    refine awp_skip ?_
    change Awp _ _ _ _ _
    refine awp_block ?_
    refine awp_seq ?_
    refine awp_region 5 mixed (by kernel_rfl) ?_
    refine rg_q (q_m rfl) (rg_q (q_m rfl) ?_)
    refine rg_q (q_add rfl rfl (In64.mk (by omega) (by omega))) ?_
    refine rg_q (q_call en273 (.cons rfl (.cons rfl .nil)) rfl (Floor_p _ _ ⟨by omega, by omega⟩ (by omega))) ?_
    refine rg_q (q_a rfl) ?_
    refine rs (awp_region 4 mixed (by kernel_rfl) ?_)
    refine rg_q (q_loadA (ds := [_, _, _, _, _, _]) sz364 rfl rfl rfl) ?_
    refine rg_q (q_m rfl) ?_
    refine rg_q (q_call en298 (.cons rfl (.cons rfl .nil)) rfl (xslope_p x ((y.1 + y.2) / 2) hx (by omega) (by omega))) ?_
    refine rg_q (q_leq rfl rfl) ?_
    refine rn ?_
    change Awp _ _ _ _ _
    refine awp_cond rfl (fun hc6 => ?_) (fun hc6 => ?_)
    ·
     (try simp only [nb, ne_eq] at hc6)
     refine awp_region 2 mixed (by kernel_rfl) ?_
     refine rg_q (q_m rfl) (rg_q (q_a rfl) ?_)
     refine rn ?_
     refine ⟨((y.1 + y.2) / 2, y.2), ⟨by simp only; omega, hmid.2, k3, by simp only; omega, k5⟩, by simp only; omega, ?_⟩
     exact le_head (ms := []) (by repeat (first | exact Out.head rfl rfl | (refine Out.put ?_ rfl))) ⟨(by rfl), (by rfl), trivial⟩ trivial rfl rfl rfl rfl
    ·
     (try simp only [nb, ne_eq] at hc6)
     refine awp_region 2 mixed (by kernel_rfl) ?_
     refine rg_q (q_m rfl) (rg_q (q_a rfl) ?_)
     refine rn ?_
     refine ⟨(y.1, (y.1 + y.2) / 2), ⟨k1, hmid.1, by simp only; omega, k4, by simp only; omega⟩, by simp only; omega, ?_⟩
     exact le_head (ms := []) (by repeat (first | exact Out.head rfl rfl | (refine Out.put ?_ rfl))) ⟨(by rfl), (by rfl), trivial⟩ trivial rfl rfl rfl rfl
   ·
    (try simp only [nb, ne_eq] at hc4)
    have hy12 : y.2 = y.1 + 1 := by omega
    have hz : crossI x = y.1 := (cross_unique hx k1 (by omega) k4 (.inr (by rw [← hy12]; exact k5))).symm
    refine awp_exit ?_
    change Awp _ _ _ _ _
    refine awp_seq ?_
    refine awp_region 2 mixed (by kernel_rfl) ?_
    refine rg_q (q_m rfl) (rg_q (q_a rfl) ?_)
    refine rn ?_
    change Awp _ _ _ _ _
    refine awp_ret ?_
    refine ⟨_, (.cons (.tmp (by exact .d _)) .nil), ?_⟩
    rw [hz]; rfl
set_option maxRecDepth 100000 in
theorem xleast_p (x : Crs) (hx : CrsOk x) : PC Tryz.prog 271 [.agg (crsC x)] (.agg [.v (.int .i64 ((leastI x).1)), .v (.int .i64 ((leastI x).2))]) := by
 have hs := cross_spec hx
 have hx0 := hx
 obtain ⟨a1, a2, b1, b2, c1, c2, d1, d2, e1, e2, f1, f2⟩ := hx0
 have hl : -100000 ≤ loX x ∧ hiX x ≤ 100000 := by unfold loX hiX; omega
 obtain ⟨p1, p2, p3, p4⟩ := timeAt_in (t := crossI x) hx (by omega) (by omega)
 have m1 := mulb (a := x.v1) (b := x.h1) (A := 10000) (B := 100000) (by omega) (by omega) (by omega) (by omega)
 have m2 := mulb (a := x.v2) (b := x.h2) (A := 10000) (B := 100000) (by omega) (by omega) (by omega) (by omega)
 have n1 := Int.mul_pos (show 0 < x.v1 by omega) (show 0 < x.h1 by omega)
 have n2 := Int.mul_pos (show 0 < x.v2 by omega) (show 0 < x.h2 by omega)
 have u1 := up_in (n := 10000000) (d := x.v1 * x.h1) (by omega) n1
 have u2 := up_in (n := 10000000) (d := x.v2 * x.h2) (by omega) n2
 refine pc_of_awpN Tryz.func271 rfl Tryz.ntmps271 (rs := [.cell 2 56]) Tryz.results271 (by simp) fun w0 hmine hrnd hpn => ?_
 refine awp_seq ?_
 refine awp_region 1 mixed (by kernel_rfl) ?_
 refine rg_q (q_box rfl (by exact .inr ⟨_, rfl⟩)) ?_
 refine rg_nil ?_
 refine aops_alloc zr56 rfl rfl rfl ?_
 refine aops_nil ?_
 change Awp _ _ _ _ _
 refine awp_seq ?_
 refine awp_region 3 mixed (by kernel_rfl) ?_
 refine rg_q (q_loadA (ds := [_, _, _, _, _, _]) sz364 rfl rfl rfl) ?_
 refine rg_q (q_call en284 (.cons rfl .nil) rfl (xcrossing_p _ hx)) ?_
 refine rg_q (q_a rfl) ?_
 refine rs (awp_region 3 mixed (by kernel_rfl) ?_)
 refine rg_q (q_loadA (ds := [_, _, _, _, _, _]) sz364 rfl rfl rfl) ?_
 refine rg_q (q_m rfl) ?_
 refine rg_q (q_call en285 (.cons rfl (.cons rfl .nil)) rfl (xtimeAt_p x (crossI x) hx (by omega) (by omega))) ?_
 refine rg_nil ?_
 refine aops_alloc zr56 rfl rfl rfl ?_
 refine aops_store sz56 rfl rfl (by exact .inr ⟨_, rfl⟩) rfl rfl (by decide) rfl ?_
 refine aops_nil ?_
 change Awp _ _ _ _ _
 refine awp_seq ?_
 refine awp_seq ?_
 refine awp_region 4 mixed (by kernel_rfl) ?_
 refine rg_q (q_loadA (ds := [_, _, _, _, _, _]) sz364 rfl rfl rfl) ?_
 refine rg_q (q_m rfl) ?_
 refine rg_q (q_add rfl rfl (In64.mk (by omega) (by omega))) ?_
 refine rg_q (q_call en286 (.cons rfl (.cons rfl .nil)) rfl (xis_p _ _)) ?_
 refine rn ?_
 change Awp _ _ _ _ _
 refine awp_cond rfl (fun hc3 => ?_) (fun hc3 => ?_)
 ·
  (try simp only [nb, ne_eq] at hc3)
  have hin : loX x ≤ crossI x + 1 ∧ crossI x + 1 ≤ hiX x := by simpa [inR] using hc3
  obtain ⟨q1, q2, q3, q4⟩ := timeAt_in (t := crossI x + 1) hx (by omega) (by omega)
  have h0 : least0 x = (min (timeAtI x (crossI x)).1 (timeAtI x (crossI x + 1)).1, min (timeAtI x (crossI x)).2 (timeAtI x (crossI x + 1)).2) := by unfold least0; rw [if_pos hc3]
  refine awp_seq ?_
  refine awp_region 4 mixed (by kernel_rfl) ?_
  refine rg_q (q_loadA (ds := [_, _, _, _, _, _]) sz364 rfl rfl rfl) ?_
  refine rg_q (q_m rfl) ?_
  refine rg_q (q_add rfl rfl (In64.mk (by omega) (by omega))) ?_
  refine rg_q (q_call en285 (.cons rfl (.cons rfl .nil)) rfl (xtimeAt_p x (crossI x + 1) hx (by omega) (by omega))) ?_
  refine rg_nil ?_
  refine aops_alloc zr56 rfl rfl rfl ?_
  refine aops_store sz56 rfl rfl (by exact .inr ⟨_, rfl⟩) rfl rfl (by decide) rfl ?_
  refine aops_nil ?_
  change Awp _ _ _ _ _
  refine awp_region 11 mixed (by kernel_rfl) ?_
  refine rg_q (q_fieldAddr_ref fld56_0 rfl) (rg_q (q_load_ref sz3 rfl rfl rfl) (rg_q (q_fieldAddr_ref fld56_0 rfl) (rg_q (q_load_ref sz3 rfl rfl rfl) ?_)))
  refine rg_q (q_min rfl rfl) ?_
  refine rg_q (q_fieldAddr_ref fld56_1 rfl) (rg_q (q_load_ref sz3 rfl rfl rfl) (rg_q (q_fieldAddr_ref fld56_1 rfl) (rg_q (q_load_ref sz3 rfl rfl rfl) ?_)))
  refine rg_q (q_min rfl rfl) ?_
  refine rg_q (q_build (cs := [_, _]) pl56 zr56 rfl (.cons rfl (by exact .inl rfl) (.cons rfl (by exact .inl rfl) .nil)) ⟨⟨rfl, by decide⟩, ⟨rfl, by decide⟩, trivial⟩ rfl) ?_
  refine rg_nil ?_
  refine aops_store sz56 rfl rfl (by exact .inr ⟨_, rfl⟩) rfl rfl (by exact Nat.le_of_ble_eq_true rfl) rfl ?_
  refine aops_nil ?_
  change Awp _ _ _ _ _
  refine awp_seq ?_
  refine awp_region 18 mixed (by kernel_rfl) ?_
  refine rg_q (q_fieldAddr_ref fld56_0 rfl) (rg_q (q_load_ref sz3 rfl rfl rfl) (rg_q (q_fieldAddr fld364_2 rfl) (rg_q (q_load sz3 rfl rfl) (rg_q (q_fieldAddr fld364_1 rfl) (rg_q (q_load sz3 rfl rfl) ?_)))))
  refine rg_q (q_mul rfl rfl (In64.mk (by omega) (by omega))) ?_
  refine rg_q (q_call en287 (.cons rfl (.cons rfl .nil)) rfl (Ceil_p _ _ ⟨by omega, by omega⟩ (by omega))) ?_
  refine rg_q (q_sub rfl rfl (In64.mk (by omega) (by omega))) ?_
  refine rg_q (q_fieldAddr fld364_5 rfl) (rg_q (q_load sz3 rfl rfl) (rg_q (q_fieldAddr fld364_4 rfl) (rg_q (q_load sz3 rfl rfl) ?_)))
  refine rg_q (q_mul rfl rfl (In64.mk (by omega) (by omega))) ?_
  refine rg_q (q_call en287 (.cons rfl (.cons rfl .nil)) rfl (Ceil_p _ _ ⟨by omega, by omega⟩ (by omega))) ?_
  refine rg_q (q_sub rfl rfl (In64.mk (by omega) (by omega))) ?_
  refine rg_q (q_max rfl rfl) ?_
  refine rg_q (q_fieldAddr_ref fld56_0 rfl) ?_
  refine rg_nil ?_
  refine aops_store sz3 rfl rfl (by exact .inl rfl) rfl rfl (by exact Nat.le_of_ble_eq_true rfl) rfl ?_
  refine aops_nil ?_
  change Awp _ _ _ _ _
  refine awp_seq ?_
  refine awp_region 1 mixed (by kernel_rfl) ?_
  refine rg_q (q_load_refA (ds := [_, _]) sz56 rfl rfl rfl rfl) ?_
  refine rg_nil ?_
  refine aops_store sz56 rfl rfl (by exact .inr ⟨_, rfl⟩) rfl rfl (by decide) rfl ?_
  refine aops_nil ?_
  change Awp _ _ _ _ _
  refine awp_ret ?_
  refine ⟨_, (.cons (.cellA rfl rfl sz56 rfl) .nil), ?_⟩
  unfold leastI; rw [h0]; rfl
 ·
  (try simp only [nb, ne_eq] at hc3)
  have h0 : least0 x = timeAtI x (crossI x) := by unfold least0; rw [if_neg (by simpa using hc3)]
  refine awp_skip ?_
  change Awp _ _ _ _ _
  refine awp_seq ?_
  refine awp_region 18 mixed (by kernel_rfl) ?_
  refine rg_q (q_fieldAddr_ref fld56_0 rfl) (rg_q (q_load_ref sz3 rfl rfl rfl) (rg_q (q_fieldAddr fld364_2 rfl) (rg_q (q_load sz3 rfl rfl) (rg_q (q_fieldAddr fld364_1 rfl) (rg_q (q_load sz3 rfl rfl) ?_)))))
  refine rg_q (q_mul rfl rfl (In64.mk (by omega) (by omega))) ?_
  refine rg_q (q_call en287 (.cons rfl (.cons rfl .nil)) rfl (Ceil_p _ _ ⟨by omega, by omega⟩ (by omega))) ?_
  refine rg_q (q_sub rfl rfl (In64.mk (by omega) (by omega))) ?_
  refine rg_q (q_fieldAddr fld364_5 rfl) (rg_q (q_load sz3 rfl rfl) (rg_q (q_fieldAddr fld364_4 rfl) (rg_q (q_load sz3 rfl rfl) ?_)))
  refine rg_q (q_mul rfl rfl (In64.mk (by omega) (by omega))) ?_
  refine rg_q (q_call en287 (.cons rfl (.cons rfl .nil)) rfl (Ceil_p _ _ ⟨by omega, by omega⟩ (by omega))) ?_
  refine rg_q (q_sub rfl rfl (In64.mk (by omega) (by omega))) ?_
  refine rg_q (q_max rfl rfl) ?_
  refine rg_q (q_fieldAddr_ref fld56_0 rfl) ?_
  refine rg_nil ?_
  refine aops_store sz3 rfl rfl (by exact .inl rfl) rfl rfl (by exact Nat.le_of_ble_eq_true rfl) rfl ?_
  refine aops_nil ?_
  change Awp _ _ _ _ _
  refine awp_seq ?_
  refine awp_region 1 mixed (by kernel_rfl) ?_
  refine rg_q (q_load_refA (ds := [_, _]) sz56 rfl rfl rfl rfl) ?_
  refine rg_nil ?_
  refine aops_store sz56 rfl rfl (by exact .inr ⟨_, rfl⟩) rfl rfl (by decide) rfl ?_
  refine aops_nil ?_
  change Awp _ _ _ _ _
  refine awp_ret ?_
  refine ⟨_, (.cons (.cellA rfl rfl sz56 rfl) .nil), ?_⟩
  unfold leastI; rw [h0]; rfl
set_option maxRecDepth 100000 in
theorem xunfolded_p (m : Md) (z : Int) (hm : MdOk m) (h1 : -100000 ≤ z) (h2 : z ≤ 100000) : PC Tryz.prog 288 [.agg (mdC m), .v (.int .i64 (z))] (.v (.int .i64 (unfI m z))) := by
 obtain ⟨b1, b2⟩ := kt_bounds hm
 obtain ⟨w1, w2, m1, m2, k1, k2, t1, t2⟩ := hm
 have hkm := Int.tmod_nonneg (a := m.k) 2 k1
 have hkl := Int.tmod_lt_of_pos m.k (show (0 : Int) < 2 by decide)
 refine pc_of_awp Tryz.func288 rfl Tryz.ntmps288 (rs := [.tmp 4]) Tryz.results288 (by simp) fun w0 => ?_
 refine awp_seq ?_
 refine awp_region 2 mixed (by kernel_rfl) ?_
 refine rg_q (q_box rfl (by exact .inr ⟨_, rfl⟩)) ?_
 refine rg_q (q_a rfl) ?_
 refine rn ?_
 change Awp _ _ _ _ _
 refine awp_seq ?_
 refine awp_seq ?_
 refine awp_region 4 mixed (by kernel_rfl) ?_
 refine rg_q (q_fieldAddr fld24_2 rfl) (rg_q (q_load sz3 rfl rfl) ?_)
 refine rg_q (q_rem rfl rfl (by omega)) ?_
 refine rg_q (q_eql rfl rfl) ?_
 refine rn ?_
 change Awp _ _ _ _ _
 refine awp_cond rfl (fun hc1 => ?_) (fun hc1 => ?_)
 ·
  (try simp only [nb, ne_eq] at hc1)
  have hz : unfI m z = m.k * m.t + z := by unfold unfI; rw [if_neg (by omega)]
  refine awp_seq ?_
  refine awp_region 8 mixed (by kernel_rfl) ?_
  refine rg_q (q_fieldAddr fld24_2 rfl) (rg_q (q_load sz3 rfl rfl) (rg_q (q_fieldAddr fld24_3 rfl) (rg_q (q_load sz3 rfl rfl) ?_)))
  refine rg_q (q_mul rfl rfl (In64.mk (by omega) (by omega))) ?_
  refine rg_q (q_m rfl) ?_
  refine rg_q (q_add rfl rfl (In64.mk (by omega) (by omega))) ?_
  refine rg_q (q_a rfl) ?_
  refine rn ?_
  change Awp _ _ _ _ _
  refine awp_ret ?_
  refine ⟨_, (.cons (.tmp (by exact .d _)) .nil), ?_⟩
  rw [hz]; rfl
 ·
  (try simp only [nb, ne_eq] at hc1)
  have hz : unfI m z = m.k * m.t + m.t - z := by unfold unfI; rw [if_pos (by omega)]; omega
  refine awp_skip ?_
  change Awp _ _ _ _ _
  refine awp_seq ?_
  refine awp_region 11 mixed (by kernel_rfl) ?_
  refine rg_q (q_fieldAddr fld24_2 rfl) (rg_q (q_load sz3 rfl rfl) (rg_q (q_fieldAddr fld24_3 rfl) (rg_q (q_load sz3 rfl rfl) ?_)))
  refine rg_q (q_mul rfl rfl (In64.mk (by omega) (by omega))) ?_
  refine rg_q (q_fieldAddr fld24_3 rfl) (rg_q (q_load sz3 rfl rfl) ?_)
  refine rg_q (q_add rfl rfl (In64.mk (by omega) (by omega))) ?_
  refine rg_q (q_m rfl) ?_
  refine rg_q (q_sub rfl rfl (In64.mk (by omega) (by omega))) ?_
  refine rg_q (q_a rfl) ?_
  refine rn ?_
  change Awp _ _ _ _ _
  refine awp_ret ?_
  refine ⟨_, (.cons (.tmp (by exact .d _)) .nil), ?_⟩
  rw [hz]; rfl
set_option maxRecDepth 100000 in
theorem crossOf_p (m : Md) (a b : Int × Int) (hm : MdOk m) (hw : wayE m a b = 0) : PC Tryz.prog 272 [.agg (mdC m), .agg (shC a), .agg (shC b)] (.agg (crsC (wayI m a b).1)) := by
 obtain ⟨⟨g1, g2⟩, ⟨g3, g4⟩, g5, g6, g7⟩ := wayE_ok hw
 have hz := (way_law hm hw).1
 refine pc_of_awpN Tryz.func272 rfl Tryz.ntmps272 (rs := [.cell 6 364]) Tryz.results272 (by simp) fun w0 hmine hrnd hpn => ?_
 refine awp_seq ?_
 refine awp_region 3 mixed (by kernel_rfl) ?_
 refine rg_q (q_box rfl (by exact .inr ⟨_, rfl⟩)) ?_
 refine rg_q (q_box rfl (by exact .inr ⟨_, rfl⟩)) ?_
 refine rg_q (q_box rfl (by exact .inr ⟨_, rfl⟩)) ?_
 refine rg_nil ?_
 refine aops_alloc zr364 rfl rfl rfl ?_
 refine aops_nil ?_
 change Awp _ _ _ _ _
 refine awp_seq ?_
 refine awp_region 16 mixed (by kernel_rfl) ?_
 refine rg_q (q_fieldAddr fld33_0 rfl) (rg_q (q_load sz3 rfl rfl) (rg_q (q_fieldAddr fld33_1 rfl) (rg_q (q_load sz3 rfl rfl) ?_)))
 refine rg_q (q_neg rfl (In64.mk (by omega) (by omega))) ?_
 refine rg_q (q_fieldAddr fld24_0 rfl) (rg_q (q_load sz3 rfl rfl) (rg_q (q_fieldAddr fld33_0 rfl) (rg_q (q_load sz3 rfl rfl) ?_)))
 refine rg_q (q_loadA (ds := [_, _, _, _]) sz24 rfl rfl rfl) ?_
 refine rg_q (q_fieldAddr fld33_1 rfl) (rg_q (q_load sz3 rfl rfl) ?_)
 refine rg_q (q_call en288 (.cons rfl (.cons rfl .nil)) rfl (xunfolded_p _ _ hm (by omega) (by omega))) ?_
 refine rg_q (q_fieldAddr fld24_1 rfl) (rg_q (q_load sz3 rfl rfl) ?_)
 refine rg_q (q_build (cs := [_, _, _, _, _, _]) pl364 zr364 rfl (.cons rfl (by exact .inl rfl) (.cons rfl (by exact .inl rfl) (.cons rfl (by exact .inl rfl) (.cons rfl (by exact .inl rfl) (.cons rfl (by exact .inl rfl) (.cons rfl (by exact .inl rfl) .nil)))))) ⟨⟨rfl, by decide⟩, ⟨rfl, by decide⟩, ⟨rfl, by decide⟩, ⟨rfl, by decide⟩, ⟨rfl, by decide⟩, ⟨rfl, by decide⟩, trivial⟩ rfl) ?_
 refine rg_nil ?_
 refine aops_store sz364 rfl rfl (by exact .inr ⟨_, rfl⟩) rfl rfl (by decide) rfl ?_
 refine aops_nil ?_
 change Awp _ _ _ _ _
 refine awp_ret ?_
 refine ⟨_, (.cons (.cellA rfl rfl sz364 rfl) .nil), ?_⟩
 rw [hz]; rfl

theorem lt_is {m : Md} {a b : Int × Int} (hm : MdOk m) (hw : wayE m a b = 0) : ltI m a b = (leastI (wayI m a b).1, 0) := by
  have h1 : modeE m = 0 := mode_ok.2 hm
  have ho : opnI m a b = wayI m a b := by unfold opnI; rw [if_neg (fun q => q h1)]
  unfold ltI
  rw [ho, (way_law hm hw).1]; rfl
set_option maxRecDepth 100000 in
theorem xleastTime_p (m : Md) (a b : Int × Int) (hm : MdOk m) (hw : wayE m a b = 0) : PC Tryz.prog 238 [.agg (mdC m), .agg (shC a), .agg (shC b)] (.agg [.v (.int .i64 (((ltI m a b).1).1)), .v (.int .i64 (((ltI m a b).1).2))]) := by
 have hx := (way_law hm hw).2
 have hz := lt_is hm hw
 refine pc_of_awpN Tryz.func238 rfl Tryz.ntmps238 (rs := [.cell 6 56]) Tryz.results238 (by simp) fun w0 hmine hrnd hpn => ?_
 refine awp_seq ?_
 refine awp_region 3 mixed (by kernel_rfl) ?_
 refine rg_q (q_box rfl (by exact .inr ⟨_, rfl⟩)) ?_
 refine rg_q (q_box rfl (by exact .inr ⟨_, rfl⟩)) ?_
 refine rg_q (q_box rfl (by exact .inr ⟨_, rfl⟩)) ?_
 refine rg_nil ?_
 refine aops_alloc zr56 rfl rfl rfl ?_
 refine aops_nil ?_
 change Awp _ _ _ _ _
 refine awp_seq ?_
 refine awp_region 5 mixed (by kernel_rfl) ?_
 refine rg_q (q_loadA (ds := [_, _, _, _]) sz24 rfl rfl rfl) ?_
 refine rg_q (q_loadA (ds := [_, _]) sz33 rfl rfl rfl) ?_
 refine rg_q (q_loadA (ds := [_, _]) sz33 rfl rfl rfl) ?_
 refine rg_q (q_call en272 (.cons rfl (.cons rfl (.cons rfl .nil))) rfl (crossOf_p _ _ _ hm hw)) ?_
 refine rg_q (q_call en271 (.cons rfl .nil) rfl (xleast_p (wayI m a b).1 hx)) ?_
 refine rg_nil ?_
 refine aops_store sz56 rfl rfl (by exact .inr ⟨_, rfl⟩) rfl rfl (by decide) rfl ?_
 refine aops_nil ?_
 change Awp _ _ _ _ _
 refine awp_ret ?_
 refine ⟨_, (.cons (.cellA rfl rfl sz56 rfl) .nil), ?_⟩
 rw [hz]; rfl
set_option maxRecDepth 100000 in
theorem xrounded_p (m : Md) (a b : Int × Int) (hm : MdOk m) (hw : wayE m a b = 0) : PC Tryz.prog 244 [.agg (mdC m), .agg (shC a), .agg (shC b)] (.v (.int .i64 (rtI m a b))) := by
 obtain ⟨h1, h2, h3, h4⟩ := lt_in m a b
 refine pc_of_awpN Tryz.func244 rfl Tryz.ntmps244 (rs := [.tmp 6]) Tryz.results244 (by simp) fun w0 hmine hrnd hpn => ?_
 refine awp_seq ?_
 refine awp_region 4 mixed (by kernel_rfl) ?_
 refine rg_q (q_box rfl (by exact .inr ⟨_, rfl⟩)) ?_
 refine rg_q (q_box rfl (by exact .inr ⟨_, rfl⟩)) ?_
 refine rg_q (q_box rfl (by exact .inr ⟨_, rfl⟩)) ?_
 refine rg_q (q_a rfl) ?_
 refine rs (awp_region 4 mixed (by kernel_rfl) ?_)
 refine rg_q (q_loadA (ds := [_, _, _, _]) sz24 rfl rfl rfl) ?_
 refine rg_q (q_loadA (ds := [_, _]) sz33 rfl rfl rfl) ?_
 refine rg_q (q_loadA (ds := [_, _]) sz33 rfl rfl rfl) ?_
 refine rg_q (q_call en238 (.cons rfl (.cons rfl (.cons rfl .nil))) rfl (xleastTime_p _ _ _ hm hw)) ?_
 refine rg_nil ?_
 refine aops_alloc zr56 rfl rfl rfl ?_
 refine aops_store sz56 rfl rfl (by exact .inr ⟨_, rfl⟩) rfl rfl (by decide) rfl ?_
 refine aops_nil ?_
 change Awp _ _ _ _ _
 refine awp_seq ?_
 refine awp_region 7 mixed (by kernel_rfl) ?_
 refine rg_q (q_fieldAddr_ref fld56_0 rfl) (rg_q (q_load_ref sz3 rfl rfl rfl) (rg_q (q_fieldAddr_ref fld56_1 rfl) (rg_q (q_load_ref sz3 rfl rfl rfl) ?_)))
 refine rg_q (q_add rfl rfl (In64.mk (by omega) (by omega))) ?_
 refine rg_q (q_call en273 (.cons rfl (.cons rfl .nil)) rfl (Floor_p _ _ ⟨by omega, by omega⟩ (by omega))) ?_
 refine rg_q (q_a rfl) ?_
 refine rn ?_
 change Awp _ _ _ _ _
 refine awp_ret ?_
 refine ⟨_, (.cons (.tmp (by exact .d _)) .nil), ?_⟩
 rfl
end Go.Proofs.YtphlaicnmmglhaaGreat.Am.M
-- mini
namespace Go.Proofs.YtphlaicnmmglhaaGreat.Am.M
open Go
set_option maxRecDepth 100000 in
theorem rcheckSampling_p (s : Int × Int) : PC Tryz.prog 168 [.agg (shC s)] (.v (.int .i64 (sampE s))) := by
 refine pc_of_awp Tryz.func168 rfl Tryz.ntmps168 (rs := [.tmp 2]) Tryz.results168 (by simp) fun w0 => ?_
 refine awp_seq ?_
 refine awp_region 2 mixed (by kernel_rfl) ?_
 refine rg_q (q_box rfl (by exact .inr ⟨_, rfl⟩)) ?_
 refine rg_q (q_a rfl) ?_
 refine rn ?_
 change Awp _ _ _ _ _
 refine awp_seq ?_
 refine awp_seq ?_
 refine awp_region 10 mixed (by kernel_rfl) ?_
 refine rg_q (q_fieldAddr fld26_0 rfl) (rg_q (q_load sz3 rfl rfl) ?_)
 refine rg_q (q_call en31 (.cons rfl (.cons rfl (.cons rfl .nil))) rfl (within4_p _ _ _)) ?_
 refine rg_q (q_not rfl) (rg_q (q_m rfl) ?_)
 refine rg_g rfl rfl (fun hG => (q_fieldAddr fld26_1 rfl)) ?_
 refine rg_g rfl rfl (fun hG => (q_load sz3 rfl rfl)) ?_
 refine rg_g rfl rfl (fun hG => (q_call en31 (.cons rfl (.cons rfl (.cons rfl .nil))) rfl (within4_p _ _ _))) ?_
 refine rg_g rfl rfl (fun hG => (q_not rfl)) ?_
 refine rg_pick rfl rfl rfl rfl rfl rfl ?_
 refine rn ?_
 change Awp _ _ _ _ _
 refine awp_cond rfl (fun hc1 => ?_) (fun hc1 => ?_)
 ·
  (try simp only [nb, ne_eq] at hc1)
  have hz : sampE s = 2 := by unfold sampE; rw [if_neg (by intro h; simp_all)]
  refine awp_seq ?_
  refine awp_region 1 mixed (by kernel_rfl) ?_
  refine rg_q (q_a rfl) ?_
  refine rn ?_
  change Awp _ _ _ _ _
  refine awp_ret ?_
  refine ⟨_, (.cons (.tmp (by exact .d _)) .nil), ?_⟩
  rw [hz]; rfl
 ·
  (try simp only [nb, ne_eq] at hc1)
  have hz : sampE s = 0 := by unfold sampE; rw [if_pos (by simp_all)]
  refine awp_skip ?_
  change Awp _ _ _ _ _
  refine awp_seq ?_
  refine awp_region 1 mixed (by kernel_rfl) ?_
  refine rg_q (q_a rfl) ?_
  refine rn ?_
  change Awp _ _ _ _ _
  refine awp_ret ?_
  refine ⟨_, (.cons (.tmp (by exact .d _)) .nil), ?_⟩
  rw [hz]; rfl
theorem elE_is (p : Int × Int) : elE p = if (inR (-100000) p.1 100000 && inR (-100000) p.2 100000) = true then (if 0 ≤ p.2 then 15 else 0) else 2 := by
  unfold elE
  rw [spotE_is p]
  by_cases h : (inR (-100000) p.1 100000 && inR (-100000) p.2 100000) = true
  · rw [if_pos h, if_pos h]
    unfold firstE; rw [if_pos rfl]
    unfold firstE whenI
    by_cases h2 : 0 ≤ p.2
    · simp [firstE, h2]
    · simp [firstE, h2]
  · rw [if_neg h, if_neg h]; rfl
theorem first4 (a b c d : Int) : firstE [a, b, c, d] = if a ≠ 0 then a else if b ≠ 0 then b else if c ≠ 0 then c else d := by
  unfold firstE
  by_cases h1 : a = 0
  · rw [if_pos h1, if_neg (fun q => q h1)]
    unfold firstE
    by_cases h2 : b = 0
    · rw [if_pos h2, if_neg (fun q => q h2)]
      unfold firstE
      by_cases h3 : c = 0
      · rw [if_pos h3, if_neg (fun q => q h3)]
        unfold firstE
        by_cases h4 : d = 0
        · rw [if_pos h4, h4]; rfl
        · rw [if_neg h4]
      · rw [if_neg h3, if_pos h3]
    · rw [if_neg h2, if_pos h2]
  · rw [if_neg h1, if_pos h1]
set_option maxRecDepth 100000 in
theorem rcheckArr_p (a : Arr) : PC Tryz.prog 92 [.agg (arrC a)] (.tup [.v (.int .i64 ((ckArr a).1)), .v (.int .i64 ((ckArr a).2))]) := by
 have hu : ckArr a = if a.el.length = 0 then (0, 10) else if 16 < a.el.length then (0, 8) else if (ckEls 0 a.el).2 ≠ 0 then ckEls 0 a.el else (0, arrE0 a) := rfl
 have h4 : arrE0 a = if modeE a.ou ≠ 0 then modeE a.ou else if modeE a.ba ≠ 0 then modeE a.ba else if whenI (decide (a.ou.t ≠ a.ba.t)) 23 ≠ 0 then whenI (decide (a.ou.t ≠ a.ba.t)) 23 else sampE a.ts := first4 _ _ _ _
 refine pc_of_awp Tryz.func92 rfl Tryz.ntmps92 (rs := [.tmp 2, .tmp 3]) Tryz.results92 (by simp) fun w0 => ?_
 refine awp_seq ?_
 refine awp_region 3 mixed (by kernel_rfl) ?_
 refine rg_q (q_box rfl (by exact .inr ⟨_, rfl⟩)) ?_
 refine rg_q (q_a rfl) (rg_q (q_a rfl) ?_)
 refine rn ?_
 change Awp _ _ _ _ _
 refine awp_seq ?_
 refine awp_seq ?_
 refine awp_region 4 mixed (by kernel_rfl) ?_
 refine rg_q (q_fieldAddr fld28_0 rfl) (rg_q (q_load sz22 rfl rfl) ?_)
 refine rg_q (q_len isl22 rfl (by exact len_map _ _)) ?_
 refine rg_q (q_eql rfl rfl) ?_
 refine rn ?_
 change Awp _ _ _ _ _
 refine awp_len (t := 8) rfl (fun hl8 => ?_)
 (try simp only [List.length_map] at hl8)
 refine awp_cond rfl (fun hc1 => ?_) (fun hc1 => ?_)
 ·
  (try simp only [nb, ne_eq] at hc1)
  rw [if_pos (by omega)] at hu
  refine awp_seq ?_
  refine awp_region 2 mixed (by kernel_rfl) ?_
  refine rg_q (q_a rfl) (rg_q (q_a rfl) ?_)
  refine rn ?_
  change Awp _ _ _ _ _
  refine awp_ret ?_
  refine ⟨_, (.cons (.tmp (by exact .d _)) (.cons (.tmp (by exact .d _)) .nil)), ?_⟩
  rw [hu]; rfl
 ·
  (try simp only [nb, ne_eq] at hc1)
  rw [if_neg (by omega)] at hu
  refine awp_skip ?_
  change Awp _ _ _ _ _
  refine awp_seq ?_
  refine awp_seq ?_
  refine awp_region 4 mixed (by kernel_rfl) ?_
  refine rg_q (q_fieldAddr fld28_0 rfl) (rg_q (q_load sz22 rfl rfl) ?_)
  refine rg_q (q_len isl22 rfl (by exact len_map _ _)) ?_
  refine rg_q (q_gtr rfl rfl) ?_
  refine rn ?_
  change Awp _ _ _ _ _
  refine awp_len (t := 12) rfl (fun hl12 => ?_)
  (try simp only [List.length_map] at hl12)
  refine awp_cond rfl (fun hc3 => ?_) (fun hc3 => ?_)
  ·
   (try simp only [nb, ne_eq] at hc3)
   rw [if_pos (by omega)] at hu
   refine awp_seq ?_
   refine awp_region 2 mixed (by kernel_rfl) ?_
   refine rg_q (q_a rfl) (rg_q (q_a rfl) ?_)
   refine rn ?_
   change Awp _ _ _ _ _
   refine awp_ret ?_
   refine ⟨_, (.cons (.tmp (by exact .d _)) (.cons (.tmp (by exact .d _)) .nil)), ?_⟩
   rw [hu]; rfl
  ·
   (try simp only [nb, ne_eq] at hc3)
   rw [if_neg (by omega)] at hu
   refine awp_skip ?_
   change Awp _ _ _ _ _
   refine awp_seq ?_
   refine awp_seq ?_
   refine awp_region 1 mixed (by kernel_rfl) ?_
   refine rg_q (q_a rfl) ?_
   refine rn ?_
   change Awp _ _ _ _ _
   refine awp_block ?_
   refine awp_loopH [2, 3, 4, 15, 16, 17, 18, 19, 20, 21, 22, 23, 24, 25, 26, 27, 28, 29, 30, 31, 32, 33, 34, 35, 36, 37] [] (α := Nat) (fun k => [(4, T.i (k : Int))]) (fun k => []) (fun k => k ≤ a.el.length ∧ ckEls 0 a.el = ckEls k (a.el.drop k)) (fun k => a.el.length - k) 0 ⟨Nat.zero_le _, rfl⟩ ?_ ?_
   · exact le_head (ms := []) (by repeat (exact Out.refl _)) ⟨(by rfl), trivial⟩ trivial rfl rfl rfl rfl
   ·
    intro k ⟨hk, hf⟩
    refine awp_seq ?_
    refine awp_seq ?_
    refine awp_region 5 mixed (by kernel_rfl) ?_
    refine rg_q (q_m rfl) (rg_q (q_fieldAddr fld28_0 rfl) (rg_q (q_load sz22 rfl rfl) ?_))
    refine rg_q (q_len isl22 rfl (by exact len_map _ _)) ?_
    refine rg_q (q_lss rfl rfl) ?_
    refine rn ?_
    change Awp _ _ _ _ _
    refine awp_len (t := 17) rfl (fun hl17 => ?_)
    (try simp only [List.length_map] at hl17)
    refine awp_cond rfl (fun hc6 => ?_) (fun hc6 => ?_)
    ·
     (try simp only [nb, ne_eq] at hc6)
     have hlt : k < a.el.length := by omega
     obtain ⟨x, hx⟩ : ∃ x, a.el[k]? = some x := ⟨_, List.getElem?_eq_getElem hlt⟩
     have hd := ckEls_at hx
     have he := elE_is x
     refine awp_skip ?_
     change Awp _ _ _ _ _
     refine awp_seq ?_
     refine awp_block ?_
     refine awp_seq ?_
     refine awp_seq ?_
     refine awp_region 7 mixed (by kernel_rfl) ?_
     refine rg_q (q_fieldAddr fld28_0 rfl) (rg_q (q_load sz22 rfl rfl) (rg_q (q_m rfl) ?_))
     refine rg_q (q_indexAddr sl22 rfl rfl (by omega) (map_at (by omega) hx)) ?_
     refine rg_q (q_loadA (ds := [_, _]) sz33 rfl rfl rfl) ?_
     refine rg_q (q_call en167 (.cons rfl .nil) rfl (risSpot_p _)) ?_
     refine rg_q (q_not rfl) ?_
     refine rn ?_
     change Awp _ _ _ _ _
     refine awp_cond rfl (fun hc8 => ?_) (fun hc8 => ?_)
     ·
      (try simp only [nb, ne_eq] at hc8)
      rw [if_neg (by rcases hc8 with q | q <;> simp [q])] at he
      have hz : ckEls 0 a.el = ((k : Int), 2) := by rw [hf, hd, he]; rfl
      rw [hz] at hu
      refine awp_seq ?_
      refine awp_region 3 mixed (by kernel_rfl) ?_
      refine rg_q (q_m rfl) (rg_q (q_a rfl) (rg_q (q_a rfl) ?_))
      refine rn ?_
      change Awp _ _ _ _ _
      refine awp_ret ?_
      refine ⟨_, (.cons (.tmp (by exact .d _)) (.cons (.tmp (by exact .d _)) .nil)), ?_⟩
      rw [hu]; rfl
     ·
      (try simp only [nb, ne_eq] at hc8)
      rw [if_pos (by simp [hc8.1, hc8.2])] at he
      refine awp_skip ?_
      change Awp _ _ _ _ _
      refine awp_seq ?_
      refine awp_region 7 mixed (by kernel_rfl) ?_
      refine rg_q (q_fieldAddr fld28_0 rfl) (rg_q (q_load sz22 rfl rfl) (rg_q (q_m rfl) ?_))
      refine rg_q (q_indexAddr sl22 rfl rfl (by omega) (map_at (by omega) hx)) ?_
      refine rg_q (q_fieldAddr fld33_1 rfl) (rg_q (q_load sz3 rfl rfl) (rg_q (q_geq rfl rfl) ?_))
      refine rn ?_
      change Awp _ _ _ _ _
      refine awp_cond rfl (fun hc10 => ?_) (fun hc10 => ?_)
      ·
       (try simp only [nb, ne_eq] at hc10)
       rw [if_pos hc10] at he
       have hz : ckEls 0 a.el = ((k : Int), 15) := by rw [hf, hd, he]; rfl
       rw [hz] at hu
       refine awp_seq ?_
       refine awp_region 3 mixed (by kernel_rfl) ?_
       refine rg_q (q_m rfl) (rg_q (q_a rfl) (rg_q (q_a rfl) ?_))
       refine rn ?_
       change Awp _ _ _ _ _
       refine awp_ret ?_
       refine ⟨_, (.cons (.tmp (by exact .d _)) (.cons (.tmp (by exact .d _)) .nil)), ?_⟩
       rw [hu]; rfl
      ·
       (try simp only [nb, ne_eq] at hc10)
       rw [if_neg (by omega)] at he
       refine awp_skip ?_
       change Awp _ _ _ _ _
       refine awp_region 3 mixed (by kernel_rfl) ?_
       refine rg_q (q_m rfl) ?_
       refine rg_q (q_add rfl rfl (In64.mk (by omega) (by omega))) ?_
       refine rg_q (q_a rfl) ?_
       refine rn ?_
       refine ⟨k + 1, ⟨by omega, by rw [hf, hd, if_neg (by rw [he]; simp)]⟩, by omega, ?_⟩
       exact le_head (ms := []) (by repeat (first | exact Out.head rfl rfl | (refine Out.put ?_ rfl))) ⟨(by rfl), trivial⟩ trivial rfl rfl rfl rfl
    ·
     (try simp only [nb, ne_eq] at hc6)
     have hk0 : ckEls 0 a.el = (0, 0) := by rw [hf, List.drop_of_length_le (by omega)]; rfl
     rw [hk0, if_neg (by decide)] at hu
     refine awp_exit ?_
     change Awp _ _ _ _ _
     refine awp_seq ?_
     refine awp_seq ?_
     refine awp_region 4 mixed (by kernel_rfl) ?_
     refine rg_q (q_fieldAddr fld28_1 rfl) ?_
     refine rg_q (q_loadA (ds := [_, _, _, _]) sz24 rfl rfl rfl) ?_
     refine rg_q (q_call en124 (.cons rfl .nil) rfl (xcheckMode_p a.ou)) ?_
     refine rg_q (q_a rfl) ?_
     refine rs (awp_region 2 mixed (by kernel_rfl) ?_)
     refine rg_q (q_m rfl) (rg_q (q_neq rfl rfl) ?_)
     refine rn ?_
     change Awp _ _ _ _ _
     refine awp_cond rfl (fun hc13 => ?_) (fun hc13 => ?_)
     ·
      (try simp only [nb, ne_eq] at hc13)
      rw [if_pos hc13] at h4
      refine awp_seq ?_
      refine awp_region 3 mixed (by kernel_rfl) ?_
      refine rg_q (q_m rfl) (rg_q (q_a rfl) (rg_q (q_a rfl) ?_))
      refine rn ?_
      change Awp _ _ _ _ _
      refine awp_ret ?_
      refine ⟨_, (.cons (.tmp (by exact .d _)) (.cons (.tmp (by exact .d _)) .nil)), ?_⟩
      rw [hu, h4]; rfl
     ·
      (try simp only [nb, ne_eq] at hc13)
      rw [if_neg (fun q => q hc13)] at h4
      refine awp_skip ?_
      change Awp _ _ _ _ _
      refine awp_seq ?_
      refine awp_seq ?_
      refine awp_region 4 mixed (by kernel_rfl) ?_
      refine rg_q (q_fieldAddr fld28_2 rfl) ?_
      refine rg_q (q_loadA (ds := [_, _, _, _]) sz24 rfl rfl rfl) ?_
      refine rg_q (q_call en124 (.cons rfl .nil) rfl (xcheckMode_p a.ba)) ?_
      refine rg_q (q_a rfl) ?_
      refine rs (awp_region 2 mixed (by kernel_rfl) ?_)
      refine rg_q (q_m rfl) (rg_q (q_neq rfl rfl) ?_)
      refine rn ?_
      change Awp _ _ _ _ _
      refine awp_cond rfl (fun hc16 => ?_) (fun hc16 => ?_)
      ·
       (try simp only [nb, ne_eq] at hc16)
       rw [if_pos hc16] at h4
       refine awp_seq ?_
       refine awp_region 3 mixed (by kernel_rfl) ?_
       refine rg_q (q_m rfl) (rg_q (q_a rfl) (rg_q (q_a rfl) ?_))
       refine rn ?_
       change Awp _ _ _ _ _
       refine awp_ret ?_
       refine ⟨_, (.cons (.tmp (by exact .d _)) (.cons (.tmp (by exact .d _)) .nil)), ?_⟩
       rw [hu, h4]; rfl
      ·
       (try simp only [nb, ne_eq] at hc16)
       rw [if_neg (fun q => q hc16)] at h4
       refine awp_skip ?_
       change Awp _ _ _ _ _
       refine awp_seq ?_
       refine awp_seq ?_
       refine awp_region 7 mixed (by kernel_rfl) ?_
       refine rg_q (q_fieldAddr fld28_1 rfl) (rg_q (q_fieldAddr fld24_3 rfl) (rg_q (q_load sz3 rfl rfl) (rg_q (q_fieldAddr fld28_2 rfl) (rg_q (q_fieldAddr fld24_3 rfl) (rg_q (q_load sz3 rfl rfl) ?_)))))
       refine rg_q (q_neq rfl rfl) ?_
       refine rn ?_
       change Awp _ _ _ _ _
       refine awp_cond rfl (fun hc18 => ?_) (fun hc18 => ?_)
       ·
        (try simp only [nb, ne_eq] at hc18)
        have hw : whenI (decide (a.ou.t ≠ a.ba.t)) 23 = 23 := by unfold whenI; rw [if_pos (decide_eq_true hc18)]
        rw [hw, if_pos (by decide)] at h4
        refine awp_seq ?_
        refine awp_region 2 mixed (by kernel_rfl) ?_
        refine rg_q (q_a rfl) (rg_q (q_a rfl) ?_)
        refine rn ?_
        change Awp _ _ _ _ _
        refine awp_ret ?_
        refine ⟨_, (.cons (.tmp (by exact .d _)) (.cons (.tmp (by exact .d _)) .nil)), ?_⟩
        rw [hu, h4]; rfl
       ·
        (try simp only [nb, ne_eq] at hc18)
        have hw : whenI (decide (a.ou.t ≠ a.ba.t)) 23 = 0 := by unfold whenI; rw [if_neg (by simpa using hc18)]
        rw [hw, if_neg (by decide)] at h4
        refine awp_skip ?_
        change Awp _ _ _ _ _
        refine awp_seq ?_
        refine awp_region 5 mixed (by kernel_rfl) ?_
        refine rg_q (q_fieldAddr fld28_3 rfl) ?_
        refine rg_q (q_loadA (ds := [_, _]) sz26 rfl rfl rfl) ?_
        refine rg_q (q_call en168 (.cons rfl .nil) rfl (rcheckSampling_p _)) ?_
        refine rg_q (q_a rfl) (rg_q (q_a rfl) ?_)
        refine rn ?_
        change Awp _ _ _ _ _
        refine awp_ret ?_
        refine ⟨_, (.cons (.tmp (by exact .d _)) (.cons (.tmp (by exact .d _)) .nil)), ?_⟩
        rw [hu, h4]; rfl
set_option maxRecDepth 100000 in
theorem copySpots_p (l : List (Int × Int)) (hl : l.length ≤ 1000) : PC Tryz.prog 149 [.sl 2 (l.map shC)] (.sl 2 (l.map shC)) := by
 refine pc_of_awp Tryz.func149 rfl Tryz.ntmps149 (rs := [.tmp 2]) Tryz.results149 (by simp) fun w0 => ?_
 refine awp_seq ?_
 refine awp_region 1 mixed (by kernel_rfl) ?_
 refine rg_q (q_assign (x := .d (.sl _ _)) rfl) ?_
 refine rs (awp_region 4 mixed (by kernel_rfl) ?_)
 refine rg_q (q_empty0 sl22 zr33) ?_
 refine rg_q (q_move (x := .d (.sl _ _)) rfl) ?_
 refine rg_q (q_append0 sl22 zr33 by33 rfl (by decide) rfl rfl rfl (by (try simp only [List.length_map]); omega) (by (try simp only [List.length_map]); omega)) ?_
 refine rg_q (q_assign (x := .d (.sl _ _)) rfl) ?_
 refine rn ?_
 change Awp _ _ _ _ _
 refine awp_ret ?_
 refine ⟨_, (.cons (.tmp (by exact .d _)) .nil), ?_⟩
 rfl
set_option maxRecDepth 100000 in
theorem copyArr_p (a : Arr) (hl : a.el.length ≤ 1000) : PC Tryz.prog 79 [.agg (arrC a)] (.agg (arrC a)) := by
 refine pc_of_awp Tryz.func79 rfl Tryz.ntmps79 (rs := [.cell 2 28]) Tryz.results79 (by simp) fun w0 => ?_
 refine awp_seq ?_
 refine awp_region 0 mixed (by kernel_rfl) ?_
 refine rg_nil ?_
 refine aops_box (X := .agg (arrC a)) rfl (by exact .inr ⟨_, rfl⟩) rfl rfl rfl ?_
 refine aops_alloc zr28 rfl rfl rfl ?_
 refine aops_nil ?_
 change Awp _ _ _ _ _
 refine awp_seq ?_
 refine awp_region 4 mixed (by kernel_rfl) ?_
 refine rg_q (q_fieldAddr_ref fld28_0 rfl) (rg_q (q_load_ref sz22 rfl rfl rfl) ?_)
 refine rg_q (q_call en149 (.cons rfl .nil) rfl (copySpots_p _ (by omega))) ?_
 refine rg_q (q_fieldAddr_ref fld28_0 rfl) ?_
 refine rg_nil ?_
 refine aops_store sz22 rfl rfl (by exact .inl rfl) rfl rfl (by exact Nat.le_of_ble_eq_true rfl) rfl ?_
 refine aops_nil ?_
 change Awp _ _ _ _ _
 refine awp_seq ?_
 refine awp_region 1 mixed (by kernel_rfl) ?_
 refine rg_q (q_load_refA (ds := [_, _, _, _, _, _, _, _, _, _, _]) sz28 rfl rfl rfl rfl) ?_
 refine rg_nil ?_
 refine aops_store sz28 rfl rfl (by exact .inr ⟨_, rfl⟩) rfl rfl (by decide) rfl ?_
 refine aops_nil ?_
 change Awp _ _ _ _ _
 refine awp_ret ?_
 refine ⟨_, (.cons (.cellA rfl rfl sz28 rfl) .nil), ?_⟩
 rfl
end Go.Proofs.YtphlaicnmmglhaaGreat.Am.M
-- mini
namespace Go.Proofs.YtphlaicnmmglhaaGreat.Am.M
open Go
set_option maxRecDepth 100000 in
theorem rnumber_p (s : Int × Int) (t : Int) (h1 : 0 ≤ s.1) (h2 : s.1 ≤ 1000000000000) (h3 : 1 ≤ s.2) (h4 : s.2 ≤ 100000000) (h5 : 0 ≤ t) (h6 : t ≤ 1000000000000) : PC Tryz.prog 175 [.agg (shC s), .v (.int .i64 (t))] (.v (.int .i64 (rndI (t - s.1) s.2))) := by
 refine pc_of_awp Tryz.func175 rfl Tryz.ntmps175 (rs := [.tmp 4]) Tryz.results175 (by simp) fun w0 => ?_
 refine awp_seq ?_
 refine awp_region 2 mixed (by kernel_rfl) ?_
 refine rg_q (q_box rfl (by exact .inr ⟨_, rfl⟩)) ?_
 refine rg_q (q_a rfl) ?_
 refine rs (awp_region 8 mixed (by kernel_rfl) ?_)
 refine rg_q (q_m rfl) (rg_q (q_fieldAddr fld26_0 rfl) (rg_q (q_load sz3 rfl rfl) ?_))
 refine rg_q (q_sub rfl rfl (In64.mk (by omega) (by omega))) ?_
 refine rg_q (q_fieldAddr fld26_1 rfl) (rg_q (q_load sz3 rfl rfl) ?_)
 refine rg_q (q_call en239 (.cons rfl (.cons rfl .nil)) rfl (rrounded4_p _ _ (by omega) (by omega) (by omega) (by omega))) ?_
 refine rg_q (q_a rfl) ?_
 refine rn ?_
 change Awp _ _ _ _ _
 refine awp_ret ?_
 refine ⟨_, (.cons (.tmp (by exact .d _)) .nil), ?_⟩
 rfl

theorem el_in {a : Arr} (hok : ArrOk a) {i : Int} (h1 : 0 ≤ i) (h2 : i < a.el.length) : (-100000 ≤ (elAt a i).1 ∧ (elAt a i).1 ≤ 100000) ∧ -100000 ≤ (elAt a i).2 ∧ (elAt a i).2 < 0 :=
  hok.el _ (List.mem_of_getElem? (el_at h1 h2))
theorem plate_ok {z t : Int} : plateE z t = 0 ↔ 1 ≤ z ∧ z ≤ t - 1 := by
  unfold plateE; rw [must_zero (by decide)]; simp [inR]
theorem way_of {a : Arr} (hok : ArrOk a) {i : Int} (h1 : 0 ≤ i) (h2 : i < a.el.length) {t : Int × Int} (hs : spotE t = 0) (hp : plateE t.2 a.ou.t = 0) {m : Md} (hm : m.t = a.ou.t) : wayE m (elAt a i) t = 0 := by
  obtain ⟨⟨e1, e2⟩, e3, e4⟩ := el_in hok h1 h2
  have hp2 := plate_ok.1 hp
  unfold wayE
  rw [first_zero]
  intro x hx
  simp only [List.mem_cons, List.not_mem_nil, or_false] at hx
  rcases hx with rfl | rfl | rfl | rfl
  · exact spot_ok.2 (by omega)
  · exact hs
  · rw [must_zero (by decide)]; simpa using e4
  · rw [must_zero (by decide), hm]; simp [inR]; omega
set_option maxRecDepth 100000 in
theorem rechoAt_p (a : Arr) (t p : Int × Int) (hok : ArrOk a) (hpk : (0 ≤ p.1 ∧ p.1 < a.el.length) ∧ 0 ≤ p.2 ∧ p.2 < a.el.length) (hs : spotE t = 0) (hp : plateE t.2 a.ou.t = 0) : PC Tryz.prog 179 [.agg (arrC a), .agg (shC t), .agg (shC p)] (.v (.int .i64 (echI a t p))) := by
 obtain ⟨⟨p1, p2⟩, p3, p4⟩ := hpk
 have hx := el_at p1 p2
 have hy := el_at p3 p4
 have hw1 := way_of hok p1 p2 hs hp (m := a.ou) rfl
 have hw2 := way_of hok p3 p4 hs hp (m := a.ba) hok.th.symm
 have e1 : ((p.1.toNat : Nat) : Int) = p.1 := by omega
 have e2 : ((p.2.toNat : Nat) : Int) = p.2 := by omega
 have r1 := rt_in a.ou (elAt a p.1) t
 have r2 := rt_in a.ba (elAt a p.2) t
 refine pc_of_awpN Tryz.func179 rfl Tryz.ntmps179 (rs := [.tmp 6]) Tryz.results179 (by simp) fun w0 hmine hrnd hpn => ?_
 refine awp_seq ?_
 refine awp_region 4 mixed (by kernel_rfl) ?_
 refine rg_q (q_box rfl (by exact .inr ⟨_, rfl⟩)) ?_
 refine rg_q (q_box rfl (by exact .inr ⟨_, rfl⟩)) ?_
 refine rg_q (q_box rfl (by exact .inr ⟨_, rfl⟩)) ?_
 refine rg_q (q_a rfl) ?_
 refine rs (awp_region 22 mixed (by kernel_rfl) ?_)
 refine rg_q (q_fieldAddr fld28_1 rfl) ?_
 refine rg_q (q_loadA (ds := [_, _, _, _]) sz24 rfl rfl rfl) ?_
 refine rg_q (q_fieldAddr fld28_0 rfl) (rg_q (q_load sz22 rfl rfl) ?_)
 refine rg_q (q_indexAddr_ar ar63 rfl rfl (by omega) (by omega)) ?_
 refine rg_q (q_load sz3 rfl rfl) ?_
 refine rg_q (q_indexAddr sl22 rfl rfl (by omega) (map_at (k := p.1.toNat) (by omega) hx)) ?_
 refine rg_q (q_loadA (ds := [_, _]) sz33 rfl rfl rfl) ?_
 refine rg_q (q_loadA (ds := [_, _]) sz33 rfl rfl rfl) ?_
 refine rg_q (q_call en244 (.cons rfl (.cons rfl (.cons rfl .nil))) rfl (xrounded_p a.ou (elAt a p.1) t hok.ou hw1)) ?_
 refine rg_q (q_fieldAddr fld28_2 rfl) ?_
 refine rg_q (q_loadA (ds := [_, _, _, _]) sz24 rfl rfl rfl) ?_
 refine rg_q (q_fieldAddr fld28_0 rfl) (rg_q (q_load sz22 rfl rfl) ?_)
 refine rg_q (q_indexAddr_ar ar63 rfl rfl (by omega) (by omega)) ?_
 refine rg_q (q_load sz3 rfl rfl) ?_
 refine rg_q (q_indexAddr sl22 rfl rfl (by omega) (map_at (k := p.2.toNat) (by omega) hy)) ?_
 refine rg_q (q_loadA (ds := [_, _]) sz33 rfl rfl rfl) ?_
 refine rg_q (q_loadA (ds := [_, _]) sz33 rfl rfl rfl) ?_
 refine rg_q (q_call en244 (.cons rfl (.cons rfl (.cons rfl .nil))) rfl (xrounded_p a.ba (elAt a p.2) t hok.ba hw2)) ?_
 refine rg_q (q_add rfl rfl (In64.mk (by omega) (by omega))) ?_
 refine rg_q (q_a rfl) ?_
 refine rn ?_
 change Awp _ _ _ _ _
 refine awp_ret ?_
 refine ⟨_, (.cons (.tmp (by exact .d _)) .nil), ?_⟩
 rfl
set_option maxRecDepth 100000 in
theorem rsampleOf_p (a : Arr) (t p : Int × Int) (hok : ArrOk a) (hpk : (0 ≤ p.1 ∧ p.1 < a.el.length) ∧ 0 ≤ p.2 ∧ p.2 < a.el.length) (hs : spotE t = 0) (hp : plateE t.2 a.ou.t = 0) : PC Tryz.prog 111 [.agg (arrC a), .agg (shC t), .agg (shC p)] (.v (.int .i64 (smpI a t p))) := by
 have he := ech_in a t p
 refine pc_of_awpN Tryz.func111 rfl Tryz.ntmps111 (rs := [.tmp 6]) Tryz.results111 (by simp) fun w0 hmine hrnd hpn => ?_
 refine awp_seq ?_
 refine awp_region 4 mixed (by kernel_rfl) ?_
 refine rg_q (q_box rfl (by exact .inr ⟨_, rfl⟩)) ?_
 refine rg_q (q_box rfl (by exact .inr ⟨_, rfl⟩)) ?_
 refine rg_q (q_box rfl (by exact .inr ⟨_, rfl⟩)) ?_
 refine rg_q (q_a rfl) ?_
 refine rs (awp_region 8 mixed (by kernel_rfl) ?_)
 refine rg_q (q_fieldAddr fld28_3 rfl) ?_
 refine rg_q (q_loadA (ds := [_, _]) sz26 rfl rfl rfl) ?_
 refine rg_q (q_loadA (ds := [_, _, _, _, _, _, _, _, _, _, _]) sz28 rfl rfl rfl) ?_
 refine rg_q (q_loadA (ds := [_, _]) sz33 rfl rfl rfl) ?_
 refine rg_q (q_loadA (ds := [_, _]) sz63 rfl rfl rfl) ?_
 refine rg_q (q_call en179 (.cons rfl (.cons rfl (.cons rfl .nil))) rfl (rechoAt_p a t p hok hpk hs hp)) ?_
 refine rg_q (q_call en175 (.cons rfl (.cons rfl .nil)) rfl (rnumber_p a.ts (echI a t p) hok.t1 hok.t2 hok.t3 hok.t4 (by omega) (by omega))) ?_
 refine rg_q (q_a rfl) ?_
 refine rn ?_
 change Awp _ _ _ _ _
 refine awp_ret ?_
 refine ⟨_, (.cons (.tmp (by exact .d _)) .nil), ?_⟩
 rfl

def erI (a : Arr) (t p : Int × Int) : Rg := ((ltI a.ou (elAt a p.1) t).1.1 + (ltI a.ba (elAt a p.2) t).1.1, (ltI a.ou (elAt a p.1) t).1.2 + (ltI a.ba (elAt a p.2) t).1.2)
end Go.Proofs.YtphlaicnmmglhaaGreat.Am.M
-- mini
namespace Go.Proofs.YtphlaicnmmglhaaGreat.Am.M
open Go

def echC (m n : Md) (a t b : Int × Int) : List D := mdC m ++ mdC n ++ shC a ++ shC t ++ shC b
set_option maxRecDepth 100000 in
theorem echoTime_p (m n : Md) (a t b : Int × Int) (hm : MdOk m) (hn : MdOk n) (hw1 : wayE m a t = 0) (hw2 : wayE n b t = 0) : PC Tryz.prog 237 [.agg (echC m n a t b)] (.tup [.agg [.v (.int .i64 ((ltI m a t).1.1 + (ltI n b t).1.1)), .v (.int .i64 ((ltI m a t).1.2 + (ltI n b t).1.2))], .v (.int .i64 (0))]) := by
 have hfe : firstE [modeE m, modeE n] = 0 := first_zero.2 (by intro x hx; simp only [List.mem_cons, List.not_mem_nil, or_false] at hx; rcases hx with q | q; (rw [q]; exact mode_ok.2 hm); (rw [q]; exact mode_ok.2 hn))
 have hz1 := (way_law hm hw1).1
 have hz2 := (way_law hn hw2).1
 have hcx1 := (way_law hm hw1).2
 have hcx2 := (way_law hn hw2).2
 have hl1 := lt_is hm hw1
 have hl2 := lt_is hn hw2
 have li1 := least_in hcx1
 have li2 := least_in hcx2
 obtain ⟨a1, a2, a3, a4⟩ := li1
 obtain ⟨b1, b2, b3, b4⟩ := li2
 have f1 : (wayI m a t).2 = 0 := by rw [hz1]
 have f2 : (wayI n b t).2 = 0 := by rw [hz2]
 refine pc_of_awpN Tryz.func237 rfl Tryz.ntmps237 (rs := [.cell 2 56, .tmp 3]) Tryz.results237 (by simp) fun w0 hmine hrnd hpn => ?_
 refine awp_seq ?_
 refine awp_region 1 mixed (by kernel_rfl) ?_
 refine rg_q (q_box rfl (by exact .inr ⟨_, rfl⟩)) ?_
 refine rg_nil ?_
 refine aops_alloc zr56 rfl rfl rfl ?_
 refine aops_q rfl (q_a rfl) ?_
 refine aops_nil ?_
 change Awp _ _ _ _ _
 refine awp_seq ?_
 refine awp_seq ?_
 refine awp_region 9 mixed (by kernel_rfl) ?_
 refine rg_q (q_fieldAddr fld339_0 rfl) ?_
 refine rg_q (q_loadA (ds := [_, _, _, _]) sz24 rfl rfl rfl) ?_
 refine rg_q (q_call en122 (.cons rfl .nil) rfl (checkMode_p m)) ?_
 refine rg_q (q_fieldAddr fld339_1 rfl) ?_
 refine rg_q (q_loadA (ds := [_, _, _, _]) sz24 rfl rfl rfl) ?_
 refine rg_q (q_call en122 (.cons rfl .nil) rfl (checkMode_p n)) ?_
 refine rg_q (q_buildSlice sl282 zr40 rfl rfl (by decide) (.cons rfl (by exact .inl rfl) (.cons rfl (by exact .inl rfl) .nil)) ⟨rfl, rfl, rfl, rfl, trivial⟩ rfl (by decide) rfl) ?_
 refine rg_q (q_call en183 (.cons rfl .nil) rfl (rfirst_p [_, _])) ?_
 refine rg_q (q_a rfl) ?_
 refine rs (awp_region 2 mixed (by kernel_rfl) ?_)
 refine rg_q (q_m rfl) (rg_q (q_neq rfl rfl) ?_)
 refine rn ?_
 change Awp _ _ _ _ _
 refine awp_cond rfl (fun hc2 => ?_) (fun hc2 => ?_)
 ·
  exact absurd hfe (of_decide_eq_true hc2)
 ·
  (try simp only [nb, ne_eq] at hc2)
  refine awp_skip ?_
  change Awp _ _ _ _ _
  refine awp_seq ?_
  refine awp_region 10 mixed (by kernel_rfl) ?_
  refine rg_q (q_fieldAddr fld339_0 rfl) ?_
  refine rg_q (q_loadA (ds := [_, _, _, _]) sz24 rfl rfl rfl) ?_
  refine rg_q (q_fieldAddr fld339_2 rfl) ?_
  refine rg_q (q_loadA (ds := [_, _]) sz33 rfl rfl rfl) ?_
  refine rg_q (q_fieldAddr fld339_3 rfl) ?_
  refine rg_q (q_loadA (ds := [_, _]) sz33 rfl rfl rfl) ?_
  refine rg_q (q_call en268 (.cons rfl (.cons rfl (.cons rfl .nil))) rfl (way_p m a t hm)) ?_
  refine rg_q (q_move (x := .d (.tup _)) rfl) (rg_q (q_extract rfl rfl) (rg_q (q_extract rfl rfl) ?_))
  refine rg_nil ?_
  refine aops_alloc zr366 rfl rfl rfl ?_
  refine aops_store sz366 rfl rfl (by exact .inr ⟨_, rfl⟩) rfl rfl (by decide) rfl ?_
  refine aops_q rfl (q_a rfl) ?_
  refine aops_nil ?_
  change Awp _ _ _ _ _
  refine awp_seq ?_
  refine awp_seq ?_
  refine awp_region 2 mixed (by kernel_rfl) ?_
  refine rg_q (q_m rfl) (rg_q (q_neq rfl rfl) ?_)
  refine rn ?_
  change Awp _ _ _ _ _
  refine awp_cond rfl (fun hc5 => ?_) (fun hc5 => ?_)
  ·
   exact absurd f1 (of_decide_eq_true hc5)
  ·
   (try simp only [nb, ne_eq] at hc5)
   refine awp_skip ?_
   change Awp _ _ _ _ _
   refine awp_seq ?_
   refine awp_region 10 mixed (by kernel_rfl) ?_
   refine rg_q (q_fieldAddr fld339_1 rfl) ?_
   refine rg_q (q_loadA (ds := [_, _, _, _]) sz24 rfl rfl rfl) ?_
   refine rg_q (q_fieldAddr fld339_4 rfl) ?_
   refine rg_q (q_loadA (ds := [_, _]) sz33 rfl rfl rfl) ?_
   refine rg_q (q_fieldAddr fld339_3 rfl) ?_
   refine rg_q (q_loadA (ds := [_, _]) sz33 rfl rfl rfl) ?_
   refine rg_q (q_call en268 (.cons rfl (.cons rfl (.cons rfl .nil))) rfl (way_p n b t hn)) ?_
   refine rg_q (q_move (x := .d (.tup _)) rfl) (rg_q (q_extract rfl rfl) (rg_q (q_extract rfl rfl) ?_))
   refine rg_nil ?_
   refine aops_alloc zr366 rfl rfl rfl ?_
   refine aops_store sz366 rfl rfl (by exact .inr ⟨_, rfl⟩) rfl rfl (by decide) rfl ?_
   refine aops_q rfl (q_a rfl) ?_
   refine aops_nil ?_
   change Awp _ _ _ _ _
   refine awp_seq ?_
   refine awp_seq ?_
   refine awp_region 2 mixed (by kernel_rfl) ?_
   refine rg_q (q_m rfl) (rg_q (q_neq rfl rfl) ?_)
   refine rn ?_
   change Awp _ _ _ _ _
   refine awp_cond rfl (fun hc8 => ?_) (fun hc8 => ?_)
   ·
    exact absurd f2 (of_decide_eq_true hc8)
   ·
    (try simp only [nb, ne_eq] at hc8)
    refine awp_skip ?_
    change Awp _ _ _ _ _
    refine awp_seq ?_
    refine awp_region 5 mixed (by kernel_rfl) ?_
    refine rg_q (q_load_refA (ds := [_, _, _, _, _, _]) sz366 rfl rfl rfl rfl) ?_
    refine rg_q (q_call en270 (.cons rfl .nil) rfl (least_p (wayI m a t).1 hcx1)) ?_
    refine rg_q (q_load_refA (ds := [_, _, _, _, _, _]) sz366 rfl rfl rfl rfl) ?_
    refine rg_q (q_call en270 (.cons rfl .nil) rfl (least_p (wayI n b t).1 hcx2)) ?_
    refine rg_q (q_call en269 (.cons rfl (.cons rfl .nil)) rfl (plus_p (leastI (wayI m a t).1) (leastI (wayI n b t).1) (by omega) (by omega) (by omega) (by omega) (by omega) (by omega) (by omega) (by omega))) ?_
    refine rg_nil ?_
    refine aops_store sz56 rfl rfl (by exact .inr ⟨_, rfl⟩) rfl rfl (by decide) rfl ?_
    refine aops_q rfl (q_a rfl) ?_
    refine aops_nil ?_
    change Awp _ _ _ _ _
    refine awp_ret ?_
    refine ⟨_, (.cons (.cellA rfl rfl sz56 rfl) (.cons (.tmp (by exact .d _)) .nil)), ?_⟩
    rw [hl1, hl2]; rfl

def erR (a : Arr) (t p : Int × Int) : Rg × Int := if opE a t p ≠ 0 then ((0, 0), opE a t p) else (erI a t p, 0)
set_option maxRecDepth 100000 in
theorem echoRange_p (a : Arr) (t p : Int × Int) : PC Tryz.prog 172 [.agg (arrC a), .agg (shC t), .agg (shC p)] (.tup [.agg [.v (.int .i64 (((erR a t p).1).1)), .v (.int .i64 (((erR a t p).1).2))], .v (.int .i64 ((erR a t p).2))]) := by
 refine pc_of_awpN Tryz.func172 rfl Tryz.ntmps172 (rs := [.cell 6 56, .tmp 7]) Tryz.results172 (by simp) fun w0 hmine hrnd hpn => ?_
 refine awp_seq ?_
 refine awp_region 3 mixed (by kernel_rfl) ?_
 refine rg_q (q_box rfl (by exact .inr ⟨_, rfl⟩)) ?_
 refine rg_q (q_box rfl (by exact .inr ⟨_, rfl⟩)) ?_
 refine rg_q (q_box rfl (by exact .inr ⟨_, rfl⟩)) ?_
 refine rg_nil ?_
 refine aops_alloc zr56 rfl rfl rfl ?_
 refine aops_q rfl (q_a rfl) ?_
 refine aops_nil ?_
 change Awp _ _ _ _ _
 refine awp_seq ?_
 refine awp_seq ?_
 refine awp_region 7 mixed (by kernel_rfl) ?_
 refine rg_q (q_loadA (ds := [_, _, _, _, _, _, _, _, _, _, _]) sz28 rfl rfl rfl) ?_
 refine rg_q (q_loadA (ds := [_, _]) sz33 rfl rfl rfl) ?_
 refine rg_q (q_loadA (ds := [_, _]) sz63 rfl rfl rfl) ?_
 refine rg_q (q_call en229 (.cons rfl (.cons rfl (.cons rfl .nil))) rfl (bopen_p _ _ _)) ?_
 refine rg_q (q_move (x := .d (.tup _)) rfl) (rg_q (q_extract rfl rfl) (rg_q (q_extract rfl rfl) ?_))
 refine rg_nil ?_
 refine aops_alloc zr242 rfl rfl rfl ?_
 refine aops_store sz242 rfl rfl (by exact .inr ⟨_, rfl⟩) rfl rfl (by decide) rfl ?_
 refine aops_q rfl (q_a rfl) ?_
 refine aops_nil ?_
 change Awp _ _ _ _ _
 refine awp_seq ?_
 refine awp_region 2 mixed (by kernel_rfl) ?_
 refine rg_q (q_m rfl) (rg_q (q_neq rfl rfl) ?_)
 refine rn ?_
 change Awp _ _ _ _ _
 refine awp_cond rfl (fun hc2 => ?_) (fun hc2 => ?_)
 ·
  (try simp only [nb, ne_eq] at hc2)
  have hz : erR a t p = ((0, 0), opE a t p) := by unfold erR; rw [if_pos hc2]
  refine awp_seq ?_
  refine awp_region 2 mixed (by kernel_rfl) ?_
  refine rg_q (q_build (cs := [_, _]) pl56 zr56 rfl .nil trivial rfl) ?_
  refine rg_q (q_m rfl) ?_
  refine rg_nil ?_
  refine aops_store sz56 rfl rfl (by exact .inr ⟨_, rfl⟩) rfl rfl (by decide) rfl ?_
  refine aops_q rfl (q_a rfl) ?_
  refine aops_nil ?_
  change Awp _ _ _ _ _
  refine awp_ret ?_
  refine ⟨_, (.cons (.cellA rfl rfl sz56 rfl) (.cons (.tmp (by exact .d _)) .nil)), ?_⟩
  rw [hz]; rfl
 ·
  (try simp only [nb, ne_eq] at hc2)
  have ho : opE a t p = 0 := by simpa using hc2
  obtain ⟨hok, hpk, hs, hp⟩ := op_ok ho
  have hz : erR a t p = (erI a t p, 0) := by unfold erR; rw [if_neg (by rw [ho]; simp)]
  obtain ⟨⟨p1, p2⟩, p3, p4⟩ := hpk
  have hx := el_at p1 p2
  have hy := el_at p3 p4
  have hw1 := way_of hok p1 p2 hs hp (m := a.ou) rfl
  have hw2 := way_of hok p3 p4 hs hp (m := a.ba) hok.th.symm
  have e1 : ((p.1.toNat : Nat) : Int) = p.1 := by omega
  have e2 : ((p.2.toNat : Nat) : Int) = p.2 := by omega
  refine awp_skip ?_
  change Awp _ _ _ _ _
  refine awp_seq ?_
  refine awp_region 21 mixed (by kernel_rfl) ?_
  refine rg_q (q_fieldAddr fld28_1 rfl) ?_
  refine rg_q (q_loadA (ds := [_, _, _, _]) sz24 rfl rfl rfl) ?_
  refine rg_q (q_fieldAddr fld28_2 rfl) ?_
  refine rg_q (q_loadA (ds := [_, _, _, _]) sz24 rfl rfl rfl) ?_
  refine rg_q (q_fieldAddr fld28_0 rfl) (rg_q (q_load sz22 rfl rfl) ?_)
  refine rg_q (q_indexAddr_ar ar63 rfl rfl (by omega) (by omega)) ?_
  refine rg_q (q_load sz3 rfl rfl) ?_
  refine rg_q (q_indexAddr sl22 rfl rfl (by omega) (map_at (k := p.1.toNat) (by omega) hx)) ?_
  refine rg_q (q_loadA (ds := [_, _]) sz33 rfl rfl rfl) ?_
  refine rg_q (q_loadA (ds := [_, _]) sz33 rfl rfl rfl) ?_
  refine rg_q (q_fieldAddr fld28_0 rfl) (rg_q (q_load sz22 rfl rfl) ?_)
  refine rg_q (q_indexAddr_ar ar63 rfl rfl (by omega) (by omega)) ?_
  refine rg_q (q_load sz3 rfl rfl) ?_
  refine rg_q (q_indexAddr sl22 rfl rfl (by omega) (map_at (k := p.2.toNat) (by omega) hy)) ?_
  refine rg_q (q_loadA (ds := [_, _]) sz33 rfl rfl rfl) ?_
  refine rg_q (q_build pl339 zr339 rfl (.cons rfl (by exact .inr ⟨_, rfl⟩) (.cons rfl (by exact .inr ⟨_, rfl⟩) (.cons rfl (by exact .inr ⟨_, rfl⟩) (.cons rfl (by exact .inr ⟨_, rfl⟩) (.cons rfl (by exact .inr ⟨_, rfl⟩) .nil))))) ⟨⟨rfl, by decide⟩, ⟨rfl, by decide⟩, ⟨rfl, by decide⟩, ⟨rfl, by decide⟩, ⟨rfl, by decide⟩, trivial⟩ rfl) ?_
  refine rg_q (q_call en237 (.cons rfl .nil) rfl (echoTime_p a.ou a.ba (elAt a p.1) t (elAt a p.2) hok.ou hok.ba hw1 hw2)) ?_
  refine rg_q (q_extract rfl rfl) (rg_q (q_extract rfl rfl) ?_)
  refine rg_nil ?_
  refine aops_store sz56 rfl rfl (by exact .inr ⟨_, rfl⟩) rfl rfl (by decide) rfl ?_
  refine aops_q rfl (q_a rfl) ?_
  refine aops_nil ?_
  change Awp _ _ _ _ _
  refine awp_ret ?_
  refine ⟨_, (.cons (.cellA rfl rfl sz56 rfl) (.cons (.tmp (by exact .d _)) .nil)), ?_⟩
  rw [hz]; rfl
end Go.Proofs.YtphlaicnmmglhaaGreat.Am.M
-- mini
namespace Go.Proofs.YtphlaicnmmglhaaGreat.Am.M
open Go
set_option maxRecDepth 100000 in
theorem tsmall_p (n m : Int) (h1 : 0 ≤ m) (h2 : m ≤ 1000000000000) : PC Tryz.prog 267 [.v (.int .i64 (n)), .v (.int .i64 (m))] (.v (.bool (inR (-m) n m))) := by
 refine pc_of_awp Tryz.func267 rfl Tryz.ntmps267 (rs := [.tmp 4]) Tryz.results267 (by simp) fun w0 => ?_
 refine awp_seq ?_
 refine awp_region 1 mixed (by kernel_rfl) ?_
 refine rg_q (q_a rfl) ?_
 refine rs (awp_region 6 mixed (by kernel_rfl) ?_)
 refine rg_q (q_m rfl) (rg_q (q_m rfl) ?_)
 refine rg_q (q_neg rfl (In64.mk (by omega) (by omega))) ?_
 refine rg_q (q_m rfl) ?_
 refine rg_q (q_call en155 (.cons rfl (.cons rfl (.cons rfl .nil))) rfl (twithin_p _ _ _)) ?_
 refine rg_q (q_a rfl) ?_
 refine rn ?_
 change Awp _ _ _ _ _
 refine awp_ret ?_
 refine ⟨_, (.cons (.tmp (by exact .d _)) .nil), ?_⟩
 rfl

structure Whl (b : Nat) (n : Int) : Prop where
  lo : -2047 ≤ n
  hi : n ≤ 2047
  self : ordB .neq (FloatKind.f32.format.order b b) = false
  sub : floatBits .sub .f32 b b = some 0
  ge : ordB .geq (FloatKind.f32.format.order b 1266679808) = false
  le : ordB .leq (FloatKind.f32.format.order b 3414163456) = false
  int : floatToIntVal .f32 b .i64 = some n
  back : ordB .neq (FloatKind.f32.format.order (FloatKind.f32.nearest n) b) = false
def vI (b : Nat) : Int := (floatToIntVal .f32 b .i64).getD 0
theorem Whl.v {b : Nat} {n : Int} (h : Whl b n) : vI b = n := by unfold vI; rw [h.int]; rfl
theorem whl_fn {n : Int} (h1 : -2047 ≤ n) (h2 : n ≤ 2047) : Whl (FloatKind.f32.nearest n) n := by
  have hf := f32_of (show -16777215 ≤ n by omega) (by omega)
  refine ⟨h1, h2, f32_neq hf, ?_, f32_geq hf, f32_leq hf, f32_int hf, f32_neq hf⟩
  have h := f32_sub hf hf (by rw [Int.sub_self]; exact f32_of (by decide) (by decide))
  rw [Int.sub_self] at h; exact h
theorem whl_zero : ordB .neq (FloatKind.f32.format.order 0 0) = false := f32_neq (a := 0) (f32_of (by decide) (by decide))
def WhlL (bs : List Nat) : Prop := ∀ b ∈ bs, Whl b (vI b)
set_option maxRecDepth 100000 in
theorem tsampleErr_p (b : Nat) (n : Int) (h : Whl b n) : PC Tryz.prog 234 [fd b] (.v (.int .i64 (0))) := by
 have h1 := h.lo
 have h2 := h.hi
 have hr : inR (-2047) n 2047 = true := by simp [inR]; omega
 refine pc_of_awp Tryz.func234 rfl Tryz.ntmps234 (rs := [.tmp 2]) Tryz.results234 (by simp) fun w0 => ?_
 refine awp_seq ?_
 refine awp_region 1 mixed (by kernel_rfl) ?_
 refine rg_q (q_a rfl) ?_
 refine rn ?_
 change Awp _ _ _ _ _
 refine awp_seq ?_
 refine awp_block ?_
 refine awp_seq ?_
 refine awp_region 10 mixed (by kernel_rfl) ?_
 refine rg_q (q_m rfl) (rg_q (q_m rfl) ?_)
 refine rg_q (q_fcmp (by decide) rfl rfl h.self) ?_
 refine rg_q (q_m rfl) ?_
 refine rg_g rfl rfl (fun hG => (q_m rfl)) ?_
 refine rg_g rfl rfl (fun hG => (q_m rfl)) ?_
 refine rg_g rfl rfl (fun hG => (q_fbin (by decide) rfl rfl h.sub)) ?_
 refine rg_g rfl rfl (fun hG => (q_fcmp (by decide) rfl rfl whl_zero)) ?_
 refine rg_pick rfl rfl rfl rfl rfl rfl ?_
 refine rg_q (q_a rfl) ?_
 refine rn ?_
 change Awp _ _ _ _ _
 refine awp_cond rfl (fun hc1 => ?_) (fun hc1 => ?_)
 ·
  cases hc1
 ·
  (try simp only [nb, ne_eq] at hc1)
  refine awp_seq ?_
  refine awp_region 7 mixed (by kernel_rfl) ?_
  refine rg_q (q_m rfl) ?_
  refine rg_q (q_fcmp (by decide) rfl rfl h.ge) ?_
  refine rg_q (q_m rfl) ?_
  refine rg_g rfl rfl (fun hG => (q_m rfl)) ?_
  refine rg_g rfl rfl (fun hG => (q_fcmp (by decide) rfl rfl h.le)) ?_
  refine rg_pick rfl rfl rfl rfl rfl rfl ?_
  refine rg_q (q_a rfl) ?_
  refine rn ?_
  change Awp _ _ _ _ _
  refine awp_cond rfl (fun hc3 => ?_) (fun hc3 => ?_)
  ·
   cases hc3
  ·
   (try simp only [nb, ne_eq] at hc3)
   refine awp_seq ?_
   refine awp_region 6 mixed (by kernel_rfl) ?_
   refine rg_q (q_m rfl) ?_
   refine rg_q (q_convfi flt117 int3 rfl h.int) ?_
   refine rg_q (q_convf int3 flt117 rfl) ?_
   refine rg_q (q_m rfl) ?_
   refine rg_q (q_fcmp (by decide) rfl rfl h.back) ?_
   refine rg_q (q_a rfl) ?_
   refine rn ?_
   change Awp _ _ _ _ _
   refine awp_cond rfl (fun hc5 => ?_) (fun hc5 => ?_)
   ·
    cases hc5
   ·
    (try simp only [nb, ne_eq] at hc5)
    refine awp_seq ?_
    refine awp_region 5 mixed (by kernel_rfl) ?_
    refine rg_q (q_m rfl) ?_
    refine rg_q (q_convfi flt117 int3 rfl h.int) ?_
    refine rg_q (q_call en267 (.cons rfl (.cons rfl .nil)) rfl (tsmall_p _ _ (by omega) (by omega))) ?_
    refine rg_q (q_not rfl) (rg_q (q_a rfl) ?_)
    refine rn ?_
    change Awp _ _ _ _ _
    refine awp_cond rfl (fun hc7 => ?_) (fun hc7 => ?_)
    ·
     rw [show inR (-2047) n 2047 = true from hr] at hc7
     cases hc7
    ·
     (try simp only [nb, ne_eq] at hc7)
     refine awp_skip ?_
     change Awp _ _ _ _ _
     refine awp_seq ?_
     refine awp_region 1 mixed (by kernel_rfl) ?_
     refine rg_q (q_a rfl) ?_
     refine rn ?_
     change Awp _ _ _ _ _
     refine awp_ret ?_
     refine ⟨_, (.cons (.tmp (by exact .d _)) .nil), ?_⟩
     rfl
set_option maxRecDepth 100000 in
theorem tsamplesErr_p (l : List Nat) (hb : WhlL l) : PC Tryz.prog 165 [.sl 1 (l.map fC)] (.tup [.v (.int .i64 (0)), .v (.int .i64 (0))]) := by
 refine pc_of_awp Tryz.func165 rfl Tryz.ntmps165 (rs := [.tmp 2, .tmp 3]) Tryz.results165 (by simp) fun w0 => ?_
 refine awp_seq ?_
 refine awp_region 2 mixed (by kernel_rfl) ?_
 refine rg_q (q_a rfl) (rg_q (q_a rfl) ?_)
 refine rn ?_
 change Awp _ _ _ _ _
 refine awp_seq ?_
 refine awp_seq ?_
 refine awp_region 3 mixed (by kernel_rfl) ?_
 refine rg_q (q_move (x := .d (.sl _ _)) rfl) ?_
 refine rg_q (q_len isl29 rfl (by exact len_map _ _)) ?_
 refine rg_q (q_m rfl) ?_
 refine rn ?_
 change Awp _ _ _ _ _
 refine awp_len (t := 7) rfl (fun hl7 => ?_)
 (try simp only [List.length_map] at hl7)
 refine awp_block ?_
 refine awp_loopH [2, 3, 4, 5, 6, 9, 10, 11, 12, 13, 14, 15, 16, 17, 18, 19, 20] [] (α := Nat) (fun k => [(9, T.i (k : Int))]) (fun k => []) (fun k => k ≤ l.length) (fun k => l.length - k) 0 (Nat.zero_le _) ?_ ?_
 · exact le_head (ms := []) (by repeat (exact Out.refl _)) ⟨(by rfl), trivial⟩ trivial rfl rfl rfl rfl
 ·
  intro k hk
  refine awp_seq ?_
  refine awp_region 1 mixed (by kernel_rfl) ?_
  refine rg_q (q_lss rfl rfl) ?_
  refine rn ?_
  change Awp _ _ _ _ _
  refine awp_seq ?_
  refine awp_cond rfl (fun hc2 => ?_) (fun hc2 => ?_)
  ·
   (try simp only [nb, ne_eq] at hc2)
   have hlt : k < l.length := by omega
   obtain ⟨x, hx⟩ : ∃ x, l[k]? = some x := ⟨_, List.getElem?_eq_getElem hlt⟩
   have hx1 := hb x (List.mem_of_getElem? hx)
   refine awp_skip ?_
   change Awp _ _ _ _ _
   refine awp_seq ?_
   refine awp_block ?_
   refine awp_seq ?_
   refine awp_region 5 mixed (by kernel_rfl) ?_
   refine rg_q (q_m rfl) ?_
   refine rg_q (q_indexAddr sl29 rfl rfl (by omega) (map_at (by omega) hx)) ?_
   refine rg_q (q_load sz117 rfl rfl) (rg_q (q_a rfl) (rg_q (q_a rfl) ?_))
   refine rs (awp_region 3 mixed (by kernel_rfl) ?_)
   refine rg_q (q_m rfl) ?_
   refine rg_q (q_call en234 (.cons rfl .nil) rfl (tsampleErr_p _ _ (by assumption))) ?_
   refine rg_q (q_a rfl) ?_
   refine rs (awp_region 2 mixed (by kernel_rfl) ?_)
   refine rg_q (q_m rfl) (rg_q (q_neq rfl rfl) ?_)
   refine rn ?_
   change Awp _ _ _ _ _
   refine awp_cond rfl (fun hc5 => ?_) (fun hc5 => ?_)
   ·
    simp at hc5
   ·
    (try simp only [nb, ne_eq] at hc5)
    refine awp_skip ?_
    change Awp _ _ _ _ _
    refine awp_region 2 mixed (by kernel_rfl) ?_
    refine rg_q (q_add rfl rfl (In64.mk (by omega) (by omega))) ?_
    refine rg_q (q_m rfl) ?_
    refine rn ?_
    refine ⟨k + 1, by omega, by omega, ?_⟩
    exact le_head (ms := []) (by repeat (first | exact Out.head rfl rfl | (refine Out.put ?_ rfl))) ⟨(by rfl), trivial⟩ trivial rfl rfl rfl rfl
  ·
   (try simp only [nb, ne_eq] at hc2)
   refine awp_exit ?_
   change Awp _ _ _ _ _
   refine awp_seq ?_
   refine awp_region 2 mixed (by kernel_rfl) ?_
   refine rg_q (q_a rfl) (rg_q (q_a rfl) ?_)
   refine rn ?_
   change Awp _ _ _ _ _
   refine awp_ret ?_
   refine ⟨_, (.cons (.tmp (by exact .d _)) (.cons (.tmp (by exact .d _)) .nil)), ?_⟩
   rfl
set_option maxRecDepth 100000 in
theorem tcheckTrace_p (l : List Nat) (hS : l.length = 64) (hb : WhlL l) : PC Tryz.prog 275 [.agg (l.map fd)] (.tup [.v (.int .i64 (0)), .v (.int .i64 (0))]) := by
 refine pc_of_awp Tryz.func275 rfl Tryz.ntmps275 (rs := [.tmp 2, .tmp 3]) Tryz.results275 (by simp) fun w0 => ?_
 refine awp_seq ?_
 refine awp_region 3 mixed (by kernel_rfl) ?_
 refine rg_q (q_box rfl (by exact .inr ⟨_, rfl⟩)) ?_
 refine rg_q (q_a rfl) (rg_q (q_a rfl) ?_)
 refine rs (awp_region 6 mixed (by kernel_rfl) ?_)
 refine rg_q (q_sliceP (es := l.map fC) ar236 rfl (by show (l.map fd).length = 64; rw [List.length_map]; exact hS) (by decide) (by decide) (fd_row l)) ?_
 refine rg_q (q_call en165 (.cons rfl .nil) rfl (tsamplesErr_p l hb)) ?_
 refine rg_q (q_extract rfl rfl) (rg_q (q_extract rfl rfl) (rg_q (q_a rfl) (rg_q (q_a rfl) ?_)))
 refine rn ?_
 change Awp _ _ _ _ _
 refine awp_ret ?_
 refine ⟨_, (.cons (.tmp (by exact .d _)) (.cons (.tmp (by exact .d _)) .nil)), ?_⟩
 rfl
set_option maxRecDepth 100000 in
theorem traceErr_p (l : List Nat) (hS : l.length = 64) (hb : WhlL l) : PC Tryz.prog 245 [.agg (l.map fd)] (.v (.int .i64 (0))) := by
 refine pc_of_awp Tryz.func245 rfl Tryz.ntmps245 (rs := [.tmp 2]) Tryz.results245 (by simp) fun w0 => ?_
 refine awp_seq ?_
 refine awp_region 2 mixed (by kernel_rfl) ?_
 refine rg_q (q_box rfl (by exact .inr ⟨_, rfl⟩)) ?_
 refine rg_q (q_a rfl) ?_
 refine rs (awp_region 7 mixed (by kernel_rfl) ?_)
 refine rg_q (q_loadA (ds := l.map fd) sz236 rfl (by rw [List.drop_zero]; exact List.take_of_length_le (by show (l.map fd).length ≤ 64; rw [List.length_map]; omega)) (by rw [List.length_map]; exact hS)) ?_
 refine rg_q (q_call en275 (.cons rfl .nil) rfl (tcheckTrace_p _ (by assumption) (by assumption))) ?_
 refine rg_q (q_move (x := .d (.tup _)) rfl) (rg_q (q_extract rfl rfl) (rg_q (q_extract rfl rfl) (rg_q (q_a rfl) (rg_q (q_a rfl) ?_))))
 refine rs (awp_region 2 mixed (by kernel_rfl) ?_)
 refine rg_q (q_m rfl) (rg_q (q_a rfl) ?_)
 refine rn ?_
 change Awp _ _ _ _ _
 refine awp_ret ?_
 refine ⟨_, (.cons (.tmp (by exact .d _)) .nil), ?_⟩
 rfl
set_option maxRecDepth 100000 in
theorem checkMatrix_p (ne : Int) (l : List Nat) (h1 : 1 ≤ ne) (h2 : ne ≤ 16) (hl : (l.length : Int) = ne * ne * 64) (hb : WhlL l) : PC Tryz.prog 86 [.agg [.v (.int .i64 (ne)), .sl 1 (l.map fC)]] (.tup [.v (.int .i64 (0)), .v (.int .i64 (0))]) := by
 have hm := mulb (a := ne) (b := ne) (A := 16) (B := 16) (by omega) (by omega) (by omega) (by omega)
 refine pc_of_awp Tryz.func86 rfl Tryz.ntmps86 (rs := [.tmp 2, .tmp 3]) Tryz.results86 (by simp) fun w0 => ?_
 refine awp_seq ?_
 refine awp_region 3 mixed (by kernel_rfl) ?_
 refine rg_q (q_box rfl (by exact .inr ⟨_, rfl⟩)) ?_
 refine rg_q (q_a rfl) (rg_q (q_a rfl) ?_)
 refine rn ?_
 change Awp _ _ _ _ _
 refine awp_seq ?_
 refine awp_block ?_
 refine awp_seq ?_
 refine awp_region 5 mixed (by kernel_rfl) ?_
 refine rg_q (q_fieldAddr fld31_0 rfl) (rg_q (q_load sz3 rfl rfl) ?_)
 refine rg_q (q_call en155 (.cons rfl (.cons rfl (.cons rfl .nil))) rfl (twithin_p _ _ _)) ?_
 refine rg_q (q_not rfl) (rg_q (q_a rfl) ?_)
 refine rn ?_
 change Awp _ _ _ _ _
 refine awp_cond rfl (fun hc1 => ?_) (fun hc1 => ?_)
 ·
  simp [inR] at hc1
  omega
 ·
  (try simp only [nb, ne_eq] at hc1)
  refine awp_seq ?_
  refine awp_region 11 mixed (by kernel_rfl) ?_
  refine rg_q (q_fieldAddr fld31_1 rfl) (rg_q (q_load sz29 rfl rfl) ?_)
  refine rg_q (q_len isl29 rfl (by exact len_map _ _)) ?_
  refine rg_q (q_fieldAddr fld31_0 rfl) (rg_q (q_load sz3 rfl rfl) (rg_q (q_fieldAddr fld31_0 rfl) (rg_q (q_load sz3 rfl rfl) ?_)))
  refine rg_q (q_mul rfl rfl (In64.mk (by omega) (by omega))) ?_
  refine rg_q (q_mul rfl rfl (In64.mk (by omega) (by omega))) ?_
  refine rg_q (q_neq rfl rfl) (rg_q (q_a rfl) ?_)
  refine rn ?_
  change Awp _ _ _ _ _
  refine awp_len (t := 11) rfl (fun hl11 => ?_)
  (try simp only [List.length_map] at hl11)
  refine awp_cond rfl (fun hc3 => ?_) (fun hc3 => ?_)
  ·
   rw [decide_eq_true_eq] at hc3
   exact absurd hl hc3
  ·
   (try simp only [nb, ne_eq] at hc3)
   refine awp_skip ?_
   change Awp _ _ _ _ _
   refine awp_seq ?_
   refine awp_region 7 mixed (by kernel_rfl) ?_
   refine rg_q (q_fieldAddr fld31_1 rfl) (rg_q (q_load sz29 rfl rfl) ?_)
   refine rg_q (q_call en165 (.cons rfl .nil) rfl (tsamplesErr_p l hb)) ?_
   refine rg_q (q_extract rfl rfl) (rg_q (q_extract rfl rfl) (rg_q (q_a rfl) (rg_q (q_a rfl) ?_)))
   refine rn ?_
   change Awp _ _ _ _ _
   refine awp_ret ?_
   refine ⟨_, (.cons (.tmp (by exact .d _)) (.cons (.tmp (by exact .d _)) .nil)), ?_⟩
   rfl

def outN (S : List Int) (k : Nat) : List D := (S.take k).map iv ++ List.replicate (64 - k) (iv 0)
theorem outN_len {S : List Int} {k : Nat} (hS : S.length = 64) (hk : k ≤ 64) : (outN S k).length = 64 := by unfold outN; rw [List.length_append, List.length_map, List.length_take, List.length_replicate]; omega
theorem outN_set {S : List Int} {k : Nat} {x : Int} (hS : S.length = 64) (h : S[k]? = some x) : setCs (outN S k) (0 + (k : Int).toNat * 1) [iv x] = outN S (k + 1) := by
  obtain ⟨hlt, hx⟩ := List.getElem?_eq_some_iff.1 h
  have hl : ((S.take k).map iv).length = k := by rw [List.length_map, List.length_take]; omega
  rw [Int.toNat_natCast, Nat.zero_add, Nat.mul_one, setCs_one (by rw [outN_len hS (by omega)]; omega)]
  unfold outN
  rw [List.set_append_right _ _ (by omega), hl, Nat.sub_self, show 64 - k = (64 - (k + 1)) + 1 by omega, List.replicate_succ, List.set_cons_zero, List.take_succ_eq_append_getElem hlt, hx, List.map_append, List.append_assoc]
  rfl
theorem outN_all {S : List Int} (hS : S.length = 64) : outN S 64 = S.map iv := by
  unfold outN
  rw [List.take_of_length_le (by omega)]; simp
theorem fd_at {l : List Nat} {k : Nat} {x : Nat} (h : l[k]? = some x) : (l.map fd)[0 + (k : Int).toNat * 1]? = some (fd x) := by rw [Int.toNat_natCast, Nat.zero_add, Nat.mul_one, List.getElem?_map, h]; rfl
theorem vI_len {l : List Nat} (h : l.length = 64) : ((l.map vI).map iv).length = 64 := by rw [List.length_map, List.length_map]; exact h
theorem vI_at {l : List Nat} {k x : Nat} (h : l[k]? = some x) : (l.map vI)[k]? = some (vI x) := by rw [List.getElem?_map, h]; rfl
theorem vI_in {l : List Nat} (h : WhlL l) : ∀ v ∈ l.map vI, -2047 ≤ v ∧ v ≤ 2047 := by
  intro v hv
  obtain ⟨b, hb, rfl⟩ := List.mem_map.1 hv
  exact ⟨(h b hb).lo, (h b hb).hi⟩
set_option maxRecDepth 100000 in
theorem numbersOf_p (l : List Nat) (hS : l.length = 64) (hb : WhlL l) : PC Tryz.prog 232 [.pt (l.map fd) 0] (.agg ((l.map vI).map iv)) := by
 have hS2 : (l.map vI).length = 64 := by rw [List.length_map]; exact hS
 refine pc_of_awp Tryz.func232 rfl Tryz.ntmps232 (rs := [.cell 2 262]) Tryz.results232 (by simp) fun w0 => ?_
 refine awp_seq ?_
 refine awp_region 0 mixed (by kernel_rfl) ?_
 refine rg_nil ?_
 refine aops_alloc zr262 rfl rfl rfl ?_
 refine aops_nil ?_
 change Awp _ _ _ _ _
 refine awp_seq ?_
 refine awp_seq ?_
 refine awp_region 2 mixed (by kernel_rfl) ?_
 refine rg_q (q_move (x := .d (.pt _ _)) rfl) (rg_q (q_m rfl) ?_)
 refine rn ?_
 change Awp _ _ _ _ _
 refine awp_block ?_
 refine awp_loopH [3, 4, 6, 7, 8, 9, 10, 11, 12, 13, 14, 15, 16] [2] (α := Nat) (fun k => [(6, T.i (k : Int))]) (fun k => [(2, .box (outN (l.map vI) k))]) (fun k => k ≤ 64) (fun k => 64 - k) 0 (Nat.zero_le _) ?_ ?_
 · exact le_head (ms := [2]) (by repeat (exact Out.refl _)) ⟨(by rfl), trivial⟩ ⟨(by rfl), trivial⟩ rfl rfl rfl rfl
 ·
  intro k hk
  refine awp_seq ?_
  refine awp_region 1 mixed (by kernel_rfl) ?_
  refine rg_q (q_lss rfl rfl) ?_
  refine rn ?_
  change Awp _ _ _ _ _
  refine awp_seq ?_
  refine awp_cond rfl (fun hc2 => ?_) (fun hc2 => ?_)
  ·
   (try simp only [nb, ne_eq] at hc2)
   have hlt : k < l.length := by omega
   obtain ⟨x, hx⟩ : ∃ x, l[k]? = some x := ⟨_, List.getElem?_eq_getElem hlt⟩
   have hx1 := hb x (List.mem_of_getElem? hx)
   have hld := fd_at hx
   have hst := outN_set hS2 (vI_at hx)
   have hol := outN_len (k := k) hS2 (by omega)
   refine awp_skip ?_
   change Awp _ _ _ _ _
   refine awp_seq ?_
   refine awp_block ?_
   refine awp_seq ?_
   refine awp_region 6 mixed (by kernel_rfl) ?_
   refine rg_q (q_m rfl) (rg_q (q_nilCheck rfl) ?_)
   refine rg_q (q_indexAddr_ar ar236 rfl rfl (by omega) (by omega)) ?_
   refine rg_q (q_load sz117 rfl hld) (rg_q (q_a rfl) (rg_q (q_a rfl) ?_))
   refine rn ?_
   change Awp _ _ _ _ _
   refine awp_region 4 mixed (by kernel_rfl) ?_
   refine rg_q (q_m rfl) (rg_q (q_m rfl) ?_)
   refine rg_q (q_convfi flt117 int3 rfl hx1.int) ?_
   refine rg_q (q_indexAddr_aref ar262 rfl rfl (by omega) (by omega)) ?_
   refine rg_nil ?_
   refine aops_store (cs' := outN (l.map vI) (k + 1)) sz3 rfl rfl (by exact .inl rfl) rfl rfl (by rw [hol]; omega) hst ?_
   refine aops_nil ?_
   change Awp _ _ _ _ _
   refine awp_region 2 mixed (by kernel_rfl) ?_
   refine rg_q (q_add rfl rfl (In64.mk (by omega) (by omega))) ?_
   refine rg_q (q_m rfl) ?_
   refine rn ?_
   refine ⟨k + 1, by omega, by omega, ?_⟩
   exact le_head (ms := [2]) (by repeat (first | exact Out.head rfl rfl | (refine Out.put ?_ rfl) | (refine Out.site ?_ rfl))) ⟨(by rfl), trivial⟩ ⟨(by rfl), trivial⟩ rfl rfl rfl rfl
  ·
   (try simp only [nb, ne_eq] at hc2)
   have hk64 : k = 64 := by omega
   subst hk64
   rw [outN_all hS2]
   refine awp_exit ?_
   change Awp _ _ _ _ _
   refine awp_seq ?_
   refine awp_region 1 mixed (by kernel_rfl) ?_
   refine rg_q (q_load_refA (ds := (l.map vI).map iv) sz262 rfl rfl (by rw [List.drop_zero]; exact List.take_of_length_le (by rw [vI_len hS]; exact Nat.le_refl _)) (vI_len hS)) ?_
   refine rg_nil ?_
   refine aops_store (cs' := (l.map vI).map iv) sz262 rfl rfl (by exact .inr ⟨_, rfl⟩) (vI_len hS) rfl (by rw [vI_len hS]; decide) (setCs_all (by rfl)) ?_
   refine aops_nil ?_
   change Awp _ _ _ _ _
   refine awp_ret ?_
   refine ⟨_, (.cons (.cellA rfl rfl sz262 (vI_len hS)) .nil), ?_⟩
   rfl

def sAt (S : List Int) (k : Nat) : Int := S.getD k 0
def reI (S : List Int) (k : Nat) : Int := sAt S k - sAt S (k + 2)
def imI (S : List Int) (k : Nat) : Int := sAt S (k + 1) - sAt S (k + 3)
theorem win4 {S : List Int} (hS : S.length = 64) {k : Nat} (hk : k < 61) : ((((S.map iv).take (k + 4)).drop k).map fun d => [d]) = [iv (sAt S k), iv (sAt S (k + 1)), iv (sAt S (k + 2)), iv (sAt S (k + 3))].map fun d => [d] := by
  congr 1
  have hg : ∀ i, i < 64 → S[i]? = some (sAt S i) := fun i hi => by
    unfold sAt
    rw [List.getD_eq_getElem?_getD, List.getElem?_eq_getElem (by omega)]; rfl
  apply List.ext_getElem?
  intro i
  rw [List.getElem?_drop, List.getElem?_take, List.getElem?_map]
  match i with
  | 0 => rw [if_pos (by omega), hg _ (by omega)]; rfl
  | 1 => rw [if_pos (by omega), hg _ (by omega)]; rfl
  | 2 => rw [if_pos (by omega), hg _ (by omega)]; rfl
  | 3 => rw [if_pos (by omega), hg _ (by omega)]; rfl
  | i + 4 => rw [if_neg (by omega)]; rfl
theorem sAt_in {S : List Int} (hb : ∀ v ∈ S, -2047 ≤ v ∧ v ≤ 2047) (k : Nat) : -2047 ≤ sAt S k ∧ sAt S k ≤ 2047 := by
  unfold sAt
  rw [List.getD_eq_getElem?_getD]
  cases h : S[k]? with
  | none => exact ⟨by decide, by decide⟩
  | some v => exact hb v (List.mem_of_getElem? h)
set_option maxRecDepth 100000 in
theorem tparts_p (S : List Int) (hS : S.length = 64) (hb : ∀ v ∈ S, -2047 ≤ v ∧ v ≤ 2047) (k : Nat) (hk : k < 61) : PC Tryz.prog 246 [.pt (S.map iv) 0, .v (.int .i64 ((k : Int)))] (.tup [.v (.int .i64 (reI S k)), .v (.int .i64 (imI S k))]) := by
 have b0 := sAt_in hb k
 have b1 := sAt_in hb (k + 1)
 have b2 := sAt_in hb (k + 2)
 have b3 := sAt_in hb (k + 3)
 have hlm : (S.map iv).length = 64 := by rw [List.length_map]; exact hS
 refine pc_of_awpN Tryz.func246 rfl Tryz.ntmps246 (rs := [.tmp 4, .tmp 5]) Tryz.results246 (by simp) fun w0 hmine hrnd hpn => ?_
 refine awp_seq ?_
 refine awp_region 2 mixed (by kernel_rfl) ?_
 refine rg_q (q_a rfl) (rg_q (q_a rfl) ?_)
 refine rs (awp_region 8 mixed (by kernel_rfl) ?_)
 refine rg_q (q_move (x := .d (.pt _ _)) rfl) (rg_q (q_nilCheck rfl) (rg_q (q_m rfl) (rg_q (q_m rfl) ?_)))
 refine rg_q (q_add rfl rfl (In64.mk (by omega) (by omega))) ?_
 refine rg_q (q_slicePP (lo := k) (hi := k + 4) (es := [iv (sAt S k), iv (sAt S (k + 1)), iv (sAt S (k + 2)), iv (sAt S (k + 3))].map fun d => [d]) ar262 rfl hlm (by decide) rfl rfl (by omega) (by omega) (by omega) (win4 hS hk)) ?_
 refine rg_q (q_toArr (cs := [iv (sAt S k), iv (sAt S (k + 1)), iv (sAt S (k + 2)), iv (sAt S (k + 3))]) ar375 rfl rfl rfl (by decide)) ?_
 refine rg_q (q_loadA (ds := [_, _, _, _]) sz375 rfl rfl rfl) ?_
 refine rg_nil ?_
 refine aops_alloc zr375 rfl rfl rfl ?_
 refine aops_store sz375 rfl rfl (by exact .inr ⟨_, rfl⟩) rfl rfl (by decide) rfl ?_
 refine aops_nil ?_
 change Awp _ _ _ _ _
 refine awp_seq ?_
 refine awp_region 12 mixed (by kernel_rfl) ?_
 refine rg_q (q_indexAddr_aref ar375 rfl rfl (by omega) (by omega)) ?_
 refine rg_q (q_load_ref sz3 rfl rfl rfl) ?_
 refine rg_q (q_indexAddr_aref ar375 rfl rfl (by omega) (by omega)) ?_
 refine rg_q (q_load_ref sz3 rfl rfl rfl) ?_
 refine rg_q (q_sub rfl rfl (In64.mk (by omega) (by omega))) ?_
 refine rg_q (q_indexAddr_aref ar375 rfl rfl (by omega) (by omega)) ?_
 refine rg_q (q_load_ref sz3 rfl rfl rfl) ?_
 refine rg_q (q_indexAddr_aref ar375 rfl rfl (by omega) (by omega)) ?_
 refine rg_q (q_load_ref sz3 rfl rfl rfl) ?_
 refine rg_q (q_sub rfl rfl (In64.mk (by omega) (by omega))) ?_
 refine rg_q (q_a rfl) (rg_q (q_a rfl) ?_)
 refine rn ?_
 change Awp _ _ _ _ _
 refine awp_ret ?_
 refine ⟨_, (.cons (.tmp (by exact .d _)) (.cons (.tmp (by exact .d _)) .nil)), ?_⟩
 rfl

theorem sq_bnd {S : List Int} (hb : ∀ v ∈ S, -2047 ≤ v ∧ v ≤ 2047) (k : Nat) : (-4094 ≤ reI S k ∧ reI S k ≤ 4094) ∧ (-4094 ≤ imI S k ∧ imI S k ≤ 4094) := by
  have b0 := sAt_in hb k
  have b1 := sAt_in hb (k + 1)
  have b2 := sAt_in hb (k + 2)
  have b3 := sAt_in hb (k + 3)
  unfold reI imI; omega

def cx (re im : Int) : D := .v (.complex .f32 (FloatKind.f32.nearest re) (FloatKind.f32.nearest im))
def anL (S : List Int) : List D := (List.range 61).map fun k => cx (reI S k) (imI S k)
def outA (S : List Int) (k : Nat) : List D := ((List.range k).map fun k => cx (reI S k) (imI S k)) ++ List.replicate (61 - k) (.v (.complex .f32 0 0))
theorem outA_len {S : List Int} {k : Nat} (hk : k ≤ 61) : (outA S k).length = 61 := by unfold outA; rw [List.length_append, List.length_map, List.length_range, List.length_replicate]; omega
theorem outA_set {S : List Int} {k : Nat} (hk : k < 61) : setCs (outA S k) (0 + (k : Int).toNat * 1) [cx (reI S k) (imI S k)] = outA S (k + 1) := by
  have hl : ((List.range k).map fun k => cx (reI S k) (imI S k)).length = k := by rw [List.length_map, List.length_range]
  rw [Int.toNat_natCast, Nat.zero_add, Nat.mul_one, setCs_one (by rw [outA_len (by omega)]; omega)]
  unfold outA
  rw [List.set_append_right _ _ (by omega), hl, Nat.sub_self, show 61 - k = (61 - (k + 1)) + 1 by omega, List.replicate_succ, List.set_cons_zero, List.range_succ, List.map_append, List.append_assoc]
  rfl
theorem outA_all (S : List Int) : outA S 61 = anL S := by unfold outA anL; simp
theorem anL_len (S : List Int) : (anL S).length = 61 := by unfold anL; rw [List.length_map, List.length_range]
set_option maxRecDepth 100000 in
theorem analytic_p (l : List Nat) (hS : l.length = 64) (hb : WhlL l) : PC Tryz.prog 180 [.agg (l.map fd)] (.tup [.agg (anL (l.map vI)), .v (.int .i64 (0))]) := by
 have hlm := vI_len hS
 have hS2 : (l.map vI).length = 64 := by rw [List.length_map]; exact hS
 have hb2 := vI_in hb
 refine pc_of_awpN Tryz.func180 rfl Tryz.ntmps180 (rs := [.cell 2 272, .tmp 3]) Tryz.results180 (by simp) fun w0 hmine hrnd hpn => ?_
 refine awp_seq ?_
 refine awp_region 1 mixed (by kernel_rfl) ?_
 refine rg_q (q_box rfl (by exact .inr ⟨_, rfl⟩)) ?_
 refine rg_nil ?_
 refine aops_alloc zr272 rfl rfl rfl ?_
 refine aops_q rfl (q_a rfl) ?_
 refine aops_nil ?_
 change Awp _ _ _ _ _
 refine awp_seq ?_
 refine awp_region 0 mixed (by kernel_rfl) ?_
 refine rg_nil ?_
 refine aops_alloc zr272 rfl rfl rfl ?_
 refine aops_nil ?_
 change Awp _ _ _ _ _
 refine awp_seq ?_
 refine awp_seq ?_
 refine awp_region 3 mixed (by kernel_rfl) ?_
 refine rg_q (q_loadA (ds := l.map fd) sz236 rfl (by rw [List.drop_zero]; exact List.take_of_length_le (by show (l.map fd).length ≤ 64; rw [List.length_map]; omega)) (by rw [List.length_map]; exact hS)) ?_
 refine rg_q (q_call en245 (.cons rfl .nil) rfl (traceErr_p _ (by assumption) (by assumption))) ?_
 refine rg_q (q_a rfl) ?_
 refine rs (awp_region 2 mixed (by kernel_rfl) ?_)
 refine rg_q (q_m rfl) (rg_q (q_neq rfl rfl) ?_)
 refine rn ?_
 change Awp _ _ _ _ _
 refine awp_cond rfl (fun hc3 => ?_) (fun hc3 => ?_)
 ·
  simp at hc3
 ·
  (try simp only [nb, ne_eq] at hc3)
  refine awp_skip ?_
  change Awp _ _ _ _ _
  refine awp_seq ?_
  refine awp_region 1 mixed (by kernel_rfl) ?_
  refine rg_q (q_call en232 (.cons rfl .nil) rfl (numbersOf_p l hS hb)) ?_
  refine rg_nil ?_
  refine aops_allocD zr262 rfl sz262 rfl rfl (by exact .inr ⟨_, rfl⟩) hlm rfl ?_
  refine aops_nil ?_
  change Awp _ _ _ _ _
  refine awp_seq ?_
  refine awp_seq ?_
  refine awp_region 1 mixed (by kernel_rfl) ?_
  refine rg_q (q_m rfl) ?_
  refine rn ?_
  change Awp _ _ _ _ _
  refine awp_block ?_
  refine awp_loopH [7, 8, 9, 17, 18, 19, 20, 21, 22, 23, 24, 25, 26, 27, 28, 29, 30, 31, 32] [4] (α := Nat) (fun k => [(17, T.i (k : Int))]) (fun k => [(4, .box (outA (l.map vI) k))]) (fun k => k ≤ 61) (fun k => 61 - k) 0 (Nat.zero_le _) ?_ ?_
  · exact le_head (ms := [4]) (by repeat (exact Out.refl _)) ⟨(by rfl), trivial⟩ ⟨(by rfl), trivial⟩ rfl rfl rfl rfl
  ·
   intro k hk
   refine awp_seq ?_
   refine awp_region 1 mixed (by kernel_rfl) ?_
   refine rg_q (q_lss rfl rfl) ?_
   refine rn ?_
   change Awp _ _ _ _ _
   refine awp_seq ?_
   refine awp_cond rfl (fun hc7 => ?_) (fun hc7 => ?_)
   ·
    (try simp only [nb, ne_eq] at hc7)
    have hlt : k < 61 := by omega
    have hst := outA_set (S := l.map vI) hlt
    have hol := outA_len (S := l.map vI) (k := k) (by omega)
    refine awp_skip ?_
    change Awp _ _ _ _ _
    refine awp_seq ?_
    refine awp_block ?_
    refine awp_seq ?_
    refine awp_region 2 mixed (by kernel_rfl) ?_
    refine rg_q (q_m rfl) (rg_q (q_a rfl) ?_)
    refine rs (awp_region 7 mixed (by kernel_rfl) ?_)
    refine rg_q (q_m rfl) ?_
    refine rg_q (q_call en246 (.cons rfl (.cons rfl .nil)) rfl (tparts_p (l.map vI) hS2 hb2 k hlt)) ?_
    refine rg_q (q_move (x := .d (.tup _)) rfl) (rg_q (q_extract rfl rfl) (rg_q (q_extract rfl rfl) (rg_q (q_a rfl) (rg_q (q_a rfl) ?_))))
    refine rn ?_
    change Awp _ _ _ _ _
    refine awp_region 7 mixed (by kernel_rfl) ?_
    refine rg_q (q_m rfl) (rg_q (q_m rfl) ?_)
    refine rg_q (q_convf int3 flt117 rfl) ?_
    refine rg_q (q_m rfl) ?_
    refine rg_q (q_convf int3 flt117 rfl) ?_
    refine rg_q (q_complex rfl rfl) ?_
    refine rg_q (q_indexAddr_aref ar272 rfl rfl (by omega) (by omega)) ?_
    refine rg_nil ?_
    refine aops_store (cs' := outA (l.map vI) (k + 1)) sz178 rfl rfl (by exact .inl rfl) rfl rfl (by rw [hol]; omega) hst ?_
    refine aops_nil ?_
    change Awp _ _ _ _ _
    refine awp_region 2 mixed (by kernel_rfl) ?_
    refine rg_q (q_add rfl rfl (In64.mk (by omega) (by omega))) ?_
    refine rg_q (q_m rfl) ?_
    refine rn ?_
    refine ⟨k + 1, by omega, by omega, ?_⟩
    exact le_head (ms := [4]) (by repeat (first | exact Out.head rfl rfl | (refine Out.put ?_ rfl) | (refine Out.site ?_ rfl))) ⟨(by rfl), trivial⟩ ⟨(by rfl), trivial⟩ rfl rfl rfl rfl
   ·
    (try simp only [nb, ne_eq] at hc7)
    have hk61 : k = 61 := by omega
    subst hk61
    rw [outA_all]
    refine awp_exit ?_
    change Awp _ _ _ _ _
    refine awp_seq ?_
    refine awp_region 1 mixed (by kernel_rfl) ?_
    refine rg_q (q_load_refA (ds := anL (l.map vI)) sz272 rfl rfl (by rw [List.drop_zero]; exact List.take_of_length_le (by rw [anL_len]; exact Nat.le_refl _)) (anL_len _)) ?_
    refine rg_nil ?_
    refine aops_store (cs' := anL (l.map vI)) sz272 rfl rfl (by exact .inr ⟨_, rfl⟩) (anL_len _) rfl (Nat.le_of_ble_eq_true rfl) (setCs_all (anL_len _)) ?_
    refine aops_q rfl (q_a rfl) ?_
    refine aops_nil ?_
    change Awp _ _ _ _ _
    refine awp_ret ?_
    refine ⟨_, (.cons (.cellA rfl rfl sz272 (anL_len _)) (.cons (.tmp (by exact .d _)) .nil)), ?_⟩
    rfl
end Go.Proofs.YtphlaicnmmglhaaGreat.Am.M
-- mini
namespace Go.Proofs.YtphlaicnmmglhaaGreat.Am.M
open Go
set_option maxRecDepth 100000 in
theorem fwithin_p (n lo hi : Int) : PC Tryz.prog 89 [.v (.int .i64 (n)), .v (.int .i64 (lo)), .v (.int .i64 (hi))] (.v (.bool (inR lo n hi))) := by
 refine pc_of_awp Tryz.func89 rfl Tryz.ntmps89 (rs := [.tmp 6]) Tryz.results89 (by simp) fun w0 => ?_
 refine awp_seq ?_
 refine awp_region 1 mixed (by kernel_rfl) ?_
 refine rg_q (q_a rfl) ?_
 refine rs (awp_region 9 mixed (by kernel_rfl) ?_)
 refine rg_q (q_m rfl) (rg_q (q_m rfl) (rg_q (q_leq rfl rfl) (rg_q (q_m rfl) ?_)))
 refine rg_g rfl rfl (fun hG => (q_m rfl)) ?_
 refine rg_g rfl rfl (fun hG => (q_m rfl)) ?_
 refine rg_g rfl rfl (fun hG => (q_leq rfl rfl)) ?_
 refine rg_pick rfl rfl rfl rfl rfl rfl ?_
 refine rg_q (q_a rfl) ?_
 refine rn ?_
 change Awp _ _ _ _ _
 refine awp_ret ?_
 refine ⟨_, (.cons (.tmp (by exact .d _)) .nil), ?_⟩
 simp only [bif_and]; rfl
set_option maxRecDepth 100000 in
theorem fsmall_p (n m : Int) (h1 : 0 ≤ m) (h2 : m ≤ 1000000000000) : PC Tryz.prog 166 [.v (.int .i64 (n)), .v (.int .i64 (m))] (.v (.bool (inR (-m) n m))) := by
 refine pc_of_awp Tryz.func166 rfl Tryz.ntmps166 (rs := [.tmp 4]) Tryz.results166 (by simp) fun w0 => ?_
 refine awp_seq ?_
 refine awp_region 1 mixed (by kernel_rfl) ?_
 refine rg_q (q_a rfl) ?_
 refine rs (awp_region 6 mixed (by kernel_rfl) ?_)
 refine rg_q (q_m rfl) (rg_q (q_m rfl) ?_)
 refine rg_q (q_neg rfl (In64.mk (by omega) (by omega))) ?_
 refine rg_q (q_m rfl) ?_
 refine rg_q (q_call en89 (.cons rfl (.cons rfl (.cons rfl .nil))) rfl (fwithin_p _ _ _)) ?_
 refine rg_q (q_a rfl) ?_
 refine rn ?_
 change Awp _ _ _ _ _
 refine awp_ret ?_
 refine ⟨_, (.cons (.tmp (by exact .d _)) .nil), ?_⟩
 rfl
set_option maxRecDepth 100000 in
theorem ffirst_p (l : List Int) : PC Tryz.prog 117 [.sl 1 (l.map iC)] (.v (.int .i64 (firstE l))) := by
 refine pc_of_awp Tryz.func117 rfl Tryz.ntmps117 (rs := [.tmp 2]) Tryz.results117 (by simp) fun w0 => ?_
 refine awp_seq ?_
 refine awp_region 1 mixed (by kernel_rfl) ?_
 refine rg_q (q_a rfl) ?_
 refine rn ?_
 change Awp _ _ _ _ _
 refine awp_seq ?_
 refine awp_seq ?_
 refine awp_region 3 mixed (by kernel_rfl) ?_
 refine rg_q (q_move (x := .d (.sl _ _)) rfl) ?_
 refine rg_q (q_len isl282 rfl (by exact len_map _ _)) ?_
 refine rg_q (q_m rfl) ?_
 refine rn ?_
 change Awp _ _ _ _ _
 refine awp_len (t := 5) rfl (fun hl5 => ?_)
 (try simp only [List.length_map] at hl5)
 refine awp_block ?_
 refine awp_loopH [2, 4, 7, 8, 9, 10, 11, 12, 13, 14] [] (α := Nat) (fun k => [(7, T.i (k : Int))]) (fun k => []) (fun k => k ≤ l.length ∧ firstE l = firstE (l.drop k)) (fun k => l.length - k) 0 ⟨Nat.zero_le _, rfl⟩ ?_ ?_
 · exact le_head (ms := []) (by repeat (exact Out.refl _)) ⟨(by rfl), trivial⟩ trivial rfl rfl rfl rfl
 ·
  intro k ⟨hk, hf⟩
  refine awp_seq ?_
  refine awp_region 1 mixed (by kernel_rfl) ?_
  refine rg_q (q_lss rfl rfl) ?_
  refine rn ?_
  change Awp _ _ _ _ _
  refine awp_seq ?_
  refine awp_cond rfl (fun hc2 => ?_) (fun hc2 => ?_)
  ·
   (try simp only [nb, ne_eq] at hc2)
   have hlt : k < l.length := by omega
   have hx := List.getElem?_eq_getElem hlt
   have hd : firstE (l.drop k) = if l[k] = 0 then firstE (l.drop (k + 1)) else l[k] := by rw [List.drop_eq_getElem_cons hlt]; rfl
   generalize l[k] = x at *
   refine awp_skip ?_
   change Awp _ _ _ _ _
   refine awp_seq ?_
   refine awp_block ?_
   refine awp_seq ?_
   refine awp_region 3 mixed (by kernel_rfl) ?_
   refine rg_q (q_indexAddr sl282 rfl rfl (by omega) (map_at (by omega) hx)) ?_
   refine rg_q (q_load sz40 rfl rfl) (rg_q (q_a rfl) ?_)
   refine rs (awp_region 2 mixed (by kernel_rfl) ?_)
   refine rg_q (q_m rfl) (rg_q (q_neq rfl rfl) ?_)
   refine rn ?_
   change Awp _ _ _ _ _
   refine awp_cond rfl (fun hc4 => ?_) (fun hc4 => ?_)
   ·
    (try simp only [nb, ne_eq] at hc4)
    refine awp_seq ?_
    refine awp_region 2 mixed (by kernel_rfl) ?_
    refine rg_q (q_m rfl) (rg_q (q_a rfl) ?_)
    refine rn ?_
    change Awp _ _ _ _ _
    refine awp_ret ?_
    refine ⟨_, (.cons (.tmp (by exact .d _)) .nil), ?_⟩
    rw [hf, hd, if_neg hc4]; rfl
   ·
    (try simp only [nb, ne_eq] at hc4)
    refine awp_skip ?_
    change Awp _ _ _ _ _
    refine awp_region 2 mixed (by kernel_rfl) ?_
    refine rg_q (q_add rfl rfl (In64.mk (by omega) (by omega))) ?_
    refine rg_q (q_m rfl) ?_
    refine rn ?_
    refine ⟨k + 1, ⟨by omega, by rw [hf, hd, if_pos hc4]⟩, by omega, ?_⟩
    exact le_head (ms := []) (by repeat (first | exact Out.head rfl rfl | (refine Out.put ?_ rfl))) ⟨(by rfl), trivial⟩ trivial rfl rfl rfl rfl
  ·
   (try simp only [nb, ne_eq] at hc2)
   refine awp_exit ?_
   change Awp _ _ _ _ _
   refine awp_seq ?_
   refine awp_region 1 mixed (by kernel_rfl) ?_
   refine rg_q (q_a rfl) ?_
   refine rn ?_
   change Awp _ _ _ _ _
   refine awp_ret ?_
   refine ⟨_, (.cons (.tmp (by exact .d _)) .nil), ?_⟩
   rw [hf, List.drop_of_length_le (by omega)]; rfl
set_option maxRecDepth 100000 in
theorem fwhen_p (b : Bool) (e : Int) : PC Tryz.prog 88 [.v (.bool (b)), .v (.int .i64 (e))] (.v (.int .i64 (whenI b e))) := by
 refine pc_of_awp Tryz.func88 rfl Tryz.ntmps88 (rs := [.tmp 4]) Tryz.results88 (by simp) fun w0 => ?_
 refine awp_seq ?_
 refine awp_region 1 mixed (by kernel_rfl) ?_
 refine rg_q (q_a rfl) ?_
 refine rn ?_
 change Awp _ _ _ _ _
 refine awp_seq ?_
 refine awp_seq ?_
 refine awp_region 1 mixed (by kernel_rfl) ?_
 refine rg_q (q_m rfl) ?_
 refine rn ?_
 change Awp _ _ _ _ _
 refine awp_cond rfl (fun hc1 => ?_) (fun hc1 => ?_)
 ·
  (try simp only [nb, ne_eq] at hc1)
  have hz : whenI b e = e := by unfold whenI; rw [if_pos hc1]
  refine awp_seq ?_
  refine awp_region 2 mixed (by kernel_rfl) ?_
  refine rg_q (q_m rfl) (rg_q (q_a rfl) ?_)
  refine rn ?_
  change Awp _ _ _ _ _
  refine awp_ret ?_
  refine ⟨_, (.cons (.tmp (by exact .d _)) .nil), ?_⟩
  rw [hz]; rfl
 ·
  (try simp only [nb, ne_eq] at hc1)
  have hz : whenI b e = 0 := by unfold whenI; rw [if_neg (by simpa using hc1)]
  refine awp_skip ?_
  change Awp _ _ _ _ _
  refine awp_seq ?_
  refine awp_region 1 mixed (by kernel_rfl) ?_
  refine rg_q (q_a rfl) ?_
  refine rn ?_
  change Awp _ _ _ _ _
  refine awp_ret ?_
  refine ⟨_, (.cons (.tmp (by exact .d _)) .nil), ?_⟩
  rw [hz]; rfl

structure Grd where
  fx : Int
  fz : Int
  co : Int
  ro : Int
  st : Int
def grdC (g : Grd) : List D := [.v (.int .i64 g.fx), .v (.int .i64 g.fz), .v (.int .i64 g.co), .v (.int .i64 g.ro), .v (.int .i64 g.st)]
def spI (g : Grd) (c : Int) : Int × Int := (g.fx + c.tmod g.co * g.st, g.fz + c.tdiv g.co * g.st)
structure GrdOk (g : Grd) : Prop where
  x1 : -100000 ≤ g.fx
  x2 : g.fx ≤ 100000
  z1 : -100000 ≤ g.fz
  z2 : g.fz ≤ 100000
  c1 : 1 ≤ g.co
  c2 : g.co ≤ 40
  r1 : 1 ≤ g.ro
  r2 : g.ro ≤ 40
  s1 : 1 ≤ g.st
  s2 : g.st ≤ 10000
def grdB (g : Grd) : Bool := inR (-100000) g.fx 100000 && inR (-100000) g.fz 100000 && inR 1 g.co 40 && inR 1 g.ro 40 && inR 1 g.st 10000
theorem inR_iff {l h a : Int} : inR l a h = true ↔ l ≤ a ∧ a ≤ h := by unfold inR; simp
theorem grdB_ok {g : Grd} (h : grdB g = true) : GrdOk g := by
  unfold grdB at h
  simp only [Bool.and_eq_true, inR_iff] at h
  obtain ⟨⟨⟨⟨⟨a1, a2⟩, b1, b2⟩, c1, c2⟩, d1, d2⟩, e1, e2⟩ := h
  exact ⟨a1, a2, b1, b2, c1, c2, d1, d2, e1, e2⟩
theorem cells_in {g : Grd} (h : GrdOk g) : 1 ≤ g.co * g.ro ∧ g.co * g.ro ≤ 1600 := by
  obtain ⟨_, _, _, _, c1, c2, r1, r2, _, _⟩ := h
  have h1 := mulb (a := g.co) (b := g.ro) (A := 40) (B := 40) (by omega) (by omega) (by omega) (by omega)
  have h2 := Int.mul_le_mul c1 r1 (by omega) (by omega)
  omega
theorem tmodP_in {c b : Int} (hc : 0 ≤ c) (hb : 1 ≤ b) : 0 ≤ c.tmod b ∧ c.tmod b < b := ⟨Int.tmod_nonneg _ hc, Int.tmod_lt_of_pos _ (by omega)⟩
theorem tdivP_in {c b : Int} (hc : 0 ≤ c) (hb : 1 ≤ b) : 0 ≤ c.tdiv b ∧ c.tdiv b ≤ c := by
  rw [Int.tdiv_eq_ediv_of_nonneg hc]
  exact ⟨Int.ediv_nonneg hc (by omega), Int.ediv_le_self _ hc⟩
theorem spot_in {g : Grd} (h : GrdOk g) {c : Int} (h1 : 0 ≤ c) (h2 : c ≤ 10000) : (0 ≤ c.tmod g.co * g.st ∧ c.tmod g.co * g.st ≤ 1000000) ∧ 0 ≤ c.tdiv g.co * g.st ∧ c.tdiv g.co * g.st ≤ 100000000 := by
  obtain ⟨_, _, _, _, c1, c2, r1, r2, s1, s2⟩ := h
  obtain ⟨m1, m2⟩ := tmodP_in h1 c1
  obtain ⟨d1, d2⟩ := tdivP_in h1 c1
  have a1 := mulb (a := c.tmod g.co) (b := g.st) (A := 100) (B := 10000) (by omega) (by omega) (by omega) (by omega)
  have a2 := mulb (a := c.tdiv g.co) (b := g.st) (A := 10000) (B := 10000) (by omega) (by omega) (by omega) (by omega)
  have a3 := Int.mul_nonneg m1 (show 0 ≤ g.st by omega)
  have a4 := Int.mul_nonneg d1 (show 0 ≤ g.st by omega)
  omega
set_option maxRecDepth 100000 in
theorem fcells_p (g : Grd) (hg : GrdOk g) : PC Tryz.prog 91 [.agg (grdC g)] (.v (.int .i64 (g.co * g.ro))) := by
 have hci := cells_in hg
 obtain ⟨x1, x2, z1, z2, c1, c2, r1, r2, s1, s2⟩ := hg
 refine pc_of_awp Tryz.func91 rfl Tryz.ntmps91 (rs := [.tmp 2]) Tryz.results91 (by simp) fun w0 => ?_
 refine awp_seq ?_
 refine awp_region 2 mixed (by kernel_rfl) ?_
 refine rg_q (q_box rfl (by exact .inr ⟨_, rfl⟩)) ?_
 refine rg_q (q_a rfl) ?_
 refine rs (awp_region 8 mixed (by kernel_rfl) ?_)
 refine rg_q (q_fieldAddr fld150_0 rfl) (rg_q (q_fieldAddr fld35_1 rfl) (rg_q (q_load sz3 rfl rfl) (rg_q (q_fieldAddr fld150_0 rfl) (rg_q (q_fieldAddr fld35_2 rfl) (rg_q (q_load sz3 rfl rfl) ?_)))))
 refine rg_q (q_mul rfl rfl (In64.mk (by omega) (by omega))) ?_
 refine rg_q (q_a rfl) ?_
 refine rn ?_
 change Awp _ _ _ _ _
 refine awp_ret ?_
 refine ⟨_, (.cons (.tmp (by exact .d _)) .nil), ?_⟩
 rfl
set_option maxRecDepth 100000 in
theorem fspot_p (g : Grd) (c : Int) (hg : GrdOk g) (h1 : 0 ≤ c) (h2 : c ≤ 10000) : PC Tryz.prog 90 [.agg (grdC g), .v (.int .i64 (c))] (.agg (shC (spI g c))) := by
 have hsi := spot_in hg h1 h2
 obtain ⟨x1, x2, z1, z2, c1, c2, r1, r2, s1, s2⟩ := hg
 obtain ⟨m1, m2⟩ := tmodP_in h1 c1
 obtain ⟨d1, d2⟩ := tdivP_in h1 c1
 obtain ⟨⟨a1, a2⟩, a3, a4⟩ := hsi
 refine pc_of_awp Tryz.func90 rfl Tryz.ntmps90 (rs := [.cell 4 33]) Tryz.results90 (by simp) fun w0 => ?_
 refine awp_seq ?_
 refine awp_region 1 mixed (by kernel_rfl) ?_
 refine rg_q (q_box rfl (by exact .inr ⟨_, rfl⟩)) ?_
 refine rg_nil ?_
 refine aops_alloc zr33 rfl rfl rfl ?_
 refine aops_nil ?_
 change Awp _ _ _ _ _
 refine awp_seq ?_
 refine awp_region 29 mixed (by kernel_rfl) ?_
 refine rg_q (q_fieldAddr fld150_0 rfl) (rg_q (q_fieldAddr fld35_0 rfl) (rg_q (q_fieldAddr fld33_0 rfl) (rg_q (q_load sz3 rfl rfl) (rg_q (q_m rfl) (rg_q (q_fieldAddr fld150_0 rfl) ?_)))))
 refine rg_q (q_fieldAddr fld35_1 rfl) (rg_q (q_load sz3 rfl rfl) ?_)
 refine rg_q (q_rem rfl rfl (by omega)) ?_
 refine rg_q (q_fieldAddr fld150_0 rfl) (rg_q (q_fieldAddr fld35_3 rfl) (rg_q (q_load sz3 rfl rfl) ?_))
 refine rg_q (q_mul rfl rfl (In64.mk (by omega) (by omega))) ?_
 refine rg_q (q_add rfl rfl (In64.mk (by omega) (by omega))) ?_
 refine rg_q (q_fieldAddr fld150_0 rfl) (rg_q (q_fieldAddr fld35_0 rfl) (rg_q (q_fieldAddr fld33_1 rfl) (rg_q (q_load sz3 rfl rfl) (rg_q (q_m rfl) (rg_q (q_fieldAddr fld150_0 rfl) ?_)))))
 refine rg_q (q_fieldAddr fld35_1 rfl) (rg_q (q_load sz3 rfl rfl) ?_)
 refine rg_q (q_quo rfl rfl (by omega) (In64.mk (by omega) (by omega))) ?_
 refine rg_q (q_fieldAddr fld150_0 rfl) (rg_q (q_fieldAddr fld35_3 rfl) (rg_q (q_load sz3 rfl rfl) ?_))
 refine rg_q (q_mul rfl rfl (In64.mk (by omega) (by omega))) ?_
 refine rg_q (q_add rfl rfl (In64.mk (by omega) (by omega))) ?_
 refine rg_q (q_build (cs := [_, _]) pl33 zr33 rfl (.cons rfl (by exact .inl rfl) (.cons rfl (by exact .inl rfl) .nil)) ⟨⟨rfl, by decide⟩, ⟨rfl, by decide⟩, trivial⟩ rfl) ?_
 refine rg_nil ?_
 refine aops_store sz33 rfl rfl (by exact .inr ⟨_, rfl⟩) rfl rfl (by decide) rfl ?_
 refine aops_nil ?_
 change Awp _ _ _ _ _
 refine awp_ret ?_
 refine ⟨_, (.cons (.cellA rfl rfl sz33 rfl) .nil), ?_⟩
 rfl

def clE (g : Grd) (c : Int) : Int := whenI (!inR 0 c (g.co * g.ro - 1)) 6
def ckG (g : Grd) : Int := if grdB g = true then whenI (decide (100000 < (spI g (g.co * g.ro - 1)).1) || decide (100000 < (spI g (g.co * g.ro - 1)).2)) 8 else 2
theorem ckG_ok {g : Grd} (h : ckG g = 0) : GrdOk g ∧ (spI g (g.co * g.ro - 1)).1 ≤ 100000 ∧ (spI g (g.co * g.ro - 1)).2 ≤ 100000 := by
  unfold ckG at h
  by_cases h1 : grdB g = true
  · rw [if_pos h1, when_zero (by decide)] at h
    simp only [Bool.or_eq_false_iff, decide_eq_false_iff_not] at h
    exact ⟨grdB_ok h1, by omega, by omega⟩
  · rw [if_neg h1] at h; cases h
set_option maxRecDepth 100000 in
theorem fcellErr_p (g : Grd) (c : Int) (hg : GrdOk g) : PC Tryz.prog 118 [.agg (grdC g), .v (.int .i64 (c))] (.v (.int .i64 (clE g c))) := by
 have hci := cells_in hg
 refine pc_of_awp Tryz.func118 rfl Tryz.ntmps118 (rs := [.tmp 4]) Tryz.results118 (by simp) fun w0 => ?_
 refine awp_seq ?_
 refine awp_region 2 mixed (by kernel_rfl) ?_
 refine rg_q (q_box rfl (by exact .inr ⟨_, rfl⟩)) ?_
 refine rg_q (q_a rfl) ?_
 refine rs (awp_region 8 mixed (by kernel_rfl) ?_)
 refine rg_q (q_m rfl) ?_
 refine rg_q (q_loadA (ds := [_, _, _, _, _]) sz150 rfl rfl rfl) ?_
 refine rg_q (q_call en91 (.cons rfl .nil) rfl (fcells_p _ (by assumption))) ?_
 refine rg_q (q_sub rfl rfl (In64.mk (by omega) (by omega))) ?_
 refine rg_q (q_call en89 (.cons rfl (.cons rfl (.cons rfl .nil))) rfl (fwithin_p _ _ _)) ?_
 refine rg_q (q_not rfl) ?_
 refine rg_q (q_call en88 (.cons rfl (.cons rfl .nil)) rfl (fwhen_p _ _)) ?_
 refine rg_q (q_a rfl) ?_
 refine rn ?_
 change Awp _ _ _ _ _
 refine awp_ret ?_
 refine ⟨_, (.cons (.tmp (by exact .d _)) .nil), ?_⟩
 rfl
set_option maxRecDepth 100000 in
theorem fcheckGrid_p (g : Grd) : PC Tryz.prog 87 [.agg (grdC g)] (.v (.int .i64 (ckG g))) := by
 refine pc_of_awpN Tryz.func87 rfl Tryz.ntmps87 (rs := [.tmp 2]) Tryz.results87 (by simp) fun w0 hmine hrnd hpn => ?_
 refine awp_seq ?_
 refine awp_region 2 mixed (by kernel_rfl) ?_
 refine rg_q (q_box rfl (by exact .inr ⟨_, rfl⟩)) ?_
 refine rg_q (q_a rfl) ?_
 refine rn ?_
 change Awp _ _ _ _ _
 refine awp_seq ?_
 refine awp_seq ?_
 refine awp_region 30 mixed (by kernel_rfl) ?_
 refine rg_q (q_fieldAddr fld35_0 rfl) (rg_q (q_fieldAddr fld33_0 rfl) (rg_q (q_load sz3 rfl rfl) ?_))
 refine rg_q (q_call en166 (.cons rfl (.cons rfl .nil)) rfl (fsmall_p _ _ (by omega) (by omega))) ?_
 refine rg_q (q_not rfl) (rg_q (q_m rfl) ?_)
 refine rg_g rfl rfl (fun hG => (q_fieldAddr fld35_0 rfl)) ?_
 refine rg_g rfl rfl (fun hG => (q_fieldAddr fld33_1 rfl)) ?_
 refine rg_g rfl rfl (fun hG => (q_load sz3 rfl rfl)) ?_
 refine rg_g rfl rfl (fun hG => (q_call en166 (.cons rfl (.cons rfl .nil)) rfl (fsmall_p _ _ (by omega) (by omega)))) ?_
 refine rg_g rfl rfl (fun hG => (q_not rfl)) ?_
 refine rg_pick rfl rfl rfl rfl rfl rfl ?_
 refine rg_q (q_m rfl) ?_
 refine rg_g rfl rfl (fun hG => (q_fieldAddr fld35_1 rfl)) ?_
 refine rg_g rfl rfl (fun hG => (q_load sz3 rfl rfl)) ?_
 refine rg_g rfl rfl (fun hG => (q_call en89 (.cons rfl (.cons rfl (.cons rfl .nil))) rfl (fwithin_p _ _ _))) ?_
 refine rg_g rfl rfl (fun hG => (q_not rfl)) ?_
 refine rg_pick rfl rfl rfl rfl rfl rfl ?_
 refine rg_q (q_m rfl) ?_
 refine rg_g rfl rfl (fun hG => (q_fieldAddr fld35_2 rfl)) ?_
 refine rg_g rfl rfl (fun hG => (q_load sz3 rfl rfl)) ?_
 refine rg_g rfl rfl (fun hG => (q_call en89 (.cons rfl (.cons rfl (.cons rfl .nil))) rfl (fwithin_p _ _ _))) ?_
 refine rg_g rfl rfl (fun hG => (q_not rfl)) ?_
 refine rg_pick rfl rfl rfl rfl rfl rfl ?_
 refine rg_q (q_m rfl) ?_
 refine rg_g rfl rfl (fun hG => (q_fieldAddr fld35_3 rfl)) ?_
 refine rg_g rfl rfl (fun hG => (q_load sz3 rfl rfl)) ?_
 refine rg_g rfl rfl (fun hG => (q_call en89 (.cons rfl (.cons rfl (.cons rfl .nil))) rfl (fwithin_p _ _ _))) ?_
 refine rg_g rfl rfl (fun hG => (q_not rfl)) ?_
 refine rg_pick rfl rfl rfl rfl rfl rfl ?_
 refine rn ?_
 change Awp _ _ _ _ _
 refine awp_cond rfl (fun hc1 => ?_) (fun hc1 => ?_)
 ·
  (try simp only [nb, ne_eq] at hc1)
  have hb : grdB g = false := by
   cases q : grdB g with
   | false => rfl
   | true => unfold grdB at q; simp_all
  have hz : ckG g = 2 := by unfold ckG; rw [hb]; rfl
  refine awp_seq ?_
  refine awp_region 1 mixed (by kernel_rfl) ?_
  refine rg_q (q_a rfl) ?_
  refine rn ?_
  change Awp _ _ _ _ _
  refine awp_ret ?_
  refine ⟨_, (.cons (.tmp (by exact .d _)) .nil), ?_⟩
  rw [hz]; (try simp only [bif_or]); rfl
 ·
  (try simp only [nb, ne_eq] at hc1)
  have hb : grdB g = true := by unfold grdB; simp_all
  have hg := grdB_ok hb
  have hci := cells_in hg
  have hz : ckG g = whenI (decide (100000 < (spI g (g.co * g.ro - 1)).1) || decide (100000 < (spI g (g.co * g.ro - 1)).2)) 8 := by unfold ckG; rw [if_pos hb]
  refine awp_skip ?_
  change Awp _ _ _ _ _
  refine awp_seq ?_
  refine awp_region 2 mixed (by kernel_rfl) ?_
  refine rg_q (q_loadA (ds := [_, _, _, _, _]) sz35 rfl rfl rfl) ?_
  refine rg_q (q_build (cs := [_, _, _, _, _]) pl150 zr150 rfl (.cons rfl (by exact .inr ⟨_, rfl⟩) .nil) ⟨⟨rfl, by decide⟩, trivial⟩ rfl) ?_
  refine rg_nil ?_
  refine aops_allocD zr150 rfl sz150 rfl rfl (by exact .inr ⟨_, rfl⟩) rfl rfl ?_
  refine aops_nil ?_
  change Awp _ _ _ _ _
  refine awp_seq ?_
  refine awp_regionM 7 [none, none, none, none, none, some 4, some 4] mixed (by kernel_rfl) ?_
  refine rgm_q rfl (q_loadA (ds := [_, _, _, _, _]) sz150 rfl rfl rfl) ?_
  refine rgm_q rfl (q_loadA (ds := [_, _, _, _, _]) sz150 rfl rfl rfl) ?_
  refine rgm_q rfl (q_call en91 (.cons rfl .nil) rfl (fcells_p _ (by assumption))) ?_
  refine rgm_q rfl (q_sub rfl rfl (In64.mk (by omega) (by omega))) ?_
  refine rgm_q rfl (q_call en90 (.cons rfl (.cons rfl .nil)) rfl (fspot_p _ _ (by assumption) (by omega) (by omega))) ?_
  refine rgm_m (k := 4) rfl rfl (by rfl) (m_alloc zr33 rfl rfl) ?_
  refine rgm_m (k := 4) rfl rfl (by rfl) (m_store sz33 rfl rfl (by exact .inr ⟨_, rfl⟩) rfl rfl (by decide) rfl) ?_
  refine rgm_nil (aops_nil ?_)
  change Awp _ _ _ _ _
  refine awp_seq ?_
  refine awp_region 10 mixed (by kernel_rfl) ?_
  refine rg_q (q_fieldAddr_ref fld33_0 rfl) (rg_q (q_load_ref sz3 rfl rfl rfl) (rg_q (q_gtr rfl rfl) (rg_q (q_m rfl) ?_)))
  refine rg_g rfl rfl (fun hG => (q_fieldAddr_ref fld33_1 rfl)) ?_
  refine rg_g rfl rfl (fun hG => (q_load_ref sz3 rfl rfl rfl)) ?_
  refine rg_g rfl rfl (fun hG => (q_gtr rfl rfl)) ?_
  refine rg_pick rfl rfl rfl rfl rfl rfl ?_
  refine rg_q (q_call en88 (.cons rfl (.cons rfl .nil)) rfl (fwhen_p _ _)) ?_
  refine rg_q (q_a rfl) ?_
  refine rn ?_
  change Awp _ _ _ _ _
  refine awp_ret ?_
  refine ⟨_, (.cons (.tmp (by exact .d _)) .nil), ?_⟩
  rw [hz]; (try simp only [bif_or]); rfl
end Go.Proofs.YtphlaicnmmglhaaGreat.Am.M
-- mini
namespace Go.Proofs.YtphlaicnmmglhaaGreat.Am.M
open Go

structure Tsk where
  ar : Arr
  ne : Int
  bf : List Nat
  g : Grd
def mtxC (ne : Int) (bf : List Nat) : List D := [.v (.int .i64 ne), .sl 1 (bf.map fC)]
def tskC (t : Tsk) : List D := arrC t.ar ++ mtxC t.ne t.bf ++ grdC t.g
structure TskOk (t : Tsk) : Prop where
  ck : (ckArr t.ar).2 = 0
  n1 : 1 ≤ t.ne
  n2 : t.ne ≤ 16
  nl : (t.bf.length : Int) = t.ne * t.ne * 64
  wh : WhlL t.bf
  el : (t.ar.el.length : Int) = t.ne
  gr : ckG t.g = 0
  z1 : 1 ≤ t.g.fz
  z2 : t.g.fz ≤ t.ar.ou.t - 1
  z3 : 1 ≤ (spI t.g (t.g.co * t.g.ro - 1)).2
  z4 : (spI t.g (t.g.co * t.g.ro - 1)).2 ≤ t.ar.ou.t - 1
theorem ckArr_zero {a : Arr} (h : (ckArr a).2 = 0) : ckArr a = (0, 0) := by
  unfold ckArr at h ⊢
  by_cases h1 : a.el.length = 0
  · rw [if_pos h1] at h; cases h
  rw [if_neg h1] at h ⊢
  by_cases h2 : 16 < a.el.length
  · rw [if_pos h2] at h; cases h
  rw [if_neg h2] at h ⊢
  by_cases h3 : (ckEls 0 a.el).2 ≠ 0
  · rw [if_pos h3] at h; exact absurd h h3
  rw [if_neg h3] at h ⊢
  have h4 : arrE0 a = 0 := h
  rw [h4]
set_option maxRecDepth 100000 in
theorem checkTask_p (t : Tsk) (h : TskOk t) : PC Tryz.prog 20 [.agg (tskC t)] (.tup [.v (.int .i64 (0)), .v (.int .i64 (0))]) := by
 have hck := ckArr_zero h.ck
 obtain ⟨hao, _⟩ := ckArr_ok h.ck
 have hn1 := h.n1
 have hn2 := h.n2
 have hnl := h.nl
 have hwh := h.wh
 have hel := h.el
 obtain ⟨hg, hg1, hg2⟩ := ckG_ok h.gr
 have hci := cells_in hg
 have hz1 : inR 1 t.g.fz (t.ar.ou.t - 1) = true := inR_iff.2 ⟨h.z1, h.z2⟩
 have hz2 : inR 1 (spI t.g (t.g.co * t.g.ro - 1)).2 (t.ar.ou.t - 1) = true := inR_iff.2 ⟨h.z3, h.z4⟩
 have hgr := h.gr
 have ht1 := hao.ou.t1
 have ht2 := hao.ou.t2
 refine pc_of_awpN Tryz.func20 rfl Tryz.ntmps20 (rs := [.tmp 2, .tmp 3]) Tryz.results20 (by simp) fun w0 hmine hrnd hpn => ?_
 refine awp_seq ?_
 refine awp_region 3 mixed (by kernel_rfl) ?_
 refine rg_q (q_box rfl (by exact .inr ⟨_, rfl⟩)) ?_
 refine rg_q (q_a rfl) (rg_q (q_a rfl) ?_)
 refine rn ?_
 change Awp _ _ _ _ _
 refine awp_seq ?_
 refine awp_seq ?_
 refine awp_region 8 mixed (by kernel_rfl) ?_
 refine rg_q (q_fieldAddr fld37_0 rfl) ?_
 refine rg_q (q_loadA (ds := [_, _, _, _, _, _, _, _, _, _, _]) sz28 rfl rfl rfl) ?_
 refine rg_q (q_call en85 (.cons rfl .nil) rfl ((by have h := checkArray_p t.ar; rw [hck] at h; exact h))) ?_
 refine rg_q (q_move (x := .d (.tup _)) rfl) (rg_q (q_extract rfl rfl) (rg_q (q_extract rfl rfl) (rg_q (q_a rfl) (rg_q (q_a rfl) ?_))))
 refine rs (awp_region 2 mixed (by kernel_rfl) ?_)
 refine rg_q (q_m rfl) (rg_q (q_neq rfl rfl) ?_)
 refine rn ?_
 change Awp _ _ _ _ _
 refine awp_cond rfl (fun hc2 => ?_) (fun hc2 => ?_)
 ·
  simp at hc2
 ·
  (try simp only [nb, ne_eq] at hc2)
  refine awp_skip ?_
  change Awp _ _ _ _ _
  refine awp_seq ?_
  refine awp_seq ?_
  refine awp_region 8 mixed (by kernel_rfl) ?_
  refine rg_q (q_fieldAddr fld37_1 rfl) ?_
  refine rg_q (q_loadA (ds := [_, _]) sz31 rfl rfl rfl) ?_
  refine rg_q (q_call en86 (.cons rfl .nil) rfl (checkMatrix_p t.ne t.bf hn1 hn2 hnl hwh)) ?_
  refine rg_q (q_move (x := .d (.tup _)) rfl) (rg_q (q_extract rfl rfl) (rg_q (q_extract rfl rfl) (rg_q (q_a rfl) (rg_q (q_a rfl) ?_))))
  refine rs (awp_region 2 mixed (by kernel_rfl) ?_)
  refine rg_q (q_m rfl) (rg_q (q_neq rfl rfl) ?_)
  refine rn ?_
  change Awp _ _ _ _ _
  refine awp_cond rfl (fun hc5 => ?_) (fun hc5 => ?_)
  ·
   simp at hc5
  ·
   (try simp only [nb, ne_eq] at hc5)
   refine awp_skip ?_
   change Awp _ _ _ _ _
   refine awp_seq ?_
   refine awp_seq ?_
   refine awp_region 8 mixed (by kernel_rfl) ?_
   refine rg_q (q_fieldAddr fld37_0 rfl) (rg_q (q_fieldAddr fld28_0 rfl) (rg_q (q_load sz22 rfl rfl) ?_))
   refine rg_q (q_len isl22 rfl (by exact len_map _ _)) ?_
   refine rg_q (q_fieldAddr fld37_1 rfl) (rg_q (q_fieldAddr fld31_0 rfl) (rg_q (q_load sz3 rfl rfl) (rg_q (q_neq rfl rfl) ?_)))
   refine rn ?_
   change Awp _ _ _ _ _
   refine awp_len (t := 32) rfl (fun hl32 => ?_)
   (try simp only [List.length_map] at hl32)
   refine awp_cond rfl (fun hc7 => ?_) (fun hc7 => ?_)
   ·
    rw [decide_eq_true_eq] at hc7
    exact absurd hel hc7
   ·
    (try simp only [nb, ne_eq] at hc7)
    refine awp_skip ?_
    change Awp _ _ _ _ _
    refine awp_seq ?_
    refine awp_seq ?_
    refine awp_region 4 mixed (by kernel_rfl) ?_
    refine rg_q (q_fieldAddr fld37_2 rfl) ?_
    refine rg_q (q_loadA (ds := [_, _, _, _, _]) sz35 rfl rfl rfl) ?_
    refine rg_q (q_call en87 (.cons rfl .nil) rfl ((by have h := fcheckGrid_p t.g; rw [hgr] at h; exact h))) ?_
    refine rg_q (q_a rfl) ?_
    refine rs (awp_region 2 mixed (by kernel_rfl) ?_)
    refine rg_q (q_m rfl) (rg_q (q_neq rfl rfl) ?_)
    refine rn ?_
    change Awp _ _ _ _ _
    refine awp_cond rfl (fun hc10 => ?_) (fun hc10 => ?_)
    ·
     simp at hc10
    ·
     (try simp only [nb, ne_eq] at hc10)
     refine awp_skip ?_
     change Awp _ _ _ _ _
     refine awp_seq ?_
     refine awp_region 3 mixed (by kernel_rfl) ?_
     refine rg_q (q_fieldAddr fld37_2 rfl) ?_
     refine rg_q (q_loadA (ds := [_, _, _, _, _]) sz35 rfl rfl rfl) ?_
     refine rg_q (q_build (cs := [_, _, _, _, _]) pl150 zr150 rfl (.cons rfl (by exact .inr ⟨_, rfl⟩) .nil) ⟨⟨rfl, by decide⟩, trivial⟩ rfl) ?_
     refine rg_nil ?_
     refine aops_allocD zr150 rfl sz150 rfl rfl (by exact .inr ⟨_, rfl⟩) rfl rfl ?_
     refine aops_nil ?_
     change Awp _ _ _ _ _
     refine awp_seq ?_
     refine awp_region 5 mixed (by kernel_rfl) ?_
     refine rg_q (q_fieldAddr fld37_0 rfl) (rg_q (q_fieldAddr fld28_1 rfl) (rg_q (q_fieldAddr fld24_3 rfl) (rg_q (q_load sz3 rfl rfl) (rg_q (q_a rfl) ?_))))
     refine rs (awp_region 23 mixed (by kernel_rfl) ?_)
     refine rg_q (q_fieldAddr fld37_2 rfl) (rg_q (q_fieldAddr fld35_0 rfl) (rg_q (q_fieldAddr fld33_1 rfl) (rg_q (q_load sz3 rfl rfl) (rg_q (q_m rfl) ?_))))
     refine rg_q (q_sub rfl rfl (In64.mk (by omega) (by omega))) ?_
     refine rg_q (q_call en89 (.cons rfl (.cons rfl (.cons rfl .nil))) rfl (fwithin_p _ _ _)) ?_
     refine rg_q (q_not rfl) (rg_q (q_m rfl) ?_)
     refine rg_g rfl rfl (fun hG => (q_loadA (ds := [_, _, _, _, _]) sz150 rfl rfl rfl)) ?_
     refine rg_g rfl rfl (fun hG => (q_loadA (ds := [_, _, _, _, _]) sz150 rfl rfl rfl)) ?_
     refine rg_g rfl rfl (fun hG => (q_call en91 (.cons rfl .nil) rfl (fcells_p _ (by assumption)))) ?_
     refine rg_g rfl rfl (fun hG => (q_sub rfl rfl (In64.mk (by (have hg0 := T.bool_inj (a := _) hG.1; (try simp only [nb, ne_eq] at hg0); omega)) (by (have hg0 := T.bool_inj (a := _) hG.1; (try simp only [nb, ne_eq] at hg0); omega))))) ?_
     refine rg_g rfl rfl (fun hG => (q_call en90 (.cons rfl (.cons rfl .nil)) rfl (fspot_p _ _ (by assumption) (by omega) (by omega)))) ?_
     refine rg_g rfl rfl (fun hG => (q_field fd33_1 sz3 rfl rfl)) ?_
     refine rg_g rfl rfl (fun hG => (q_m rfl)) ?_
     refine rg_g rfl rfl (fun hG => (q_sub rfl rfl (In64.mk (by (have hg0 := T.bool_inj (a := _) hG.1; (try simp only [nb, ne_eq] at hg0); omega)) (by (have hg0 := T.bool_inj (a := _) hG.1; (try simp only [nb, ne_eq] at hg0); omega))))) ?_
     refine rg_g rfl rfl (fun hG => (q_call en89 (.cons rfl (.cons rfl (.cons rfl .nil))) rfl (fwithin_p _ _ _))) ?_
     refine rg_g rfl rfl (fun hG => (q_not rfl)) ?_
     refine rg_pick rfl rfl rfl rfl rfl rfl ?_
     refine rg_q (q_call en88 (.cons rfl (.cons rfl .nil)) rfl (fwhen_p _ _)) ?_
     refine rg_q (q_a rfl) (rg_q (q_a rfl) ?_)
     refine rn ?_
     change Awp _ _ _ _ _
     refine awp_ret ?_
     refine ⟨_, (.cons (.tmp (by exact .d _)) (.cons (.tmp (by exact .d _)) .nil)), ?_⟩
     simp [whenI, hz1, hz2, retD]
end Go.Proofs.YtphlaicnmmglhaaGreat.Am.M
-- mini
namespace Go.Proofs.YtphlaicnmmglhaaGreat.Am.M
open Go

def chK (l : List Nat) (i : Nat) : List Nat := (l.take (64 * i + 64)).drop (64 * i)
def chF (l : List Nat) (i : Nat) : List (List Nat) := (List.range i).map (chK l)
def encK (b : List Nat) : List D := [.sl 1 (b.map fC)]
theorem chF_succ (l : List Nat) (i : Nat) : chF l (i + 1) = chF l i ++ [chK l i] := by unfold chF; rw [List.range_succ, List.map_append]; rfl
theorem chF_pre {l : List Nat} {i : Nat} : ∀ {m : Nat}, i ≤ m → chF l i <+: chF l m
  | 0, h => by have : i = 0 := by omega
               subst this; exact List.prefix_rfl
  | m + 1, h => by
    by_cases e : i = m + 1
    · subst e; exact List.prefix_rfl
    · rw [chF_succ]; exact (chF_pre (show i ≤ m by omega)).trans (List.prefix_append _ _)
theorem chK_len {l : List Nat} {i m : Nat} (h : l.length = 64 * m) (hi : i < m) : (chK l i).length = 64 := by
  unfold chK
  rw [List.length_drop, List.length_take]; omega
theorem chK_row (l : List Nat) (i : Nat) : ((l.map fC).take (64 * i + 64)).drop (64 * i) = (chK l i).map fC := by unfold chK; rw [List.map_drop, List.map_take]
theorem chK_wh {l : List Nat} (h : WhlL l) (i : Nat) : WhlL (chK l i) := fun b hb => h b (List.mem_of_mem_take (List.mem_of_mem_drop hb))
set_option maxRecDepth 100000 in
theorem chunk_i (l : List Nat) (m : Nat) (h1 : l.length = 64 * m) (h2 : m ≤ 10000) : PI Tryz.prog 216 [] [.pt [.sl 1 (l.map fC)] 0, .pt [.v (.int .i64 (64))] 0] (encK) (chF l m) true := by
  refine pi_of_iwp Tryz.func216 rfl Tryz.ntmps216 rfl rfl fun J c l0 hJ hy hdat hfin => ?_
  refine iwp_seq ?_
  apply iwp_reg hJ
  ·
    intro c1 hmine hrnd
    refine awp_region 1 mixed (by kernel_rfl) ?_
    refine rg_q (q_a rfl) ?_
    refine rn ?_
    exact ⟨rfl, rfl⟩
  change Iwp _ _ _ _ _ _ _
  refine iwp_block ?_
  refine iwp_loopH [4, 5, 6, 7, 8, 9, 10, 11, 12, 13, 14, 15, 16, 17, 18, 19, 20, 21, 22, 23, 24, 25, 26, 27, 28, 29, 30] [] (β := Nat) (fun i => [(4, T.i ((64 * i : Nat) : Int))]) (fun i => []) (fun i => (true, chF l i)) (fun i => i ≤ m) (fun i => m - i) 0 (Nat.zero_le _) rfl (fun c1 => ?_) ?_
  · exact le_head (ms := []) (by repeat (exact Out.refl _)) ⟨(by rfl), trivial⟩ trivial rfl rfl rfl rfl
  ·
    intro i hi
    refine iwp_seq ?_
    refine iwp_seq ?_
    apply iwp_reg hJ
    ·
      intro c1 hmine hrnd
      refine awp_region 4 mixed (by kernel_rfl) ?_
      refine rg_q (q_m rfl) (rg_q (q_load sz29 rfl rfl) ?_)
      refine rg_q (q_len isl29 rfl (by exact len_map _ _)) ?_
      refine rg_q (q_lss rfl rfl) ?_
      refine rn ?_
      exact ⟨rfl, rfl⟩
    change Iwp _ _ _ _ _ _ _
    refine iwp_len (t := 7) rfl (fun hl7 => ?_)
    (try simp only [List.length_map] at hl7)
    refine iwp_cond rfl (fun hc1 => ?_) (fun hc1 => ?_)
    ·
      (try simp only [nb, ne_eq] at hc1)
      have hlt : i < m := by omega
      have hpre : chF l i ++ [chK l i] <+: chF l m := by rw [← chF_succ]; exact chF_pre hlt
      have hmn : min (64 : Int) ((List.drop (64 * i) (List.take (l.map fC).length l)).length : Int) = 64 := by rw [List.length_map, List.take_length, List.length_drop]; omega
      have hpl : ((64 * i : Nat) : Int) + 64 = ((64 * i + 64 : Nat) : Int) := by omega
      refine iwp_skip ?_
      change Iwp _ _ _ _ _ _ _
      refine iwp_seq ?_
      refine iwp_block ?_
      refine iwp_seq ?_
      apply iwp_reg hJ
      ·
        intro c1 hmine hrnd
        refine awp_region 7 mixed (by kernel_rfl) ?_
        refine rg_q (q_load sz3 rfl rfl) (rg_q (q_load sz29 rfl rfl) (rg_q (q_m rfl) ?_))
        refine rg_q (q_slice sl29 rfl rfl rfl (by rw [List.length_map]; omega) (Nat.le_refl _) (by exact map_slice _ _ _ _)) ?_
        refine rg_q (q_len isl29 rfl (by exact len_map _ _)) ?_
        refine rg_q (q_min rfl rfl) ?_
        refine rg_q (q_a rfl) ?_
        refine rn ?_
        exact ⟨rfl, rfl⟩
      change Iwp _ _ _ _ _ _ _
      refine iwp_len (t := 16) rfl (fun hl16 => ?_)
      (try simp only [List.length_map] at hl16)
      refine iwp_seq ?_
      rw [hmn]
      refine iwp_region ?_
      refine iops_of hJ rfl (fun c1 _ _ _ h => by exact aops_q rfl ((q_move (x := .d (.fn _ _)) rfl)) h) ?_
      refine iops_of hJ rfl (fun c1 _ _ _ h => by exact aops_q rfl ((q_load sz29 rfl rfl)) h) ?_
      refine iops_of hJ rfl (fun c1 _ _ _ h => by exact aops_q rfl ((q_m rfl)) h) ?_
      refine iops_of hJ rfl (fun c1 _ _ _ h => by exact aops_q rfl ((q_m rfl)) h) ?_
      refine iops_of hJ rfl (fun c1 _ _ _ h => by exact aops_q rfl ((q_m rfl)) h) ?_
      refine iops_of hJ rfl (fun c1 _ _ _ h => by exact aops_q rfl ((q_add rfl rfl (In64.mk (by omega) (by omega)))) h) ?_
      refine iops_of hJ rfl (fun c1 _ _ _ h => by exact aops_q rfl ((q_m rfl)) h) ?_
      refine iops_of hJ rfl (fun c1 _ _ _ h => by exact aops_q rfl ((q_m rfl)) h) ?_
      refine iops_of hJ rfl (fun c1 _ _ _ h => by exact aops_q rfl ((q_add rfl rfl (In64.mk (by omega) (by omega)))) h) ?_
      rw [hpl]
      refine iops_of hJ rfl (fun c1 _ _ _ h => by exact aops_q rfl ((q_slice3d (lo := 64 * i) (hi := 64 * i + 64) (es' := (chK l i).map fC) sl29 rfl rfl rfl rfl (by omega) (by rw [List.length_map]; omega) (chK_row l i))) h) ?_
      refine iops_yield (x := (chK l i)) hy hdat rfl (.cons rfl .nil) hpre rfl (fun yb => ?_)
      refine iops_of hJ rfl (fun c1 _ _ _ h => by exact aops_q rfl ((q_not rfl)) h) ?_
      refine iops_nil ?_
      change Iwp _ _ _ _ _ _ _
      refine iwp_cond rfl (fun hc4 => ?_) (fun hc4 => ?_)
      ·
        (try simp only [nb, ne_eq] at hc4)
        have hyb : yb = false := by cases yb <;> first | rfl | (exfalso; simp_all; done)
        refine iwp_ret ?_
        exact ⟨.inl rfl, fun h => by rw [hyb] at h; cases h⟩
      ·
        (try simp only [nb, ne_eq] at hc4)
        have hyb : yb = true := by cases yb <;> first | rfl | (exfalso; simp_all; done)
        refine iwp_skip ?_
        change Iwp _ _ _ _ _ _ _
        apply iwp_reg hJ
        ·
          intro c1 hmine hrnd
          refine awp_region 4 mixed (by kernel_rfl) ?_
          refine rg_q (q_m rfl) (rg_q (q_load sz3 rfl rfl) ?_)
          refine rg_q (q_add rfl rfl (In64.mk (by omega) (by omega))) ?_
          refine rg_q (q_a rfl) ?_
          refine rn ?_
          exact ⟨rfl, rfl⟩
        refine ⟨i + 1, by omega, by omega, by rw [hyb, chF_succ], fun c1 => ?_⟩
        exact le_head (ms := []) (by repeat (first | exact Out.head rfl rfl | (refine Out.put ?_ rfl))) ⟨(by rfl), trivial⟩ trivial rfl rfl rfl rfl
    ·
      (try simp only [nb, ne_eq] at hc1)
      have him : i = m := by omega
      refine iwp_exit ?_
      exact ⟨.inr rfl, fun _ => by rw [him]⟩
end Go.Proofs.YtphlaicnmmglhaaGreat.Am.M
-- mini
namespace Go.Proofs.YtphlaicnmmglhaaGreat.Am.M
open Go
set_option maxRecDepth 100000 in
theorem chunk_p (l : List Nat) : PC Tryz.prog 141 [.sl 1 (l.map fC), .v (.int .i64 (64))] (.fn (.func 216) [.pt [.sl 1 (l.map fC)] 0, .pt [.v (.int .i64 (64))] 0]) := by
 refine pc_of_awp Tryz.func141 rfl Tryz.ntmps141 (rs := [.tmp 4]) Tryz.results141 (by simp) fun w0 => ?_
 refine awp_seq ?_
 refine awp_region 3 mixed (by kernel_rfl) ?_
 refine rg_q (q_box rfl (by exact .inl rfl)) ?_
 refine rg_q (q_box rfl (by exact .inl rfl)) ?_
 refine rg_q (q_assign (x := .d (.v .nilFunc)) rfl) ?_
 refine rn ?_
 change Awp _ _ _ _ _
 refine awp_seq ?_
 refine awp_seq ?_
 refine awp_region 2 mixed (by kernel_rfl) ?_
 refine rg_q (q_load sz3 rfl rfl) (rg_q (q_lss rfl rfl) ?_)
 refine rn ?_
 change Awp _ _ _ _ _
 refine awp_cond rfl (fun hc1 => ?_) (fun hc1 => ?_)
 ·
  cases hc1
 ·
  (try simp only [nb, ne_eq] at hc1)
  refine awp_skip ?_
  change Awp _ _ _ _ _
  refine awp_seq ?_
  refine awp_region 2 mixed (by kernel_rfl) ?_
  refine rg_q (q_makeFunc (.cons rfl (.cons rfl .nil))) ?_
  refine rg_q (q_assign (x := .d (.fn _ _)) rfl) ?_
  refine rn ?_
  change Awp _ _ _ _ _
  refine awp_ret ?_
  refine ⟨_, (.cons (.tmp (by exact .d _)) .nil), ?_⟩
  rfl

def tkM (t : Tsk) : Nat := (t.ne * t.ne).toNat
def smR (l : List Nat) (i : Nat) : List (List D) := (chF l i).map fun b => anL (b.map vI)
def tkC (t : Tsk) : List D := grdC t.g ++ arrC t.ar ++ [.v (.int .i64 t.ne), .sl 61 (smR t.bf (tkM t))]
theorem smR_succ (l : List Nat) (i : Nat) : smR l (i + 1) = smR l i ++ [anL ((chK l i).map vI)] := by unfold smR; rw [chF_succ, List.map_append]; rfl
theorem smR_len (l : List Nat) (i : Nat) : (smR l i).length = i := by unfold smR chF; rw [List.length_map, List.length_map, List.length_range]
theorem anL_flat (S : List Int) : ∀ d ∈ anL S, D.Flat d := by
  intro d hd
  unfold anL at hd
  obtain ⟨k, _, rfl⟩ := List.mem_map.1 hd
  exact .v _
theorem smR_flat (l : List Nat) (i : Nat) : ∀ x ∈ smR l i, ∀ d ∈ x, D.Flat d := by
  intro x hx d hd
  unfold smR at hx
  obtain ⟨b, _, rfl⟩ := List.mem_map.1 hx
  exact anL_flat _ d hd
theorem tsk_len {t : Tsk} (h : TskOk t) : t.bf.length = 64 * tkM t ∧ tkM t ≤ 256 ∧ ((tkM t : Nat) : Int) = t.ne * t.ne := by
  have h1 := h.n1
  have h2 := h.n2
  have h3 := h.nl
  have hm := mulb (a := t.ne) (b := t.ne) (A := 16) (B := 16) (by omega) (by omega) (by omega) (by omega)
  have hp := Int.mul_nonneg (show 0 ≤ t.ne by omega) (show 0 ≤ t.ne by omega)
  unfold tkM
  omega
theorem chF_at {l : List Nat} {m k : Nat} {y : List Nat} (h : (chF l m)[k]? = some y) : k < m ∧ y = chK l k := by
  unfold chF at h
  rw [List.getElem?_map] at h
  cases hr : (List.range m)[k]? with
  | none => rw [hr] at h; cases h
  | some j =>
    rw [hr] at h
    obtain ⟨h1, h2⟩ := List.getElem?_eq_some_iff.1 hr
    rw [List.length_range] at h1
    rw [List.getElem_range] at h2
    subst h2
    cases h
    exact ⟨h1, rfl⟩
set_option maxRecDepth 100000 in
theorem open_p (t : Tsk) (h : TskOk t) : PC Tryz.prog 112 [.agg (tskC t)] (.tup [.pt (tkC t) 0, .v (.int .i64 (0))]) := by
  have hck := ckArr_zero h.ck
  obtain ⟨hao, _⟩ := ckArr_ok h.ck
  have hn1 := h.n1
  have hn2 := h.n2
  have hnl := h.nl
  have hwh := h.wh
  have hel := h.el
  obtain ⟨hg, hg1, hg2⟩ := ckG_ok h.gr
  have hci := cells_in hg
  have hz1 : inR 1 t.g.fz (t.ar.ou.t - 1) = true := inR_iff.2 ⟨h.z1, h.z2⟩
  have hz2 : inR 1 (spI t.g (t.g.co * t.g.ro - 1)).2 (t.ar.ou.t - 1) = true := inR_iff.2 ⟨h.z3, h.z4⟩
  have hgr := h.gr
  have ht1 := hao.ou.t1
  have ht2 := hao.ou.t2
  obtain ⟨hb1, hb2, hb3⟩ := tsk_len h
  refine pc_of_awpN Tryz.func112 rfl Tryz.ntmps112 (rs := [.tmp 2, .tmp 3]) Tryz.results112 (by simp) fun w0 hmine hrnd hpn => ?_
  refine awp_seq ?_
  refine awp_region 3 mixed (by kernel_rfl) ?_
  refine rg_q (q_box rfl (by exact .inr ⟨_, rfl⟩)) ?_
  refine rg_q (q_a rfl) (rg_q (q_a rfl) ?_)
  refine rn ?_
  change Awp _ _ _ _ _
  refine awp_seq ?_
  refine awp_seq ?_
  refine awp_region 7 mixed (by kernel_rfl) ?_
  refine rg_q (q_loadA sz37 rfl rfl rfl) ?_
  refine rg_q (q_call en20 (.cons rfl .nil) rfl (checkTask_p t h)) ?_
  refine rg_q (q_move (x := .d (.tup _)) rfl) (rg_q (q_extract rfl rfl) (rg_q (q_extract rfl rfl) (rg_q (q_a rfl) (rg_q (q_a rfl) ?_))))
  refine rs (awp_region 2 mixed (by kernel_rfl) ?_)
  refine rg_q (q_m rfl) (rg_q (q_neq rfl rfl) ?_)
  refine rn ?_
  change Awp _ _ _ _ _
  refine awp_cond rfl (fun hc2 => ?_) (fun hc2 => ?_)
  ·
    simp at hc2
  ·
    (try simp only [nb, ne_eq] at hc2)
    refine awp_skip ?_
    change Awp _ _ _ _ _
    refine awp_seq ?_
    refine awp_region 9 mixed (by kernel_rfl) ?_
    refine rg_q (q_fieldAddr fld37_2 rfl) ?_
    refine rg_q (q_loadA (ds := [_, _, _, _, _]) sz35 rfl rfl rfl) ?_
    refine rg_q (q_build (cs := [_, _, _, _, _]) pl150 zr150 rfl (.cons rfl (by exact .inr ⟨_, rfl⟩) .nil) ⟨⟨rfl, by decide⟩, trivial⟩ rfl) ?_
    refine rg_q (q_fieldAddr fld37_0 rfl) ?_
    refine rg_q (q_loadA (ds := [_, _, _, _, _, _, _, _, _, _, _]) sz28 rfl rfl rfl) ?_
    refine rg_q (q_fieldAddr fld37_1 rfl) (rg_q (q_fieldAddr fld31_0 rfl) (rg_q (q_load sz3 rfl rfl) ?_))
    refine rg_q (q_build pl202 zr202 rfl (.cons rfl (by exact .inr ⟨_, rfl⟩) (.cons rfl (by exact .inr ⟨_, rfl⟩) (.cons rfl (by exact .inl rfl) .nil))) ⟨⟨rfl, by decide⟩, ⟨rfl, by decide⟩, ⟨rfl, by decide⟩, trivial⟩ rfl) ?_
    refine rg_nil ?_
    refine aops_box rfl (by exact .inr ⟨_, rfl⟩) rfl rfl rfl ?_
    refine aops_alloc zr156 rfl rfl rfl ?_
    refine aops_le (le_tbox (k := 6) (ts := [_]) rfl rfl) ?_
    refine aops_storeT (z := .ref _ _) sz156 rfl rfl rfl rfl (by decide) rfl ?_
    refine aops_nil ?_
    change Awp _ _ _ _ _
    refine awp_seq ?_
    refine awp_seq ?_
    refine awp_region 4 mixed (by kernel_rfl) ?_
    refine rg_q (q_fieldAddr fld37_1 rfl) (rg_q (q_fieldAddr fld31_1 rfl) (rg_q (q_load sz29 rfl rfl) ?_))
    refine rg_q (q_call en141 (.cons rfl (.cons rfl .nil)) rfl (chunk_p t.bf)) ?_
    refine rn ?_
    change Awp _ _ _ _ _
    refine awp_block ?_
    refine Awp.le (le_ownB 27 47 17 273 61 rfl rfl rfl) ?_
    refine awp_rangeHC (α := List Nat) (β := Nat) (n := 51) (enc := encK) (items := chF t.bf (tkM t)) 1000 [(6, .ref 6 0), (31, .d (.fn (.func 216) [.pt [.sl 1 (t.bf.map fC)] 0, .pt [.v (.int .i64 (64))] 0]))] (fun x => [(6, .tbox [.ref 27 0]), (27, .tbox [.d (.v (.int .i64 (t.g.fx))), .d (.v (.int .i64 (t.g.fz))), .d (.v (.int .i64 (t.g.co))), .d (.v (.int .i64 (t.g.ro))), .d (.v (.int .i64 (t.g.st))), .d (.sl 2 (t.ar.el.map shC)), .d (.v (.int .i64 (t.ar.ou.w))), .d (.v (.int .i64 (t.ar.ou.m))), .d (.v (.int .i64 (t.ar.ou.k))), .d (.v (.int .i64 (t.ar.ou.t))), .d (.v (.int .i64 (t.ar.ba.w))), .d (.v (.int .i64 (t.ar.ba.m))), .d (.v (.int .i64 (t.ar.ba.k))), .d (.v (.int .i64 (t.ar.ba.t))), .d (.v (.int .i64 (t.ar.ts.1))), .d (.v (.int .i64 (t.ar.ts.2))), .d (.v (.int .i64 (t.ne))), .rs 47]), (47, .row 273 61 (smR t.bf x))]) (fun k x => x = k) (fun e x => False) 0 27 5 (.sl 2 (t.ar.el.map shC)) hrnd ?_ (.inr ⟨rfl, rfl⟩) en216 (chunk_i t.bf (tkM t) hb1 (by omega)) rfl (fun _ => rfl) rfl (fun u x => fsl_mem (fsl_cons (fst_tbox (by repeat (first | exact ftl_nil | refine ftl_cons (by trivial) ?_))) (fsl_cons (fst_tbox (by repeat (first | exact ftl_nil | refine ftl_cons (by first | exact D.Flat.v _ | trivial) ?_))) (fsl_cons (smR_flat _ _) fsl_nil)))) (fun x => ⟨_, rfl, rfl⟩) (fun _ => rfl) rfl (fun h => by cases h) ?_ ?_ ?_
    · exact le_cst (fun k => k) _ _ rfl ⟨(by first | rfl), (by first | rfl), trivial⟩ ⟨(by first | rfl), (by first | rfl), (by first | rfl), trivial⟩ rfl (fun k b h => by rw [hpn k] at h; cases h)
    ·
      intro u w1 hw1 k x y hI hy
      subst hI
      obtain ⟨hlt, rfl⟩ := chF_at hy
      have hlk := chK_len hb1 hlt
      have hwk := chK_wh hwh x
      have hsl := smR_len t.bf x
      have hs1 : smR t.bf x ++ [anL ((chK t.bf x).map vI)] = smR t.bf (x + 1) := (smR_succ _ _).symm
      refine awp_region 1 mixed (by kernel_rfl) ?_
      refine rg_q (q_assign (x := .d (.sl _ _)) rfl) ?_
      refine rn ?_
      refine ⟨rfl, fun w2 hw2 => ?_⟩
      refine awp_block ?_
      refine awp_seq ?_
      refine awp_region 7 mixed (by kernel_rfl) ?_
      refine rg_q (q_move (x := .d (.sl _ _)) rfl) ?_
      refine rg_q (q_toArr (cs := (chK t.bf x).map fd) ar236 rfl (fd_row _).symm (by rw [List.length_map]; exact hlk) (by decide)) ?_
      refine rg_q (q_loadA (ds := (chK t.bf x).map fd) sz236 rfl (by rw [List.drop_zero]; exact List.take_of_length_le (by rw [List.length_map, hlk]; exact Nat.le_refl _)) (by rw [List.length_map]; exact hlk)) ?_
      refine rg_q (q_call en180 (.cons rfl .nil) rfl (analytic_p (chK t.bf x) hlk hwk)) ?_
      refine rg_q (q_move (x := .d (.tup _)) rfl) (rg_q (q_extract rfl rfl) (rg_q (q_extract rfl rfl) ?_))
      refine rg_nil ?_
      refine aops_allocD zr272 rfl sz272 rfl rfl (by exact .inr ⟨_, rfl⟩) (anL_len _) rfl ?_
      refine aops_q rfl (q_a rfl) ?_
      refine aops_nil ?_
      change Awp _ _ _ _ _
      refine awp_regionL 7 1 [0] mixed (by kernel_rfl) ?_
      refine rg_q (q_load_tb (x := .ref _ _) sz156 rfl rfl rfl) ?_
      refine rg_q (q_load_tb (x := .ref _ _) sz156 rfl rfl rfl) ?_
      refine rg_q (q_nilCheck_ref rfl) (rg_q (q_fieldAddr_ref fld202_3 rfl) ?_)
      refine rg_q (q_load_tb (x := .rs _) sz200 rfl rfl rfl) ?_
      refine rg_q (q_loadA sz272 rfl rfl rfl) ?_
      refine rg_q (q_buildSlice sl200 zr273 rfl rfl (by decide) (.cons rfl (by exact .inr ⟨_, rfl⟩) .nil) ⟨rfl, rfl, trivial⟩ rfl (by decide) rfl) ?_
      refine rg_nil ?_
      refine late_grow (c_append sl200 zr273 by273 rfl (by decide) rfl rfl rfl rfl (by (try simp only [List.length_map, List.length_append, List.length_cons, List.length_nil]); omega) (by (try simp only [List.length_map, List.length_append, List.length_cons, List.length_nil]); omega) rfl) ?_ ?_
      · refine fl_cons rfl rfl rfl (c_q (q_load_tb (x := .ref _ _) sz156 rfl rfl rfl)) ?_
        exact fl_nil
      refine late_nil ?_
      refine aops_q rfl (q_nilCheck_ref rfl) ?_
      refine aops_q rfl (q_fieldAddr_ref fld202_3 rfl) ?_
      refine aops_storeT (z := .rs _) sz200 rfl rfl rfl rfl (by simp) rfl ?_
      refine aops_nil ?_
      refine .inl ⟨rfl, x + 1, rfl, ?_⟩
      exact le_round [] _ hw2 rfl ⟨(by rfl), (by rfl), (by (show Site.row _ _ _ = Site.row _ _ _; rw [← hs1]; rfl)), trivial⟩ rfl
    ·
      intro x hI
      have hI2 : x = tkM t := by rw [hI]; unfold chF; rw [List.length_map, List.length_range]
      subst hI2
      change Awp _ _ _ _ _
      refine awp_seq ?_
      refine Awp.le (le_freezeTB 27 47 17 rfl rfl rfl rfl hmine) ?_
      refine Awp.le (le_boxT 27 (tkC t) rfl rfl (by intro j d h; match j, h with | 0, h | 1, h | 2, h | 3, h | 4, h | 5, h | 6, h | 7, h | 8, h | 9, h | 10, h | 11, h | 12, h | 13, h | 14, h | 15, h | 16, h | 17, h => cases h; rfl)) ?_
      refine awp_region 3 mixed (by kernel_rfl) ?_
      refine rg_q (q_load_tb (x := .ref _ _) sz156 rfl rfl rfl) ?_
      refine rg_q (q_assign (x := .ref _ _) rfl) (rg_q (q_a rfl) ?_)
      refine rn ?_
      change Awp _ _ _ _ _
      refine Awp.le (le_freeze 27 2 0 (cs := tkC t) rfl rfl rfl rfl hmine) ?_
      refine awp_ret ?_
      refine ⟨_, (.cons (.tmp (by exact .d _)) (.cons (.tmp (by exact .d _)) .nil)), ?_⟩
      rfl
    ·
      exact fun e x h => h.elim
end Go.Proofs.YtphlaicnmmglhaaGreat.Am.M
-- mini
namespace Go.Proofs.YtphlaicnmmglhaaGreat.Am.M
open Go

def oprE (t : Tsk) (c : Int) (pr : Int × Int) : Int := firstE [clE t.g c, whenI (!inR 0 pr.1 (t.ne - 1) || !inR 0 pr.2 (t.ne - 1)) 6]
theorem oprE_zero {t : Tsk} {c : Int} (h : 1 ≤ t.ne) : oprE t c (0, 0) = clE t.g c := by
  have e : inR 0 (0 : Int) (t.ne - 1) = true := inR_iff.2 ⟨by omega, by omega⟩
  unfold oprE
  rw [e]
  show (if clE t.g c = 0 then firstE [0] else clE t.g c) = _
  split
  · rename_i q; rw [q]; rfl
  · rfl
theorem clE_ok {g : Grd} {c : Int} (h : clE g c = 0) : 0 ≤ c ∧ c ≤ g.co * g.ro - 1 := by
  unfold clE at h
  rw [when_zero (by decide), Bool.not_eq_false'] at h
  exact inR_iff.1 h
theorem sp_last {g : Grd} (hg : GrdOk g) : spI g (g.co * g.ro - 1) = (g.fx + (g.co - 1) * g.st, g.fz + (g.ro - 1) * g.st) := by
  have hc := hg.c1
  have hr := hg.r1
  have hci := (cells_in hg).1
  have e : g.co * g.ro - 1 = (g.co - 1) + (g.ro - 1) * g.co := by grind
  unfold spI
  rw [Int.tmod_eq_emod_of_nonneg (by omega), Int.tdiv_eq_ediv_of_nonneg (by omega), e, Int.add_mul_emod_self_right, Int.emod_eq_of_lt (by omega) (by omega), Int.add_mul_ediv_right _ _ (by omega), Int.ediv_eq_zero_of_lt (by omega) (by omega), Int.zero_add]
theorem sp_in {t : Tsk} (h : TskOk t) {c : Int} (h1 : 0 ≤ c) (h2 : c ≤ t.g.co * t.g.ro - 1) : (-100000 ≤ (spI t.g c).1 ∧ (spI t.g c).1 ≤ 100000) ∧ (-100000 ≤ (spI t.g c).2 ∧ (spI t.g c).2 ≤ 100000) ∧ 1 ≤ (spI t.g c).2 ∧ (spI t.g c).2 ≤ t.ar.ou.t - 1 := by
  obtain ⟨hg, hg1, hg2⟩ := ckG_ok h.gr
  have z1 := h.z1
  have z4 := h.z4
  rw [sp_last hg] at hg1 hg2 z4
  simp only at hg1 hg2 z4
  obtain ⟨x1, x2, w1, w2, c1, c2, r1, r2, s1, s2⟩ := hg
  obtain ⟨m1, m2⟩ := tmodP_in h1 c1
  obtain ⟨d1, d2⟩ := tdivP_in h1 c1
  have d3 : c.tdiv t.g.co ≤ t.g.ro - 1 := by
    rw [Int.tdiv_eq_ediv_of_nonneg h1]
    have := Int.ediv_lt_of_lt_mul (a := c) (b := t.g.ro) (c := t.g.co) (by omega) (by rw [Int.mul_comm]; omega)
    omega
  have a1 := Int.mul_le_mul_of_nonneg_right (show c.tmod t.g.co ≤ t.g.co - 1 by omega) (show 0 ≤ t.g.st by omega)
  have a2 := Int.mul_le_mul_of_nonneg_right d3 (show 0 ≤ t.g.st by omega)
  have a3 := Int.mul_nonneg m1 (show 0 ≤ t.g.st by omega)
  have a4 := Int.mul_nonneg d1 (show 0 ≤ t.g.st by omega)
  unfold spI
  simp only
  omega
theorem op_zero {t : Tsk} (h : TskOk t) {c : Int} {pr : Int × Int} (hc : clE t.g c = 0) (hp : (0 ≤ pr.1 ∧ pr.1 < t.ne) ∧ 0 ≤ pr.2 ∧ pr.2 < t.ne) : opE t.ar (spI t.g c) pr = 0 := by
  obtain ⟨c1, c2⟩ := clE_ok hc
  obtain ⟨i1, i2, i3, i4⟩ := sp_in h c1 c2
  have hel := h.el
  unfold opE
  rw [if_neg (fun q => q h.ck)]
  refine first_zero.2 ?_
  simp only [List.mem_cons, List.not_mem_nil, or_false, forall_eq_or_imp, forall_eq]
  refine ⟨spot_ok.2 ⟨i1, i2⟩, (must_zero (by decide)).2 (inR_iff.2 ⟨i3, i4⟩), ?_⟩
  unfold pairE
  rw [hel, when_zero (by decide), inR_iff.2 ⟨hp.1.1, by omega⟩, inR_iff.2 ⟨hp.2.1, by omega⟩]; rfl
set_option maxRecDepth 100000 in
theorem openPair_p (t : Tsk) (c : Int) (pr : Int × Int) (h : TskOk t) : PC Tryz.prog 108 [.agg (tskC t), .v (.int .i64 (c)), .agg (shC pr)] (.tup [.pt (tkC t) 0, .v (.int .i64 (oprE t c pr))]) := by
 have hn1 := h.n1
 have hn2 := h.n2
 obtain ⟨hg, _, _⟩ := ckG_ok h.gr
 refine pc_of_awpN Tryz.func108 rfl Tryz.ntmps108 (rs := [.tmp 6, .tmp 7]) Tryz.results108 (by simp) fun w0 hmine hrnd hpn => ?_
 refine awp_seq ?_
 refine awp_region 4 mixed (by kernel_rfl) ?_
 refine rg_q (q_box rfl (by exact .inr ⟨_, rfl⟩)) ?_
 refine rg_q (q_box rfl (by exact .inr ⟨_, rfl⟩)) ?_
 refine rg_q (q_a rfl) (rg_q (q_a rfl) ?_)
 refine rs (awp_region 7 mixed (by kernel_rfl) ?_)
 refine rg_q (q_loadA sz37 rfl rfl rfl) ?_
 refine rg_q (q_call en112 (.cons rfl .nil) rfl (open_p t h)) ?_
 refine rg_q (q_move (x := .d (.tup _)) rfl) (rg_q (q_extract rfl rfl) (rg_q (q_extract rfl rfl) (rg_q (q_assign (x := .d (.pt _ _)) rfl) (rg_q (q_a rfl) ?_))))
 refine rn ?_
 change Awp _ _ _ _ _
 refine awp_seq ?_
 refine awp_seq ?_
 refine awp_region 2 mixed (by kernel_rfl) ?_
 refine rg_q (q_m rfl) (rg_q (q_neq rfl rfl) ?_)
 refine rn ?_
 change Awp _ _ _ _ _
 refine awp_cond rfl (fun hc2 => ?_) (fun hc2 => ?_)
 ·
  simp at hc2
 ·
  (try simp only [nb, ne_eq] at hc2)
  refine awp_skip ?_
  change Awp _ _ _ _ _
  refine awp_seq ?_
  refine awp_region 6 mixed (by kernel_rfl) ?_
  refine rg_q (q_move (x := .d (.pt _ _)) rfl) (rg_q (q_nilCheck rfl) (rg_q (q_fieldAddr fld202_2 rfl) (rg_q (q_load sz3 rfl rfl) ?_)))
  refine rg_q (q_sub rfl rfl (In64.mk (by omega) (by omega))) ?_
  refine rg_q (q_a rfl) ?_
  refine rs (awp_region 24 mixed (by kernel_rfl) ?_)
  refine rg_q (q_move (x := .d (.pt _ _)) rfl) (rg_q (q_move (x := .d (.pt _ _)) rfl) (rg_q (q_nilCheck rfl) (rg_q (q_fieldAddr fld202_0 rfl) ?_)))
  refine rg_q (q_loadA (ds := [_, _, _, _, _]) sz150 rfl rfl rfl) ?_
  refine rg_q (q_m rfl) ?_
  refine rg_q (q_call en118 (.cons rfl (.cons rfl .nil)) rfl (fcellErr_p t.g c hg)) ?_
  refine rg_q (q_indexAddr_ar ar63 rfl rfl (by omega) (by omega)) ?_
  refine rg_q (q_load sz3 rfl rfl) (rg_q (q_m rfl) ?_)
  refine rg_q (q_call en89 (.cons rfl (.cons rfl (.cons rfl .nil))) rfl (fwithin_p _ _ _)) ?_
  refine rg_q (q_not rfl) (rg_q (q_m rfl) ?_)
  refine rg_g rfl rfl (fun hG => (q_indexAddr_ar ar63 rfl rfl (by (have hg0 := T.bool_inj (a := _) hG.1; (try simp only [nb, ne_eq] at hg0); omega)) (by (have hg0 := T.bool_inj (a := _) hG.1; (try simp only [nb, ne_eq] at hg0); omega)))) ?_
  refine rg_g rfl rfl (fun hG => (q_load sz3 rfl rfl)) ?_
  refine rg_g rfl rfl (fun hG => (q_m rfl)) ?_
  refine rg_g rfl rfl (fun hG => (q_call en89 (.cons rfl (.cons rfl (.cons rfl .nil))) rfl (fwithin_p _ _ _))) ?_
  refine rg_g rfl rfl (fun hG => (q_not rfl)) ?_
  refine rg_pick rfl rfl rfl rfl rfl rfl ?_
  refine rg_q (q_call en88 (.cons rfl (.cons rfl .nil)) rfl (fwhen_p _ _)) ?_
  refine rg_q (q_buildSlice sl282 zr40 rfl rfl (by decide) (.cons rfl (by exact .inl rfl) (.cons rfl (by exact .inl rfl) .nil)) ⟨rfl, rfl, rfl, rfl, trivial⟩ rfl (by decide) rfl) ?_
  refine rg_q (q_call en117 (.cons rfl .nil) rfl (ffirst_p [_, _])) ?_
  refine rg_q (q_assign (x := .d (.pt _ _)) rfl) (rg_q (q_a rfl) ?_)
  refine rn ?_
  change Awp _ _ _ _ _
  refine awp_ret ?_
  refine ⟨_, (.cons (.tmp (by exact .d _)) (.cons (.tmp (by exact .d _)) .nil)), ?_⟩
  unfold oprE; (try simp only [bif_or]); rfl
set_option maxRecDepth 100000 in
theorem openCell_p (t : Tsk) (c : Int) (h : TskOk t) : PC Tryz.prog 94 [.agg (tskC t), .v (.int .i64 (c))] (.tup [.pt (tkC t) 0, .v (.int .i64 (clE t.g c))]) := by
 have hz := oprE_zero (t := t) (c := c) h.n1
 refine pc_of_awpN Tryz.func94 rfl Tryz.ntmps94 (rs := [.tmp 4, .tmp 5]) Tryz.results94 (by simp) fun w0 hmine hrnd hpn => ?_
 refine awp_seq ?_
 refine awp_region 3 mixed (by kernel_rfl) ?_
 refine rg_q (q_box rfl (by exact .inr ⟨_, rfl⟩)) ?_
 refine rg_q (q_a rfl) (rg_q (q_a rfl) ?_)
 refine rs (awp_region 8 mixed (by kernel_rfl) ?_)
 refine rg_q (q_loadA sz37 rfl rfl rfl) ?_
 refine rg_q (q_m rfl) ?_
 refine rg_q (q_buildA (cs := [_, _]) ar63 zr63 rfl .nil trivial rfl) ?_
 refine rg_q (q_call en108 (.cons rfl (.cons rfl (.cons rfl .nil))) rfl ((by have h := openPair_p t c (0, 0) h; rw [hz] at h; exact h))) ?_
 refine rg_q (q_extract rfl rfl) (rg_q (q_extract rfl rfl) (rg_q (q_assign (x := .d (.pt _ _)) rfl) (rg_q (q_a rfl) ?_)))
 refine rn ?_
 change Awp _ _ _ _ _
 refine awp_ret ?_
 refine ⟨_, (.cons (.tmp (by exact .d _)) (.cons (.tmp (by exact .d _)) .nil)), ?_⟩
 rfl

def allL (n : Nat) : List Int := (List.range n).map fun i : Nat => (i : Int)
theorem allL_succ (n : Nat) : allL (n + 1) = allL n ++ [(n : Int)] := by unfold allL; rw [List.range_succ, List.map_append]; rfl
theorem allL_len (n : Nat) : (allL n).length = n := by unfold allL; rw [List.length_map, List.length_range]
theorem allL_in {n : Nat} {i : Int} (h : i ∈ allL n) : 0 ≤ i ∧ i < n := by
  unfold allL at h
  obtain ⟨k, hk, rfl⟩ := List.mem_map.1 h
  have := List.mem_range.1 hk
  omega
set_option maxRecDepth 100000 in
theorem all_p (t : Tsk) (h1 : 1 ≤ t.ne) (h2 : t.ne ≤ 16) : PC Tryz.prog 96 [.pt (tkC t) 0] (.sl 1 ((allL t.ne.toNat).map iC)) := by
 refine pc_of_awpN Tryz.func96 rfl Tryz.ntmps96 (rs := [.tmp 2]) Tryz.results96 (by simp) fun w0 hmine hrnd hpn => ?_
 refine awp_seq ?_
 refine awp_region 1 mixed (by kernel_rfl) ?_
 refine rg_q (q_assign (x := .d (.sl _ _)) rfl) ?_
 refine rs (awp_region 1 mixed (by kernel_rfl) ?_)
 refine rg_q (q_assign_nil) ?_
 refine rn ?_
 change Awp _ _ _ _ _
 refine Awp.le (le_own (k := 3) (e := 3) (sz := 1) rfl rfl) ?_
 refine awp_seq ?_
 refine awp_seq ?_
 refine awp_region 5 mixed (by kernel_rfl) ?_
 refine rg_q (q_move (x := .d (.pt _ _)) rfl) (rg_q (q_nilCheck rfl) (rg_q (q_fieldAddr fld202_2 rfl) (rg_q (q_load sz3 rfl rfl) (rg_q (q_m rfl) ?_))))
 refine rn ?_
 change Awp _ _ _ _ _
 refine awp_block ?_
 refine awp_loopH [3, 4, 9, 10, 11, 12, 13, 14, 15, 16] [3] (α := Nat) (fun k => [(9, T.i (k : Int)), (3, .rs 3)]) (fun k => [(3, .row 3 1 ((allL k).map iC))]) (fun k => k ≤ t.ne.toNat) (fun k => t.ne.toNat - k) 0 (Nat.zero_le _) ?_ ?_
 · exact le_head (ms := [3]) (by repeat (exact Out.refl _)) ⟨(by rfl), (by rfl), trivial⟩ ⟨(by rfl), trivial⟩ rfl rfl rfl rfl
 ·
  intro k hk
  have hal := allL_len k
  refine awp_seq ?_
  refine awp_region 1 mixed (by kernel_rfl) ?_
  refine rg_q (q_lss rfl rfl) ?_
  refine rn ?_
  change Awp _ _ _ _ _
  refine awp_seq ?_
  refine awp_cond rfl (fun hc3 => ?_) (fun hc3 => ?_)
  ·
   (try simp only [nb, ne_eq] at hc3)
   have hsk : (allL (k + 1)).map iC = (allL k).map iC ++ [[.v (.int .i64 (k : Int))]] := by rw [allL_succ, List.map_append]; rfl
   refine awp_skip ?_
   change Awp _ _ _ _ _
   refine awp_seq ?_
   refine awp_block ?_
   refine awp_seq ?_
   refine awp_region 2 mixed (by kernel_rfl) ?_
   refine rg_q (q_m rfl) (rg_q (q_a rfl) ?_)
   refine rn ?_
   change Awp _ _ _ _ _
   refine awp_region 3 mixed (by kernel_rfl) ?_
   refine rg_q (q_move (x := .rs _) rfl) (rg_q (q_m rfl) ?_)
   refine rg_q (q_buildSlice sl77 zr3 rfl rfl (by decide) (.cons rfl (by exact .inl rfl) .nil) ⟨rfl, rfl, trivial⟩ rfl (by decide) rfl) ?_
   refine rg_nil ?_
   refine aops_append sl77 zr3 by3 rfl (by decide) rfl rfl rfl rfl (by (try simp only [List.length_map, List.length_append, List.length_cons, List.length_nil]); omega) (by (try simp only [List.length_map, List.length_append, List.length_cons, List.length_nil]); omega) rfl rfl ?_
   refine aops_q rfl (q_assign (x := .rs _) rfl) ?_
   refine aops_nil ?_
   change Awp _ _ _ _ _
   refine awp_region 2 mixed (by kernel_rfl) ?_
   refine rg_q (q_add rfl rfl (In64.mk (by omega) (by omega))) ?_
   refine rg_q (q_m rfl) ?_
   refine rn ?_
   refine ⟨k + 1, by omega, by omega, ?_⟩
   exact le_head (ms := [3]) (by repeat (first | exact Out.head rfl rfl | (refine Out.put ?_ rfl) | (refine Out.site ?_ rfl) | (refine Out.killS ?_ rfl))) ⟨(by rfl), (by rfl), trivial⟩ ⟨(by ((show Site.row 3 1 _ = Site.row 3 1 _; rw [hsk]; rfl))), trivial⟩ rfl rfl rfl rfl
  ·
   (try simp only [nb, ne_eq] at hc3)
   have hkn : k = t.ne.toNat := by omega
   subst hkn
   refine awp_exit ?_
   change Awp _ _ _ _ _
   refine awp_seq ?_
   refine awp_region 2 mixed (by kernel_rfl) ?_
   refine rg_q (q_move (x := .rs _) rfl) (rg_q (q_assign (x := .rs _) rfl) ?_)
   refine rn ?_
   change Awp _ _ _ _ _
   refine awp_ret ?_
   refine ⟨_, (.cons (.tmp (by exact .rs rfl)) .nil), ?_⟩
   rfl
set_option maxRecDepth 100000 in
theorem nearest_p (t : Tsk) (tm : Int) (h : ArrOk t.ar) (h1 : -1000000000000 ≤ tm) (h2 : tm ≤ 1000000000000) : PC Tryz.prog 173 [.pt (tkC t) 0, .v (.int .i64 (tm))] (.v (.int .i64 (rndI (tm - t.ar.ts.1) t.ar.ts.2))) := by
 obtain ⟨_, _, _, _, _, _, t1, t2, t3, t4⟩ := h
 have hq := tdiv_sm (a := 2 * (tm - t.ar.ts.1) + t.ar.ts.2) (b := 2 * t.ar.ts.2) ⟨by omega, by omega⟩ (by omega)
 obtain ⟨h5, h6⟩ := hq
 have hl := floor_law (n := 2 * (tm - t.ar.ts.1) + t.ar.ts.2) (b := 2 * t.ar.ts.2) (by omega)
 refine pc_of_awp Tryz.func173 rfl Tryz.ntmps173 (rs := [.tmp 4]) Tryz.results173 (by simp) fun w0 => ?_
 refine awp_seq ?_
 refine awp_region 1 mixed (by kernel_rfl) ?_
 refine rg_q (q_a rfl) ?_
 refine rs (awp_region 25 mixed (by kernel_rfl) ?_)
 refine rg_q (q_m rfl) (rg_q (q_move (x := .d (.pt _ _)) rfl) (rg_q (q_nilCheck rfl) (rg_q (q_fieldAddr fld202_1 rfl) (rg_q (q_fieldAddr fld28_3 rfl) (rg_q (q_fieldAddr fld26_0 rfl) ?_)))))
 refine rg_q (q_load sz3 rfl rfl) ?_
 refine rg_q (q_sub rfl rfl (In64.mk (by omega) (by omega))) ?_
 refine rg_q (q_mul rfl rfl (In64.mk (by omega) (by omega))) ?_
 refine rg_q (q_move (x := .d (.pt _ _)) rfl) (rg_q (q_nilCheck rfl) (rg_q (q_fieldAddr fld202_1 rfl) (rg_q (q_fieldAddr fld28_3 rfl) (rg_q (q_fieldAddr fld26_1 rfl) (rg_q (q_load sz3 rfl rfl) ?_)))))
 refine rg_q (q_add rfl rfl (In64.mk (by omega) (by omega))) ?_
 refine rg_q (q_move (x := .d (.pt _ _)) rfl) (rg_q (q_nilCheck rfl) (rg_q (q_fieldAddr fld202_1 rfl) (rg_q (q_fieldAddr fld28_3 rfl) (rg_q (q_fieldAddr fld26_1 rfl) (rg_q (q_load sz3 rfl rfl) ?_)))))
 refine rg_q (q_mul rfl rfl (In64.mk (by omega) (by omega))) ?_
 refine rg_q (q_a rfl) (rg_q (q_a rfl) ?_)
 refine rs (awp_region 4 mixed (by kernel_rfl) ?_)
 refine rg_q (q_m rfl) (rg_q (q_m rfl) ?_)
 refine rg_q (q_quo rfl rfl (by omega) (In64.mk (by omega) (by omega))) ?_
 refine rg_q (q_a rfl) ?_
 refine rn ?_
 change Awp _ _ _ _ _
 refine awp_seq ?_
 refine awp_seq ?_
 refine awp_region 4 mixed (by kernel_rfl) ?_
 refine rg_q (q_m rfl) (rg_q (q_m rfl) ?_)
 refine rg_q (q_rem rfl rfl (by omega)) ?_
 refine rg_q (q_lss rfl rfl) ?_
 refine rn ?_
 change Awp _ _ _ _ _
 refine awp_cond rfl (fun hc3 => ?_) (fun hc3 => ?_)
 ·
  (try simp only [nb, ne_eq] at hc3)
  rw [if_pos hc3] at hl
  refine awp_region 3 mixed (by kernel_rfl) ?_
  refine rg_q (q_m rfl) ?_
  refine rg_q (q_sub rfl rfl (In64.mk (by omega) (by omega))) ?_
  refine rg_q (q_a rfl) ?_
  refine rs (awp_region 2 mixed (by kernel_rfl) ?_)
  refine rg_q (q_m rfl) (rg_q (q_a rfl) ?_)
  refine rn ?_
  change Awp _ _ _ _ _
  refine awp_ret ?_
  refine ⟨_, (.cons (.tmp (by exact .d _)) .nil), ?_⟩
  unfold rndI; rw [← hl]; rfl
 ·
  (try simp only [nb, ne_eq] at hc3)
  rw [if_neg (by omega)] at hl
  refine awp_skip ?_
  change Awp _ _ _ _ _
  refine awp_seq ?_
  refine awp_region 2 mixed (by kernel_rfl) ?_
  refine rg_q (q_m rfl) (rg_q (q_a rfl) ?_)
  refine rn ?_
  change Awp _ _ _ _ _
  refine awp_ret ?_
  refine ⟨_, (.cons (.tmp (by exact .d _)) .nil), ?_⟩
  unfold rndI; rw [← hl]; rfl
set_option maxRecDepth 100000 in
theorem number_p (t : Tsk) (c : Int) (pr : Int × Int) (h : TskOk t) (hc : clE t.g c = 0) (hp : (0 ≤ pr.1 ∧ pr.1 < t.ne) ∧ 0 ≤ pr.2 ∧ pr.2 < t.ne) : PC Tryz.prog 109 [.pt (tkC t) 0, .v (.int .i64 (c)), .agg (shC pr)] (.tup [.v (.int .i64 (smpI t.ar (spI t.g c) pr)), .v (.bool (inR 0 (smpI t.ar (spI t.g c) pr) 60))]) := by
 obtain ⟨hg, _, _⟩ := ckG_ok h.gr
 obtain ⟨c1, c2⟩ := clE_ok hc
 have hci := cells_in hg
 obtain ⟨hao, _⟩ := ckArr_ok h.ck
 have ho := op_zero h hc hp
 have he : echR t.ar (spI t.g c) pr = (echI t.ar (spI t.g c) pr, 0) := by unfold echR; rw [if_neg (fun q => q ho)]
 have hei := ech_in t.ar (spI t.g c) pr
 refine pc_of_awpN Tryz.func109 rfl Tryz.ntmps109 (rs := [.tmp 6, .tmp 7]) Tryz.results109 (by simp) fun w0 hmine hrnd hpn => ?_
 refine awp_seq ?_
 refine awp_region 3 mixed (by kernel_rfl) ?_
 refine rg_q (q_box rfl (by exact .inr ⟨_, rfl⟩)) ?_
 refine rg_q (q_a rfl) (rg_q (q_a rfl) ?_)
 refine rs (awp_region 17 mixed (by kernel_rfl) ?_)
 refine rg_q (q_move (x := .d (.pt _ _)) rfl) (rg_q (q_nilCheck rfl) (rg_q (q_fieldAddr fld202_1 rfl) ?_))
 refine rg_q (q_loadA (ds := [_, _, _, _, _, _, _, _, _, _, _]) sz28 rfl rfl rfl) ?_
 refine rg_q (q_move (x := .d (.pt _ _)) rfl) (rg_q (q_nilCheck rfl) (rg_q (q_fieldAddr fld202_0 rfl) ?_))
 refine rg_q (q_loadA (ds := [_, _, _, _, _]) sz150 rfl rfl rfl) ?_
 refine rg_q (q_m rfl) ?_
 refine rg_q (q_call en90 (.cons rfl (.cons rfl .nil)) rfl (fspot_p t.g c hg c1 (by omega))) ?_
 refine rg_q (q_loadA (ds := [_, _]) sz63 rfl rfl rfl) ?_
 refine rg_q (q_call en178 (.cons rfl (.cons rfl (.cons rfl .nil))) rfl ((by have h := echoAt_p t.ar (spI t.g c) pr; rw [he] at h; exact h))) ?_
 refine rg_q (q_move (x := .d (.tup _)) rfl) (rg_q (q_extract rfl rfl) (rg_q (q_extract rfl rfl) (rg_q (q_a rfl) (rg_q (q_a rfl) ?_))))
 refine rs (awp_region 4 mixed (by kernel_rfl) ?_)
 refine rg_q (q_move (x := .d (.pt _ _)) rfl) (rg_q (q_m rfl) ?_)
 refine rg_q (q_call en173 (.cons rfl (.cons rfl .nil)) rfl (nearest_p t _ hao (by omega) (by omega))) ?_
 refine rg_q (q_a rfl) ?_
 refine rs (awp_region 5 mixed (by kernel_rfl) ?_)
 refine rg_q (q_m rfl) (rg_q (q_m rfl) ?_)
 refine rg_q (q_call en89 (.cons rfl (.cons rfl (.cons rfl .nil))) rfl (fwithin_p _ _ _)) ?_
 refine rg_q (q_a rfl) (rg_q (q_a rfl) ?_)
 refine rn ?_
 change Awp _ _ _ _ _
 refine awp_ret ?_
 refine ⟨_, (.cons (.tmp (by exact .d _)) (.cons (.tmp (by exact .d _)) .nil)), ?_⟩
 rfl
end Go.Proofs.YtphlaicnmmglhaaGreat.Am.M
