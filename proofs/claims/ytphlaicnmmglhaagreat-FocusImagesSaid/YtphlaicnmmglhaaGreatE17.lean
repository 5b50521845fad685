/- Contracts over the abstract machine: the error of any sample. Conditions: none. -/
import Derived.Test.YtphlaicnmmglhaaGreatE16
import Derived.Test.YtphlaicnmmglhaaGreatY4
import Derived.Test.YtphlaicnmmglhaaGreatAmF
set_option linter.unusedVariables false
set_option linter.unusedSimpArgs false
-- mini
namespace Go.Proofs.YtphlaicnmmglhaaGreat.Am.M
open Go

def sEr (c1 c2 c3 : Bool) (n : Int) : Int := if (c1 || c2) = true then 2 else if c3 = true then 25 else if inR (-2047) n 2047 = true then 0 else 2
set_option maxRecDepth 100000 in
theorem tsampleBad_p (b : Nat) (h : floatBits .sub .f32 b b = none) : PC Tryz.prog 234 [fd b] (.v (.int .i64 (25))) := by
 refine pc_of_awp Tryz.func234 rfl Tryz.ntmps234 (rs := [.tmp 2]) Tryz.results234 (by simp) fun w0 => ?_
 refine awp_seq ?_
 refine awp_region 1 mixed (by kernel_rfl) ?_
 refine rg_q (q_assign (x := .d (.v _)) rfl) ?_
 refine rg_nil (aops_nil ?_)
 change Awp _ _ _ _ _
 refine awp_seq ?_
 refine awp_block ?_
 refine awp_seq ?_
 refine awp_region 10 mixed (by kernel_rfl) ?_
 refine rg_q (q_move (x := .d (.v _)) rfl) (rg_q (q_move (x := .d (.v _)) rfl) ?_)
 refine rg_q (q_fcmp (by decide) rfl rfl rfl) ?_
 refine rg_q (q_move (x := .d (.v _)) rfl) ?_
 refine rg_g rfl rfl (fun hG => (q_move (x := .d (.v _)) rfl)) ?_
 refine rg_g rfl rfl (fun hG => (q_move (x := .d (.v _)) rfl)) ?_
 refine rg_g rfl rfl (fun hG => (q_farN (by decide) rfl rfl h)) ?_
 refine rg_g rfl rfl (fun hG => (q_fcmpN (by decide) rfl rfl rfl)) ?_
 refine rg_pick rfl rfl rfl rfl rfl rfl ?_
 refine rg_q (q_assign (x := .d (.v _)) rfl) ?_
 refine rg_nil (aops_nil ?_)
 change Awp _ _ _ _ _
 refine awp_cond rfl (fun hc1 => ?_) (fun hc1 => ?_)
 ·
  (try simp only [nb, ne_eq] at hc1)
  refine awp_seq ?_
  refine awp_region 1 mixed (by kernel_rfl) ?_
  refine rg_q (q_assign (x := .d (.v _)) rfl) ?_
  refine rg_nil (aops_nil ?_)
  change Awp _ _ _ _ _
  refine awp_ret ?_
  refine ⟨_, (.cons (.tmp (by exact .d _)) .nil), ?_⟩
  rfl
 ·
  rw [show ordB .neq none = true from rfl] at hc1
  simp [bif_or] at hc1
set_option maxRecDepth 100000 in
theorem tsampleNum_p (b : Nat) (c1 c2 c3 : Bool) (n : Int) (hs : floatBits .sub .f32 b b = some 0) (h0 : ordB .neq (FloatKind.f32.format.order b b) = false) (h1 : ordB .geq (FloatKind.f32.format.order b 1266679808) = c1) (h2 : ordB .leq (FloatKind.f32.format.order b 3414163456) = c2) (h3 : (c1 || c2) = false → floatToIntVal .f32 b .i64 = some n ∧ ordB .neq (FloatKind.f32.format.order (FloatKind.f32.nearest n) b) = c3) : PC Tryz.prog 234 [fd b] (.v (.int .i64 (sEr c1 c2 c3 n))) := by
 refine pc_of_awp Tryz.func234 rfl Tryz.ntmps234 (rs := [.tmp 2]) Tryz.results234 (by simp) fun w0 => ?_
 refine awp_seq ?_
 refine awp_region 1 mixed (by kernel_rfl) ?_
 refine rg_q (q_assign (x := .d (.v _)) rfl) ?_
 refine rg_nil (aops_nil ?_)
 change Awp _ _ _ _ _
 refine awp_seq ?_
 refine awp_block ?_
 refine awp_seq ?_
 refine awp_region 10 mixed (by kernel_rfl) ?_
 refine rg_q (q_move (x := .d (.v _)) rfl) (rg_q (q_move (x := .d (.v _)) rfl) ?_)
 refine rg_q (q_fcmp (by decide) rfl rfl h0) ?_
 refine rg_q (q_move (x := .d (.v _)) rfl) ?_
 refine rg_g rfl rfl (fun hG => (q_move (x := .d (.v _)) rfl)) ?_
 refine rg_g rfl rfl (fun hG => (q_move (x := .d (.v _)) rfl)) ?_
 refine rg_g rfl rfl (fun hG => (q_fbin (by decide) rfl rfl hs)) ?_
 refine rg_g rfl rfl (fun hG => (q_fcmp (by decide) rfl rfl whl_zero)) ?_
 refine rg_pick rfl rfl rfl rfl rfl rfl ?_
 refine rg_q (q_assign (x := .d (.v _)) rfl) ?_
 refine rg_nil (aops_nil ?_)
 change Awp _ _ _ _ _
 refine awp_cond rfl (fun hc1 => ?_) (fun hc1 => ?_)
 ·
  cases hc1
 ·
  (try simp only [nb, ne_eq] at hc1)
  refine awp_seq ?_
  refine awp_region 7 mixed (by kernel_rfl) ?_
  refine rg_q (q_move (x := .d (.v _)) rfl) ?_
  refine rg_q (q_fcmp (by decide) rfl rfl h1) ?_
  refine rg_q (q_move (x := .d (.v _)) rfl) ?_
  refine rg_g rfl rfl (fun hG => (q_move (x := .d (.v _)) rfl)) ?_
  refine rg_g rfl rfl (fun hG => (q_fcmp (by decide) rfl rfl h2)) ?_
  refine rg_pick rfl rfl rfl rfl rfl rfl ?_
  refine rg_q (q_assign (x := .d (.v _)) rfl) ?_
  refine rg_nil (aops_nil ?_)
  change Awp _ _ _ _ _
  refine awp_cond rfl (fun hc3 => ?_) (fun hc3 => ?_)
  ·
   (try simp only [nb, ne_eq] at hc3)
   have hq : (c1 || c2) = true := by simpa using hc3
   have hz : sEr c1 c2 c3 n = 2 := by unfold sEr; rw [if_pos hq]
   rw [hz]
   refine awp_seq ?_
   refine awp_region 1 mixed (by kernel_rfl) ?_
   refine rg_q (q_assign (x := .d (.v _)) rfl) ?_
   refine rg_nil (aops_nil ?_)
   change Awp _ _ _ _ _
   refine awp_ret ?_
   refine ⟨_, (.cons (.tmp (by exact .d _)) .nil), ?_⟩
   rfl
  ·
   (try simp only [nb, ne_eq] at hc3)
   have hq : (c1 || c2) = false := by simpa using hc3
   obtain ⟨hi, hb⟩ := h3 hq
   refine awp_seq ?_
   refine awp_region 6 mixed (by kernel_rfl) ?_
   refine rg_q (q_move (x := .d (.v _)) rfl) ?_
   refine rg_q (q_convfi flt117 int3 rfl hi) ?_
   refine rg_q (q_convf int3 flt117 rfl) ?_
   refine rg_q (q_move (x := .d (.v _)) rfl) ?_
   refine rg_q (q_fcmp (by decide) rfl rfl hb) ?_
   refine rg_q (q_assign (x := .d (.v _)) rfl) ?_
   refine rg_nil (aops_nil ?_)
   change Awp _ _ _ _ _
   refine awp_cond rfl (fun hc5 => ?_) (fun hc5 => ?_)
   ·
    (try simp only [nb, ne_eq] at hc5)
    have hz : sEr c1 c2 c3 n = 25 := by unfold sEr; rw [if_neg (by rw [hq]; decide), if_pos hc5]
    rw [hz]
    refine awp_seq ?_
    refine awp_region 1 mixed (by kernel_rfl) ?_
    refine rg_q (q_assign (x := .d (.v _)) rfl) ?_
    refine rg_nil (aops_nil ?_)
    change Awp _ _ _ _ _
    refine awp_ret ?_
    refine ⟨_, (.cons (.tmp (by exact .d _)) .nil), ?_⟩
    rfl
   ·
    (try simp only [nb, ne_eq] at hc5)
    refine awp_seq ?_
    refine awp_region 5 mixed (by kernel_rfl) ?_
    refine rg_q (q_move (x := .d (.v _)) rfl) ?_
    refine rg_q (q_convfi flt117 int3 rfl hi) ?_
    refine rg_q (q_call en267 (.cons rfl (.cons rfl .nil)) rfl (tsmall_p _ _ (by omega) (by omega))) ?_
    refine rg_q (q_not rfl) (rg_q (q_assign (x := .d (.v _)) rfl) ?_)
    refine rg_nil (aops_nil ?_)
    change Awp _ _ _ _ _
    refine awp_cond rfl (fun hc7 => ?_) (fun hc7 => ?_)
    ·
     (try simp only [nb, ne_eq] at hc7)
     have hz : sEr c1 c2 c3 n = 2 := by unfold sEr; rw [if_neg (by rw [hq]; decide), if_neg (by rw [hc5]; decide), if_neg (by simpa using hc7)]
     rw [hz]
     refine awp_seq ?_
     refine awp_region 1 mixed (by kernel_rfl) ?_
     refine rg_q (q_assign (x := .d (.v _)) rfl) ?_
     refine rg_nil (aops_nil ?_)
     change Awp _ _ _ _ _
     refine awp_ret ?_
     refine ⟨_, (.cons (.tmp (by exact .d _)) .nil), ?_⟩
     rfl
    ·
     (try simp only [nb, ne_eq] at hc7)
     have hz : sEr c1 c2 c3 n = 0 := by unfold sEr; rw [if_neg (by rw [hq]; decide), if_neg (by rw [hc5]; decide), if_pos (by simpa using hc7)]
     rw [hz]
     refine awp_skip ?_
     change Awp _ _ _ _ _
     refine awp_seq ?_
     refine awp_region 1 mixed (by kernel_rfl) ?_
     refine rg_q (q_assign (x := .d (.v _)) rfl) ?_
     refine rg_nil (aops_nil ?_)
     change Awp _ _ _ _ _
     refine awp_ret ?_
     refine ⟨_, (.cons (.tmp (by exact .d _)) .nil), ?_⟩
     rfl

theorem in_M {s : Bool} {N : Nat} (k : Nat) : (-(k : Int) ≤ sgI s N ∧ sgI s N ≤ (k : Int)) ↔ N ≤ k := by unfold sgI; cases s <;> simp <;> omega
theorem sg_le {s : Bool} {M : Nat} (K : Nat) (hM : ¬ K ≤ M) : decide (sgI false K ≤ sgI s M) = false ∧ decide (sgI s M ≤ sgI true K) = false := by
  refine ⟨decide_eq_false ?_, decide_eq_false ?_⟩ <;> (unfold sgI; cases s <;> simp <;> omega)
theorem sg_ge {s : Bool} {M : Nat} (K : Nat) (hM : K ≤ M) : (decide (sgI false K ≤ sgI s M) || decide (sgI s M ≤ sgI true K)) = true := by
  rw [Bool.or_eq_true, decide_eq_true_eq, decide_eq_true_eq]
  cases s
  · left; unfold sgI; simp; omega
  · right; unfold sgI; simp; omega
theorem div_le {M k : Nat} : M / QQ ≤ k ↔ M < (k + 1) * QQ := by
  rw [← Nat.lt_succ_iff, Nat.div_lt_iff_lt_mul QQ_pos]
theorem i64_of {a : Int} (h : a.natAbs ≤ 1000000000000000000) : IntKind.i64.min ≤ a ∧ a ≤ IntKind.i64.max := by
  show (-9223372036854775808 : Int) ≤ a ∧ a ≤ 9223372036854775807
  omega
theorem int_num {k : FloatKind} {b : Nat} {s : Bool} {M : Nat} (h : Numb k.format b s M) (hM : M / QQ ≤ 1000000000000000000) : floatToIntVal k b .i64 = some (sgI s (M / QQ)) := by
  unfold floatToIntVal
  have h1 : (k.decode b).toInt .zero = some (sgI s (M / QQ)) := toInt_num h
  rw [h1]
  exact if_pos (i64_of (by rw [sg_abs]; exact hM))
theorem neq_back {f : Ieee.Format} {p L I : Nat} (h : Fm f p L I) (hL : L ≤ KK) {b : Nat} {s : Bool} {m : Nat} {e : Int} {M : Nat} (hr : f.read b = .number s m e) (hM : m * 2 ^ (e + KK).toNat = M) : ordB .neq (f.order (wd f (sgI s (M / QQ))) b) = !decide (M % QQ = 0) := by
  have := back_ord h hL hr hM
  unfold ordB
  rw [bne, this]
theorem tsampleErr5_p (b : Nat) : PC Tryz.prog 234 [fd b] (.v (.int .i64 (sE b))) := by
  cases hr : Ieee.single.read b with
  | nan s t =>
    have e : sE b = 25 := by unfold sE; rw [hr]
    rw [e]
    exact tsampleBad_p b (show Ieee.single.sub b b = none by unfold Ieee.Format.sub; rw [hr]; rfl)
  | infinity s =>
    have e : sE b = 25 := by unfold sE; rw [hr]
    rw [e]
    exact tsampleBad_p b (sub_inf hr)
  | number s m e =>
    obtain ⟨M, hM⟩ : ∃ M, m * 2 ^ (e + KK).toNat = M := ⟨_, rfl⟩
    have hn := num_of fmS LS hr
    rw [hM] at hn
    have e : sE b = sEM M := by unfold sE; rw [hr]; simp only [hM]
    rw [e]
    have h := tsampleNum_p b _ _ (!decide (M % QQ = 0)) (sgI s (M / QQ)) (sub_num hn) (ob_self hn) (ob_geq hn num_hi) (ob_leq hn num_lo) (fun q => ?_)
    · have e2 : sEr (decide (sgI false (16777216 * QQ) ≤ sgI s M)) (decide (sgI s M ≤ sgI true (16777216 * QQ))) (!decide (M % QQ = 0)) (sgI s (M / QQ)) = sEM M := by
        unfold sEr sEM
        by_cases h1 : 16777216 * QQ ≤ M
        · rw [if_pos (sg_ge _ h1), if_pos h1]
        · obtain ⟨h2, h3⟩ := sg_le (s := s) _ h1
          rw [h2, h3, if_neg (by decide), if_neg h1]
          by_cases h4 : M % QQ = 0
          · rw [decide_eq_true h4, if_neg (by decide), if_neg (c := M % QQ ≠ 0) (fun q => q h4)]
            have h5 : inR (-2047) (sgI s (M / QQ)) 2047 = true ↔ M / QQ ≤ 2047 := by
              rw [inR_iff]; exact in_M 2047
            have hd := Nat.div_add_mod M QQ
            rw [h4, Nat.add_zero] at hd
            by_cases h6 : M / QQ ≤ 2047
            · rw [if_pos (h5.2 h6), if_neg]
              rw [← hd, Nat.mul_comm QQ]
              have := Nat.mul_le_mul_right QQ h6
              omega
            · rw [if_neg (fun q => h6 (h5.1 q)), if_pos]
              rw [← hd, Nat.mul_comm QQ]
              exact Nat.mul_lt_mul_of_pos_right (by omega) QQ_pos
          · rw [decide_eq_false h4, if_pos (show (!false) = true from rfl), if_pos (c := M % QQ ≠ 0) h4]
      rw [e2] at h
      exact h
    · have h1 : ¬ 16777216 * QQ ≤ M := fun h1 => by rw [sg_ge _ h1] at q; cases q
      have h2 : M / QQ ≤ 16777215 := div_le.2 (by omega)
      exact ⟨int_num (k := .f32) hn (by omega), neq_back fmS LS hr hM⟩

def whD (b : Nat) : Bool :=
  match Ieee.double.read b with
  | .number _ m e => decide (m * 2 ^ (e + KK).toNat % QQ = 0)
  | _ => false
theorem rd_hi16 : Ieee.double.read 4846369599423283200 = .number false 5000000000000000 1 := by decide +kernel
theorem rd_lo16 : Ieee.double.read 14069741636278059008 = .number true 5000000000000000 1 := by decide +kernel
theorem num_hi16 : Numb Ieee.double 4846369599423283200 false (10000000000000000 * QQ) := ⟨_, _, rd_hi16, by omega, by
  rw [show ((1 : Int) + KK).toNat = KK + 1 by omega, Nat.pow_succ]; have e : 2 ^ KK = QQ := rfl
  rw [e]; generalize QQ = q; omega⟩
theorem num_lo16 : Numb Ieee.double 14069741636278059008 true (10000000000000000 * QQ) := ⟨_, _, rd_lo16, by omega, by
  rw [show ((1 : Int) + KK).toNat = KK + 1 by omega, Nat.pow_succ]; have e : 2 ^ KK = QQ := rfl
  rw [e]; generalize QQ = q; omega⟩
theorem d_zero : ordB .neq (FloatKind.f64.format.order 0 0) = false := by decide +kernel
set_option maxRecDepth 100000 in
theorem isWholeN_p  : PC Tryz.prog 194 [.nan .f64] (.v (.bool (false))) := by
 refine pc_of_awp Tryz.func194 rfl Tryz.ntmps194 (rs := [.tmp 2]) Tryz.results194 (by simp) fun w0 => ?_
 refine awp_seq ?_
 refine awp_region 1 mixed (by kernel_rfl) ?_
 refine rg_q (q_assign (x := .d (.v _)) rfl) ?_
 refine rg_nil (aops_nil ?_)
 change Awp _ _ _ _ _
 refine awp_seq ?_
 refine awp_seq ?_
 refine awp_region 9 mixed (by kernel_rfl) ?_
 refine rg_q (q_move (x := .d (.nan _)) rfl) (rg_q (q_move (x := .d (.nan _)) rfl) ?_)
 refine rg_q (q_fcmpNN (by decide) rfl rfl rfl) ?_
 refine rg_q (q_move (x := .d (.v _)) rfl) ?_
 refine rg_g rfl rfl (fun hG => (q_move (x := .d (.nan _)) rfl)) ?_
 refine rg_g rfl rfl (fun hG => (q_move (x := .d (.nan _)) rfl)) ?_
 refine rg_g rfl rfl (fun hG => (q_farNN rfl rfl rfl)) ?_
 refine rg_g rfl rfl (fun hG => (q_fcmpN (by decide) rfl rfl rfl)) ?_
 refine rg_pick rfl rfl rfl rfl rfl rfl ?_
 refine rg_nil (aops_nil ?_)
 change Awp _ _ _ _ _
 refine awp_cond rfl (fun hc1 => ?_) (fun hc1 => ?_)
 ·
  (try simp only [nb, ne_eq] at hc1)
  refine awp_seq ?_
  refine awp_region 1 mixed (by kernel_rfl) ?_
  refine rg_q (q_assign (x := .d (.v _)) rfl) ?_
  refine rg_nil (aops_nil ?_)
  change Awp _ _ _ _ _
  refine awp_ret ?_
  refine ⟨_, (.cons (.tmp (by exact .d _)) .nil), ?_⟩
  rfl
 ·
  rw [show ordB .neq none = true from rfl] at hc1
  simp [bif_or] at hc1
set_option maxRecDepth 100000 in
theorem isWholeBad_p (b : Nat) (h : floatBits .sub .f64 b b = none) : PC Tryz.prog 194 [.v (.float .f64 b)] (.v (.bool (false))) := by
 refine pc_of_awp Tryz.func194 rfl Tryz.ntmps194 (rs := [.tmp 2]) Tryz.results194 (by simp) fun w0 => ?_
 refine awp_seq ?_
 refine awp_region 1 mixed (by kernel_rfl) ?_
 refine rg_q (q_assign (x := .d (.v _)) rfl) ?_
 refine rg_nil (aops_nil ?_)
 change Awp _ _ _ _ _
 refine awp_seq ?_
 refine awp_seq ?_
 refine awp_region 9 mixed (by kernel_rfl) ?_
 refine rg_q (q_move (x := .d (.v _)) rfl) (rg_q (q_move (x := .d (.v _)) rfl) ?_)
 refine rg_q (q_fcmp (by decide) rfl rfl rfl) ?_
 refine rg_q (q_move (x := .d (.v _)) rfl) ?_
 refine rg_g rfl rfl (fun hG => (q_move (x := .d (.v _)) rfl)) ?_
 refine rg_g rfl rfl (fun hG => (q_move (x := .d (.v _)) rfl)) ?_
 refine rg_g rfl rfl (fun hG => (q_farN (by decide) rfl rfl h)) ?_
 refine rg_g rfl rfl (fun hG => (q_fcmpN (by decide) rfl rfl rfl)) ?_
 refine rg_pick rfl rfl rfl rfl rfl rfl ?_
 refine rg_nil (aops_nil ?_)
 change Awp _ _ _ _ _
 refine awp_cond rfl (fun hc1 => ?_) (fun hc1 => ?_)
 ·
  (try simp only [nb, ne_eq] at hc1)
  refine awp_seq ?_
  refine awp_region 1 mixed (by kernel_rfl) ?_
  refine rg_q (q_assign (x := .d (.v _)) rfl) ?_
  refine rg_nil (aops_nil ?_)
  change Awp _ _ _ _ _
  refine awp_ret ?_
  refine ⟨_, (.cons (.tmp (by exact .d _)) .nil), ?_⟩
  rfl
 ·
  rw [show ordB .neq none = true from rfl] at hc1
  simp [bif_or] at hc1
set_option maxRecDepth 100000 in
theorem isWholeNum_p (b : Nat) (c1 c2 c3 : Bool) (n : Int) (hs : floatBits .sub .f64 b b = some 0) (h0 : ordB .neq (FloatKind.f64.format.order b b) = false) (h1 : ordB .geq (FloatKind.f64.format.order b 14069741636278059008) = c1) (h2 : ordB .leq (FloatKind.f64.format.order b 4846369599423283200) = c2) (h3 : (c1 && c2) = true → floatToIntVal .f64 b .i64 = some n ∧ ordB .eql (FloatKind.f64.format.order (FloatKind.f64.nearest n) b) = c3) : PC Tryz.prog 194 [.v (.float .f64 b)] (.v (.bool (if (c1 && c2) = true then c3 else true))) := by
 refine pc_of_awp Tryz.func194 rfl Tryz.ntmps194 (rs := [.tmp 2]) Tryz.results194 (by simp) fun w0 => ?_
 refine awp_seq ?_
 refine awp_region 1 mixed (by kernel_rfl) ?_
 refine rg_q (q_assign (x := .d (.v _)) rfl) ?_
 refine rg_nil (aops_nil ?_)
 change Awp _ _ _ _ _
 refine awp_seq ?_
 refine awp_seq ?_
 refine awp_region 9 mixed (by kernel_rfl) ?_
 refine rg_q (q_move (x := .d (.v _)) rfl) (rg_q (q_move (x := .d (.v _)) rfl) ?_)
 refine rg_q (q_fcmp (by decide) rfl rfl h0) ?_
 refine rg_q (q_move (x := .d (.v _)) rfl) ?_
 refine rg_g rfl rfl (fun hG => (q_move (x := .d (.v _)) rfl)) ?_
 refine rg_g rfl rfl (fun hG => (q_move (x := .d (.v _)) rfl)) ?_
 refine rg_g rfl rfl (fun hG => (q_fbin (by decide) rfl rfl hs)) ?_
 refine rg_g rfl rfl (fun hG => (q_fcmp (by decide) rfl rfl d_zero)) ?_
 refine rg_pick rfl rfl rfl rfl rfl rfl ?_
 refine rg_nil (aops_nil ?_)
 change Awp _ _ _ _ _
 refine awp_cond rfl (fun hc1 => ?_) (fun hc1 => ?_)
 ·
  cases hc1
 ·
  (try simp only [nb, ne_eq] at hc1)
  refine awp_skip ?_
  change Awp _ _ _ _ _
  refine awp_seq ?_
  refine awp_seq ?_
  refine awp_region 7 mixed (by kernel_rfl) ?_
  refine rg_q (q_move (x := .d (.v _)) rfl) ?_
  refine rg_q (q_fcmp (by decide) rfl rfl h1) ?_
  refine rg_q (q_move (x := .d (.v _)) rfl) ?_
  refine rg_g rfl rfl (fun hG => (q_move (x := .d (.v _)) rfl)) ?_
  refine rg_g rfl rfl (fun hG => (q_fcmp (by decide) rfl rfl h2)) ?_
  refine rg_pick rfl rfl rfl rfl rfl rfl ?_
  refine rg_q (q_not rfl) ?_
  refine rg_nil (aops_nil ?_)
  change Awp _ _ _ _ _
  refine awp_cond rfl (fun hc3 => ?_) (fun hc3 => ?_)
  ·
   (try simp only [nb, ne_eq] at hc3)
   have hq : ¬ (c1 && c2) = true := by rcases hc3 with q | q <;> simp [q]
   rw [if_neg hq]
   refine awp_seq ?_
   refine awp_region 1 mixed (by kernel_rfl) ?_
   refine rg_q (q_assign (x := .d (.v _)) rfl) ?_
   refine rg_nil (aops_nil ?_)
   change Awp _ _ _ _ _
   refine awp_ret ?_
   refine ⟨_, (.cons (.tmp (by exact .d _)) .nil), ?_⟩
   rfl
  ·
   (try simp only [nb, ne_eq] at hc3)
   have hq : (c1 && c2) = true := by simpa using hc3
   obtain ⟨hi, hb⟩ := h3 hq
   rw [if_pos hq]
   refine awp_skip ?_
   change Awp _ _ _ _ _
   refine awp_seq ?_
   refine awp_region 6 mixed (by kernel_rfl) ?_
   refine rg_q (q_move (x := .d (.v _)) rfl) ?_
   refine rg_q (q_convfi flt167 int3 rfl hi) ?_
   refine rg_q (q_convf int3 flt167 rfl) ?_
   refine rg_q (q_move (x := .d (.v _)) rfl) ?_
   refine rg_q (q_fcmp (by decide) rfl rfl hb) ?_
   refine rg_q (q_assign (x := .d (.v _)) rfl) ?_
   refine rg_nil (aops_nil ?_)
   change Awp _ _ _ _ _
   refine awp_ret ?_
   refine ⟨_, (.cons (.tmp (by exact .d _)) .nil), ?_⟩
   rfl

theorem sg_in {s : Bool} {M : Nat} (K : Nat) : (decide (sgI true K ≤ sgI s M) && decide (sgI s M ≤ sgI false K)) = decide (M ≤ K) := by
  rw [← Bool.decide_and]
  refine decide_eq_decide.2 ?_
  unfold sgI
  cases s <;> simp <;> omega
theorem isWhole_p (b : Nat) : PC Tryz.prog 194 [.v (.float .f64 b)] (.v (.bool (whD b))) := by
  cases hr : Ieee.double.read b with
  | nan s t =>
    have e : whD b = false := by unfold whD; rw [hr]
    rw [e]
    exact isWholeBad_p b (show Ieee.double.sub b b = none by unfold Ieee.Format.sub; rw [hr]; rfl)
  | infinity s =>
    have e : whD b = false := by unfold whD; rw [hr]
    rw [e]
    exact isWholeBad_p b (sub_inf hr)
  | number s m e =>
    obtain ⟨M, hM⟩ : ∃ M, m * 2 ^ (e + KK).toNat = M := ⟨_, rfl⟩
    have hn := num_of fmD LD hr
    rw [hM] at hn
    have e : whD b = decide (M % QQ = 0) := by unfold whD; rw [hr]; simp only [hM]
    rw [e]
    have h := isWholeNum_p b _ _ (decide (M % QQ = 0)) (sgI s (M / QQ)) (sub_num hn) (ob_self hn) (ob_geq hn num_lo16) (ob_leq hn num_hi16) (fun q => ?_)
    · rw [sg_in] at h
      by_cases h1 : M ≤ 10000000000000000 * QQ
      · rw [if_pos (decide_eq_true h1)] at h; exact h
      · rw [if_neg (by rw [decide_eq_false h1]; decide)] at h
        have : M % QQ = 0 := big_whole fmD hr hM (by
          have := QQ_pos
          have e : 2 ^ (52 + 1) * QQ ≤ 10000000000000000 * QQ := Nat.mul_le_mul_right _ (by decide)
          omega)
        rw [decide_eq_true this]; exact h
    · rw [sg_in, decide_eq_true_eq] at q
      have h2 : M / QQ ≤ 10000000000000000 := Nat.div_le_of_le_mul (by rw [Nat.mul_comm]; exact q)
      refine ⟨int_num (k := .f64) hn (by omega), back_ord fmD LD hr hM⟩

theorem num_2047 : Numb Ieee.single 1157619712 false (2047 * QQ) := by
  have h := num_wd fmS LS (a := 2047) (by decide)
  rw [show wd Ieee.single 2047 = 1157619712 by decide +kernel, show decide ((2047 : Int) < 0) = false from rfl, show (2047 : Int).natAbs = 2047 from rfl] at h
  exact h
theorem num_m2047 : Numb Ieee.single 3305103360 true (2047 * QQ) := by
  have h := num_wd fmS LS (a := -2047) (by decide)
  rw [show wd Ieee.single (-2047) = 3305103360 by decide +kernel, show decide ((-2047 : Int) < 0) = true from rfl, show (-2047 : Int).natAbs = 2047 from rfl] at h
  exact h
end Go.Proofs.YtphlaicnmmglhaaGreat.Am.M
