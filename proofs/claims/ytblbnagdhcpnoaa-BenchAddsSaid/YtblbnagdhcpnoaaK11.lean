/- Contracts over the abstract machine: package bench: the trace of a right specimen for a right pair. Conditions: none. -/
import Derived.Test.YtblbnagdhcpnoaaK10
set_option linter.unusedVariables false
set_option linter.unusedSimpArgs false
-- mini
namespace Go.Proofs.Ytblbnagdhcpnoaa.Am.M
open Go

def opnS (s : Spc) (P : List ((Int × Int) × Int)) : List D := arrC s.ar ++ [.sl 1 (s.pl.map iC), .sl 3 (P.map ptnC)]
def ptA (P : List ((Int × Int) × Int)) (k : Nat) : (Int × Int) × Int := P.getD k ((0, 0), 0)
/-- The samples of the first k points. -/
def smT (a : Arr) (pl : List Int) (pr : Int × Int) (P : List ((Int × Int) × Int)) : Nat → List Int
  | 0 => zI
  | k + 1 => adT (smT a pl pr P k) pl (ptA P k).2 (smpI a (ptA P k).1 pr) pl.length
theorem smT_len {a : Arr} {pl : List Int} {pr : Int × Int} {P : List ((Int × Int) × Int)} : ∀ k : Nat, (smT a pl pr P k).length = 64
  | 0 => rfl
  | k + 1 => by show (adT _ _ _ _ _).length = 64; rw [adT_len]; exact smT_len k
theorem amp_mul {pl : List Int} {x : Int} (hx : -1000 ≤ x ∧ x ≤ 1000) (hp : ∀ n ∈ pl, -100 ≤ n ∧ n ≤ 100) : ∀ n ∈ pl, -100000 ≤ x * n ∧ x * n ≤ 100000 := by
  intro n hn
  have h := hp n hn
  have := mulb (a := x) (b := n) (A := 1000) (B := 100) (by omega) (by omega) (by omega) (by omega)
  omega
theorem ptA_in {P : List ((Int × Int) × Int)} (h : ∀ q ∈ P, -1000 ≤ q.2 ∧ q.2 ≤ 1000) (k : Nat) : -1000 ≤ (ptA P k).2 ∧ (ptA P k).2 ≤ 1000 := by
  unfold ptA
  rw [List.getD_eq_getElem?_getD]
  cases hx : P[k]? with
  | none => exact ⟨by decide, by decide⟩
  | some q => exact h q (List.mem_of_getElem? hx)
theorem smT_in {a : Arr} {pl : List Int} {pr : Int × Int} {P : List ((Int × Int) × Int)} (hl : pl.length ≤ 16) (hp : ∀ n ∈ pl, -100 ≤ n ∧ n ≤ 100) (hP : ∀ q ∈ P, -1000 ≤ q.2 ∧ q.2 ≤ 1000) : ∀ k : Nat, ∀ v ∈ smT a pl pr P k, -(1600000 * (k : Int)) ≤ v ∧ v ≤ 1600000 * (k : Int)
  | 0, v, hv => by rw [List.eq_of_mem_replicate hv]; omega
  | k + 1, v, hv => by
    have ih := smT_in (a := a) (pr := pr) hl hp hP k
    have := adT_in (t := smpI a (ptA P k).1 pr) ih (amp_mul (ptA_in hP k) hp) pl.length v hv
    omega
theorem rnd_in {n b A : Int} (hA : 0 ≤ A) (h1 : -A ≤ n) (h2 : n ≤ A) (hb : 1 ≤ b) : -(A + 1) ≤ rndI n b ∧ rndI n b ≤ A + 1 := by
  unfold rndI
  have hm : A ≤ A * b := by
    have := Int.mul_le_mul_of_nonneg_left hb hA
    rw [Int.mul_one] at this; exact this
  have e1 : (A + 1) * (2 * b) = 2 * (A * b) + 2 * b := by grind
  have e2 : -(A + 1) * (2 * b) = -(2 * (A * b) + 2 * b) := by grind
  refine ⟨Int.le_ediv_of_mul_le (by omega) (by rw [e2]; omega), ?_⟩
  have : (2 * n + b) / (2 * b) < A + 1 + 1 := Int.ediv_lt_of_lt_mul (by omega) (by
    have e3 : (A + 1 + 1) * (2 * b) = 2 * (A * b) + 4 * b := by grind
    rw [e3]; omega)
  omega
theorem smp_in {a : Arr} (hok : ArrOk a) (t p : Int × Int) : -10000000000000 ≤ smpI a t p ∧ smpI a t p ≤ 10000000000000 := by
  have he := ech_in a t p
  have h := rnd_in (n := echI a t p - a.ts.1) (b := a.ts.2) (A := 1100000000000) (by decide) (by have := hok.t2; omega) (by have := hok.t1; omega) hok.t3
  unfold smpI; omega
def trcR (s : Spc) (P : List ((Int × Int) × Int)) (pr : Int × Int) : List D × Int := if (smT s.ar s.pl pr P P.length).any bigB = true then (z64, 8) else ((smT s.ar s.pl pr P P.length).map fv, 0)
set_option maxRecDepth 100000 in
theorem traceOf_p (s : Spc) (P : List ((Int × Int) × Int)) (pr : Int × Int) (hok : ArrOk s.ar) (hpk : (0 ≤ pr.1 ∧ pr.1 < s.ar.el.length) ∧ 0 ≤ pr.2 ∧ pr.2 < s.ar.el.length) (hpl : s.pl.length ≤ 16) (hpb : ∀ n ∈ s.pl, -100 ≤ n ∧ n ≤ 100) (hP : P.length ≤ 300) (hPa : ∀ q ∈ P, -1000 ≤ q.2 ∧ q.2 ≤ 1000) : PC Try.prog 81 [.agg (opnS s P), .agg (shC pr)] (.tup [.agg (trcR s P pr).1, .v (.int .i64 ((trcR s P pr).2))]) := by
  have hfl : ((smT s.ar s.pl pr P P.length).map fv).length = 64 := by rw [List.length_map, smT_len]
  refine pc_of_awpN Try.func81 rfl Try.ntmps81 (rs := [.cell 4 61, .tmp 5]) Try.results81 (by simp) fun w0 hmine hrnd hpn => ?_
  refine awp_seq ?_
  refine awp_region 2 mixed (by kernel_rfl) ?_
  refine rg_q (q_box rfl (by exact .inr ⟨_, rfl⟩)) ?_
  refine rg_q (q_box rfl (by exact .inr ⟨_, rfl⟩)) ?_
  refine rg_nil ?_
  refine aops_alloc zr61 rfl rfl rfl ?_
  refine aops_q rfl (q_assign (x := .d (.v _)) rfl) ?_
  refine aops_nil ?_
  change Awp _ _ _ _ _
  refine awp_seq ?_
  refine awp_region 0 mixed (by kernel_rfl) ?_
  refine rg_nil ?_
  refine aops_alloc zr120 rfl rfl rfl ?_
  refine aops_nil ?_
  change Awp _ _ _ _ _
  refine awp_seq ?_
  refine awp_seq ?_
  refine awp_region 4 mixed (by kernel_rfl) ?_
  refine rg_q (q_fieldAddr fld136_2 rfl) ?_
  refine rg_q (q_load sz41 rfl rfl) ?_
  refine rg_q (q_len isl41 rfl (by exact len_map _ _)) ?_
  refine rg_q (q_move (x := .d (.v _)) rfl) ?_
  refine rg_nil ?_
  refine aops_nil ?_
  change Awp _ _ _ _ _
  refine awp_len (t := 11) rfl (fun hl11 => ?_)
  (try simp only [List.length_map] at hl11)
  refine awp_block ?_
  refine awp_loopH [8, 13, 14, 15, 16, 17, 18, 19, 20, 21, 22, 23, 24, 25, 26, 27, 28] [6] (α := Nat) (fun k => [(13, T.i (k : Int))]) (fun k => [(6, .box ((smT s.ar s.pl pr P k).map iv))]) (fun k => k ≤ P.length) (fun k => P.length - k) 0 (Nat.zero_le _) ?_ ?_
  · exact le_head (ms := [6]) (by repeat (exact Out.refl _)) ⟨(by rfl), trivial⟩ ⟨(by rfl), trivial⟩ rfl rfl rfl rfl
  ·
    intro k hk
    refine awp_seq ?_
    refine awp_region 1 mixed (by kernel_rfl) ?_
    refine rg_q (q_lss rfl rfl) ?_
    refine rg_nil ?_
    refine aops_nil ?_
    change Awp _ _ _ _ _
    refine awp_seq ?_
    refine awp_cond rfl (fun hc3 => ?_) (fun hc3 => ?_)
    ·
      (try simp only [decide_eq_true_eq, decide_eq_false_iff_not, Bool.and_eq_true, Bool.or_eq_true, Bool.and_eq_false_iff, Bool.or_eq_false_iff, Bool.not_eq_true', Bool.not_eq_false', Bool.not_true, Bool.not_false, bif_and, bif_or, Bool.not_not, ne_eq, Decidable.not_not, not_true_eq_false, not_false_eq_true, Int.not_le, Int.not_lt] at hc3)
      have hlt : k < P.length := by omega
      obtain ⟨y, hx⟩ : ∃ y, P[k]? = some y := ⟨_, List.getElem?_eq_getElem hlt⟩
      have hya := hPa y (List.mem_of_getElem? hx)
      have hpy : ptA P k = y := by unfold ptA; rw [List.getD_eq_getElem?_getD, hx]; rfl
      have hin := smT_in (a := s.ar) (pr := pr) hpl hpb hPa k
      have hst : adT (smT s.ar s.pl pr P k) s.pl y.2 (smpI s.ar y.1 pr) s.pl.length = smT s.ar s.pl pr P (k + 1) := by rw [← hpy]; rfl
      refine awp_skip ?_
      change Awp _ _ _ _ _
      refine awp_seq ?_
      refine awp_block ?_
      refine awp_seq ?_
      refine awp_region 2 mixed (by kernel_rfl) ?_
      refine rg_q (q_indexAddr sl41 rfl rfl (by omega) (map_at (by omega) hx)) ?_
      refine rg_q (q_loadA (ds := [_, _, _]) sz49 rfl rfl rfl) ?_
      refine rg_nil ?_
      refine aops_alloc zr49 rfl rfl rfl ?_
      refine aops_store sz49 rfl rfl (by exact .inr ⟨_, rfl⟩) rfl rfl (by decide) rfl ?_
      refine aops_nil ?_
      change Awp _ _ _ _ _
      refine awp_region 10 mixed (by kernel_rfl) ?_
      refine rg_q (q_fieldAddr fld136_1 rfl) ?_
      refine rg_q (q_load sz51 rfl rfl) ?_
      refine rg_q (q_fieldAddr_ref fld49_1 rfl) ?_
      refine rg_q (q_load_ref sz3 rfl rfl rfl) ?_
      refine rg_q (q_fieldAddr fld136_0 rfl) ?_
      refine rg_q (q_loadA (ds := [_, _, _, _, _, _, _, _, _, _, _]) sz134 rfl rfl rfl) ?_
      refine rg_q (q_fieldAddr_ref fld49_0 rfl) ?_
      refine rg_q (q_load_refA (ds := [_, _]) sz38 rfl rfl rfl rfl) ?_
      refine rg_q (q_loadA (ds := [_, _]) sz75 rfl rfl rfl) ?_
      refine rg_q (q_call en83 (.cons rfl (.cons rfl (.cons rfl .nil))) rfl (sample_p s.ar y.1 pr hok hpk)) ?_
      refine rg_nil ?_
      refine aops_callL [6] [] en68 (sampAdd_p (smT s.ar s.pl pr P k) s.pl y.2 (smpI s.ar y.1 pr) (1600000 * (k : Int)) (smT_len _) hin (by omega) (by omega) (amp_mul hya hpb) (smp_in hok _ _)) (.cons rfl (.cons rfl (.cons rfl (.cons rfl .nil)))) rfl rfl rfl (by repeat (first | exact trivial | refine ⟨rfl, ?_⟩)) (by repeat (exact trivial)) rfl ?_
      refine aops_nil ?_
      change Awp _ _ _ _ _
      refine awp_region 2 mixed (by kernel_rfl) ?_
      refine rg_q (q_add rfl rfl (In64.mk (by omega) (by omega))) ?_
      refine rg_q (q_move (x := .d (.v _)) rfl) ?_
      refine rg_nil ?_
      refine aops_nil ?_
      refine ⟨k + 1, by omega, by omega, ?_⟩
      exact le_head (ms := [6]) (by repeat (first | exact Out.head rfl rfl | (refine Out.put ?_ rfl) | (refine Out.site ?_ rfl) | (refine Out.called ?_ rfl rfl))) ⟨(by rfl), trivial⟩ ⟨(by (show Site.box _ = Site.box _; rw [hst])), trivial⟩ rfl rfl rfl rfl
    ·
      (try simp only [decide_eq_true_eq, decide_eq_false_iff_not, Bool.and_eq_true, Bool.or_eq_true, Bool.and_eq_false_iff, Bool.or_eq_false_iff, Bool.not_eq_true', Bool.not_eq_false', Bool.not_true, Bool.not_false, bif_and, bif_or, Bool.not_not, ne_eq, Decidable.not_not, not_true_eq_false, not_false_eq_true, Int.not_le, Int.not_lt] at hc3)
      have hkn : k = P.length := by omega
      subst hkn
      refine awp_exit ?_
      change Awp _ _ _ _ _
      refine awp_seq ?_
      refine awp_seq ?_
      refine Awp.le (le_freeze 6 6 0 (cs := (smT s.ar s.pl pr P P.length).map iv) rfl rfl rfl rfl hmine) ?_
      refine awp_region 2 mixed (by kernel_rfl) ?_
      refine rg_q (q_call en87 (.cons rfl .nil) rfl (tooLarge_p (smT s.ar s.pl pr P P.length) (smT_len _))) ?_
      refine rg_q (q_assign (x := .d (.v _)) rfl) ?_
      refine rg_nil ?_
      refine aops_nil ?_
      change Awp _ _ _ _ _
      refine awp_seq ?_
      refine awp_region 2 mixed (by kernel_rfl) ?_
      refine rg_q (q_move (x := .d (.v _)) rfl) ?_
      refine rg_q (q_neq rfl rfl) ?_
      refine rg_nil ?_
      refine aops_nil ?_
      change Awp _ _ _ _ _
      refine awp_cond rfl (fun hc8 => ?_) (fun hc8 => ?_)
      ·
        (try simp only [decide_eq_true_eq, decide_eq_false_iff_not, Bool.and_eq_true, Bool.or_eq_true, Bool.and_eq_false_iff, Bool.or_eq_false_iff, Bool.not_eq_true', Bool.not_eq_false', Bool.not_true, Bool.not_false, bif_and, bif_or, Bool.not_not, ne_eq, Decidable.not_not, not_true_eq_false, not_false_eq_true, Int.not_le, Int.not_lt] at hc8)
        have hz : trcR s P pr = (z64, 8) := by
          unfold trcR
          rw [if_pos]
          cases hb : (smT s.ar s.pl pr P P.length).any bigB with
          | true => rfl
          | false => rw [hb] at hc8; exact absurd rfl hc8
        have hw : whenI ((smT s.ar s.pl pr P P.length).any bigB) 8 = 8 := by
          cases hb : (smT s.ar s.pl pr P P.length).any bigB with
          | true => rfl
          | false => rw [hb] at hc8; exact absurd rfl hc8
        refine awp_seq ?_
        refine awp_region 2 mixed (by kernel_rfl) ?_
        refine rg_q (q_buildA ar61 zr61 rfl .nil trivial rfl) ?_
        refine rg_q (q_move (x := .d (.v _)) rfl) ?_
        refine rg_nil ?_
        refine aops_store sz61 rfl rfl (by exact .inr ⟨_, rfl⟩) rfl rfl (by decide) rfl ?_
        refine aops_q rfl (q_assign (x := .d (.v _)) rfl) ?_
        refine aops_nil ?_
        change Awp _ _ _ _ _
        refine awp_ret ?_
        refine ⟨_, (.cons (.cellA rfl rfl sz61 (by rfl)) (.cons (.tmp (by exact .d _)) .nil)), ?_⟩
        rw [hz, hw]; rfl
      ·
        (try simp only [decide_eq_true_eq, decide_eq_false_iff_not, Bool.and_eq_true, Bool.or_eq_true, Bool.and_eq_false_iff, Bool.or_eq_false_iff, Bool.not_eq_true', Bool.not_eq_false', Bool.not_true, Bool.not_false, bif_and, bif_or, Bool.not_not, ne_eq, Decidable.not_not, not_true_eq_false, not_false_eq_true, Int.not_le, Int.not_lt] at hc8)
        have hz : trcR s P pr = ((smT s.ar s.pl pr P P.length).map fv, 0) := by
          unfold trcR
          rw [if_neg]
          intro hb
          rw [hb] at hc8
          exact absurd hc8 (by decide)
        refine awp_skip ?_
        change Awp _ _ _ _ _
        refine awp_seq ?_
        refine awp_region 1 mixed (by kernel_rfl) ?_
        refine rg_q (q_call en69 (.cons rfl .nil) rfl (trace_p (smT s.ar s.pl pr P P.length) (smT_len _))) ?_
        refine rg_nil ?_
        refine aops_store (cs' := (smT s.ar s.pl pr P P.length).map fv) sz61 rfl rfl (by exact .inr ⟨_, rfl⟩) hfl rfl (Nat.le_of_ble_eq_true rfl) (setCs_all hfl) ?_
        refine aops_q rfl (q_assign (x := .d (.v _)) rfl) ?_
        refine aops_nil ?_
        change Awp _ _ _ _ _
        refine awp_ret ?_
        refine ⟨_, (.cons (.cellA rfl rfl sz61 (by exact hfl)) (.cons (.tmp (by exact .d _)) .nil)), ?_⟩
        rw [hz]; rfl
end Go.Proofs.Ytblbnagdhcpnoaa.Am.M
