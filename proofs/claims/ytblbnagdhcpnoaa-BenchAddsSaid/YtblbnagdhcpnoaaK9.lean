/- Contracts over the abstract machine: package bench: points of flaws. Conditions: none. -/
import Derived.Test.YtblbnagdhcpnoaaK8
set_option linter.unusedVariables false
set_option linter.unusedSimpArgs false
-- mini
namespace Go.Proofs.Ytblbnagdhcpnoaa.Am.M
open Go

def ptnC (p : (Int × Int) × Int) : List D := [.v (.int .i64 p.1.1), .v (.int .i64 p.1.2), .v (.int .i64 p.2)]
def encN (p : (Int × Int) × Int) : List D := [.agg (ptnC p)]
def betw (n u v k : Int) : Int := rndI (u * (n - k) + v * k) n
def ptK (x : Flw) (k : Int) : (Int × Int) × Int := ((betw x.pc x.at_.1 x.to_.1 k, betw x.pc x.at_.2 x.to_.2 k), if k = 0 ∨ k = x.pc then x.tp else x.am)
def ptsTo (x : Flw) (k : Nat) : List ((Int × Int) × Int) := (List.range k).map fun i : Nat => ptK x (i : Int)
/-- The points of a flaw. -/
def ptsL (x : Flw) : List ((Int × Int) × Int) := if x.kd = 0 then [(x.at_, x.am)] else ptsTo x (x.pc + 1).toNat
theorem ptsTo_succ (x : Flw) (k : Nat) : ptsTo x (k + 1) = ptsTo x k ++ [ptK x (k : Int)] := by unfold ptsTo; rw [List.range_succ, List.map_append]; rfl
theorem ptsTo_pre {x : Flw} {j : Nat} : ∀ {k : Nat}, j ≤ k → ptsTo x j <+: ptsTo x k
  | 0, h => by have : j = 0 := by omega
               subst this; exact List.prefix_rfl
  | k + 1, h => by
    by_cases e : j = k + 1
    · subst e; exact List.prefix_rfl
    · rw [ptsTo_succ]; exact (ptsTo_pre (show j ≤ k by omega)).trans (List.prefix_append _ _)
structure FlwOk (x : Flw) : Prop where
  kd : 0 ≤ x.kd ∧ x.kd ≤ 1
  a1 : -100000 ≤ x.at_.1 ∧ x.at_.1 ≤ 100000
  a2 : -100000 ≤ x.at_.2 ∧ x.at_.2 ≤ 100000
  am : -1000 ≤ x.am ∧ x.am ≤ 1000
  pl : x.kd ≠ 0 → (-100000 ≤ x.to_.1 ∧ x.to_.1 ≤ 100000) ∧ (-100000 ≤ x.to_.2 ∧ x.to_.2 ≤ 100000) ∧ (1 ≤ x.pc ∧ x.pc ≤ 20) ∧ -1000 ≤ x.tp ∧ x.tp ≤ 1000
set_option maxRecDepth 100000 in
theorem between_p (u v k n : Int) (hu : -100000 ≤ u ∧ u ≤ 100000) (hv : -100000 ≤ v ∧ v ≤ 100000) (hk : 0 ≤ k ∧ k ≤ 20) (hn : 1 ≤ n ∧ n ≤ 20) : PC Try.prog 104 [.v (.int .i64 (u)), .v (.int .i64 (v)), .v (.int .i64 (k)), .pt [.v (.int .i64 (n))] 0] (.v (.int .i64 (betw n u v k))) := by
  obtain ⟨u1, u2⟩ := hu
  obtain ⟨v1, v2⟩ := hv
  have m1 := mulb (a := u) (b := n - k) (A := 100000) (B := 20) (by omega) (by omega) (by omega) (by omega)
  have m2 := mulb (a := v) (b := k) (A := 100000) (B := 20) (by omega) (by omega) (by omega) (by omega)
  refine pc_of_awp Try.func104 rfl Try.ntmps104 (rs := [.tmp 7]) Try.results104 (by simp) fun w0 => ?_
  refine awp_seq ?_
  refine awp_region 1 mixed (by kernel_rfl) ?_
  refine rg_q (q_assign (x := .d (.v _)) rfl) ?_
  refine rg_nil ?_
  refine aops_nil ?_
  change Awp _ _ _ _ _
  refine awp_seq ?_
  refine awp_region 12 mixed (by kernel_rfl) ?_
  refine rg_q (q_move (x := .d (.v _)) rfl) ?_
  refine rg_q (q_load sz3 rfl rfl) ?_
  refine rg_q (q_move (x := .d (.v _)) rfl) ?_
  refine rg_q (q_sub rfl rfl (In64.mk (by omega) (by omega))) ?_
  refine rg_q (q_mul rfl rfl (In64.mk (by omega) (by omega))) ?_
  refine rg_q (q_move (x := .d (.v _)) rfl) ?_
  refine rg_q (q_move (x := .d (.v _)) rfl) ?_
  refine rg_q (q_mul rfl rfl (In64.mk (by omega) (by omega))) ?_
  refine rg_q (q_add rfl rfl (In64.mk (by omega) (by omega))) ?_
  refine rg_q (q_load sz3 rfl rfl) ?_
  refine rg_q (q_call en105 (.cons rfl (.cons rfl .nil)) rfl (rounded_p _ _ (by omega) (by omega) (by omega) (by omega))) ?_
  refine rg_q (q_assign (x := .d (.v _)) rfl) ?_
  refine rg_nil ?_
  refine aops_nil ?_
  change Awp _ _ _ _ _
  refine awp_ret ?_
  refine ⟨_, (.cons (.tmp (by exact .d _)) .nil), ?_⟩
  rfl
set_option maxRecDepth 100000 in
theorem points_i (x : Flw) (hok : FlwOk x) : PI Try.prog 103 [] [.pt (flwC x) 0] (encN) (ptsL x) true := by
  obtain ⟨⟨kd1, kd2⟩, ha1, ha2, ham, hpl⟩ := hok
  refine pi_of_iwp Try.func103 rfl Try.ntmps103 rfl rfl fun J c l0 hJ hy hdat hfin => ?_
  refine iwp_seq ?_
  refine iwp_seq ?_
  apply iwp_reg hJ
  ·
    intro c1 hmine hrnd
    refine awp_region 3 mixed (by kernel_rfl) ?_
    refine rg_q (q_fieldAddr fld40_0 rfl) ?_
    refine rg_q (q_load sz3 rfl rfl) ?_
    refine rg_q (q_eql rfl rfl) ?_
    refine rg_nil ?_
    refine aops_nil ?_
    exact ⟨rfl, rfl⟩
  change Iwp _ _ _ _ _ _ _
  refine iwp_cond rfl (fun hc0 => ?_) (fun hc0 => ?_)
  ·
    (try simp only [decide_eq_true_eq, decide_eq_false_iff_not, Bool.and_eq_true, Bool.or_eq_true, Bool.and_eq_false_iff, Bool.or_eq_false_iff, Bool.not_eq_true', Bool.not_eq_false', Bool.not_true, Bool.not_false, bif_and, bif_or, Bool.not_not, ne_eq, Decidable.not_not, not_true_eq_false, not_false_eq_true, Int.not_le, Int.not_lt] at hc0)
    have hit : ptsL x = [(x.at_, x.am)] := by unfold ptsL; rw [if_pos hc0]
    refine iwp_seq ?_
    refine iwp_region ?_
    refine iops_of hJ rfl (fun c1 _ _ _ h => by exact aops_q rfl ((q_move (x := .d (.fn _ _)) rfl)) h) ?_
    refine iops_of hJ rfl (fun c1 _ _ _ h => by exact aops_q rfl ((q_fieldAddr fld40_1 rfl)) h) ?_
    refine iops_of hJ rfl (fun c1 _ _ _ h => by exact aops_q rfl ((q_loadA (ds := [_, _]) sz38 rfl rfl rfl)) h) ?_
    refine iops_of hJ rfl (fun c1 _ _ _ h => by exact aops_q rfl ((q_fieldAddr fld40_4 rfl)) h) ?_
    refine iops_of hJ rfl (fun c1 _ _ _ h => by exact aops_q rfl ((q_load sz3 rfl rfl)) h) ?_
    refine iops_of hJ rfl (fun c1 _ _ _ h => by exact aops_q rfl ((q_build (cs := [_, _, _]) pl49 zr49 rfl (.cons rfl (by exact .inr ⟨_, rfl⟩) (.cons rfl (by exact .inl rfl) .nil)) ⟨⟨rfl, by decide⟩, ⟨rfl, by decide⟩, trivial⟩ rfl)) h) ?_
    refine iops_yield (x := (x.at_, x.am)) hy hdat rfl (.cons rfl .nil) (by rw [hit]; exact List.prefix_rfl) rfl (fun yb => ?_)
    refine iops_nil ?_
    change Iwp _ _ _ _ _ _ _
    refine iwp_ret ?_
    exact ⟨.inl rfl, fun _ => by rw [hit]; rfl⟩
  ·
    (try simp only [decide_eq_true_eq, decide_eq_false_iff_not, Bool.and_eq_true, Bool.or_eq_true, Bool.and_eq_false_iff, Bool.or_eq_false_iff, Bool.not_eq_true', Bool.not_eq_false', Bool.not_true, Bool.not_false, bif_and, bif_or, Bool.not_not, ne_eq, Decidable.not_not, not_true_eq_false, not_false_eq_true, Int.not_le, Int.not_lt] at hc0)
    obtain ⟨ht1, ht2, ⟨n1, n2⟩, htp⟩ := hpl hc0
    obtain ⟨N, hN⟩ : ∃ N : Nat, x.pc = (N : Int) := ⟨x.pc.toNat, by omega⟩
    have hit : ptsL x = ptsTo x (N + 1) := by unfold ptsL; rw [if_neg hc0, show (x.pc + 1).toNat = N + 1 by omega]
    refine iwp_skip ?_
    change Iwp _ _ _ _ _ _ _
    refine iwp_seq ?_
    apply iwp_reg hJ
    ·
      intro c1 hmine hrnd
      refine awp_region 2 mixed (by kernel_rfl) ?_
      refine rg_q (q_fieldAddr fld40_3 rfl) ?_
      refine rg_q (q_load sz3 rfl rfl) ?_
      refine rg_nil ?_
      refine aops_alloc zr3 rfl rfl rfl ?_
      refine aops_store sz3 rfl rfl (by exact .inl rfl) rfl rfl (by decide) rfl ?_
      refine aops_nil ?_
      exact ⟨rfl, rfl⟩
    change Iwp _ _ _ _ _ _ _
    refine iwp_seq ?_
    apply iwp_reg hJ
    ·
      intro c1 hmine hrnd
      refine Awp.le (le_freeze 3 3 0 (cs := [.v (.int .i64 (x.pc))]) rfl rfl rfl rfl hmine) ?_
      refine awp_region 2 mixed (by kernel_rfl) ?_
      refine rg_q (q_makeFunc (.cons rfl .nil)) ?_
      refine rg_q (q_assign (x := .d (.fn _ _)) rfl) ?_
      refine rg_nil ?_
      refine aops_nil ?_
      exact ⟨rfl, rfl⟩
    change Iwp _ _ _ _ _ _ _
    refine iwp_seq ?_
    apply iwp_reg hJ
    ·
      intro c1 hmine hrnd
      refine awp_region 3 mixed (by kernel_rfl) ?_
      refine rg_q (q_load sz3 rfl rfl) ?_
      refine rg_q (q_add rfl rfl (In64.mk (by omega) (by omega))) ?_
      refine rg_q (q_move (x := .d (.v _)) rfl) ?_
      refine rg_nil ?_
      refine aops_nil ?_
      exact ⟨rfl, rfl⟩
    change Iwp _ _ _ _ _ _ _
    refine iwp_block ?_
    refine iwp_loopH [5, 6, 22, 23, 24, 25, 26, 27, 28, 29, 30, 31, 32, 33, 34, 35, 36, 37, 38, 39, 40, 41, 42, 43, 44, 45, 46, 47, 48, 49, 50, 51, 52, 53, 54, 55, 56, 57, 58, 59, 60, 61] [] (β := Nat) (fun k => [(22, T.i (k : Int))]) (fun k => []) (fun k => (true, ptsTo x k)) (fun k => k ≤ N + 1) (fun k => N + 1 - k) 0 (Nat.zero_le _) rfl (fun c1 => ?_) ?_
    · exact le_head (ms := []) (by repeat (exact Out.refl _)) ⟨(by rfl), trivial⟩ trivial rfl rfl rfl rfl
    ·
      intro k hk
      refine iwp_seq ?_
      apply iwp_reg hJ
      ·
        intro c1 hmine hrnd
        refine awp_region 1 mixed (by kernel_rfl) ?_
        refine rg_q (q_lss rfl rfl) ?_
        refine rg_nil ?_
        refine aops_nil ?_
        exact ⟨rfl, rfl⟩
      change Iwp _ _ _ _ _ _ _
      refine iwp_seq ?_
      refine iwp_cond rfl (fun hc5 => ?_) (fun hc5 => ?_)
      ·
        (try simp only [decide_eq_true_eq, decide_eq_false_iff_not, Bool.and_eq_true, Bool.or_eq_true, Bool.and_eq_false_iff, Bool.or_eq_false_iff, Bool.not_eq_true', Bool.not_eq_false', Bool.not_true, Bool.not_false, bif_and, bif_or, Bool.not_not, ne_eq, Decidable.not_not, not_true_eq_false, not_false_eq_true, Int.not_le, Int.not_lt] at hc5)
        have hlt : k < N + 1 := by omega
        have hpre : ptsTo x k ++ [ptK x (k : Int)] <+: ptsL x := by rw [hit, ← ptsTo_succ]; exact ptsTo_pre (by omega)
        refine iwp_skip ?_
        change Iwp _ _ _ _ _ _ _
        refine iwp_seq ?_
        refine iwp_block ?_
        refine iwp_seq ?_
        apply iwp_reg hJ
        ·
          intro c1 hmine hrnd
          refine awp_region 2 mixed (by kernel_rfl) ?_
          refine rg_q (q_move (x := .d (.v _)) rfl) ?_
          refine rg_q (q_assign (x := .d (.v _)) rfl) ?_
          refine rg_nil ?_
          refine aops_nil ?_
          exact ⟨rfl, rfl⟩
        change Iwp _ _ _ _ _ _ _
        refine iwp_seq ?_
        apply iwp_reg hJ
        ·
          intro c1 hmine hrnd
          refine awp_regionM 24 [none, none, none, none, none, none, none, none, none, none, none, none, none, none, none, none, none, none, none, none, none, none, some 6, some 6] mixed (by kernel_rfl) ?_
          refine rgm_q rfl (q_move (x := .d (.fn _ _)) rfl) ?_
          refine rgm_q rfl (q_fieldAddr fld40_1 rfl) ?_
          refine rgm_q rfl (q_fieldAddr fld38_0 rfl) ?_
          refine rgm_q rfl (q_load sz3 rfl rfl) ?_
          refine rgm_q rfl (q_fieldAddr fld40_2 rfl) ?_
          refine rgm_q rfl (q_fieldAddr fld38_0 rfl) ?_
          refine rgm_q rfl (q_load sz3 rfl rfl) ?_
          refine rgm_q rfl (q_move (x := .d (.v _)) rfl) ?_
          refine rgm_q rfl (q_callC en104 rfl (.cons rfl (.cons rfl (.cons rfl .nil))) (between_p x.at_.1 x.to_.1 (k : Int) x.pc ha1 ht1 ⟨by omega, by omega⟩ ⟨n1, n2⟩)) ?_
          refine rgm_q rfl (q_move (x := .d (.fn _ _)) rfl) ?_
          refine rgm_q rfl (q_fieldAddr fld40_1 rfl) ?_
          refine rgm_q rfl (q_fieldAddr fld38_1 rfl) ?_
          refine rgm_q rfl (q_load sz3 rfl rfl) ?_
          refine rgm_q rfl (q_fieldAddr fld40_2 rfl) ?_
          refine rgm_q rfl (q_fieldAddr fld38_1 rfl) ?_
          refine rgm_q rfl (q_load sz3 rfl rfl) ?_
          refine rgm_q rfl (q_move (x := .d (.v _)) rfl) ?_
          refine rgm_q rfl (q_callC en104 rfl (.cons rfl (.cons rfl (.cons rfl .nil))) (between_p x.at_.2 x.to_.2 (k : Int) x.pc ha2 ht2 ⟨by omega, by omega⟩ ⟨n1, n2⟩)) ?_
          refine rgm_q rfl (q_build (cs := [_, _]) pl38 zr38 rfl (.cons rfl (by exact .inl rfl) (.cons rfl (by exact .inl rfl) .nil)) ⟨⟨rfl, by decide⟩, ⟨rfl, by decide⟩, trivial⟩ rfl) ?_
          refine rgm_q rfl (q_fieldAddr fld40_4 rfl) ?_
          refine rgm_q rfl (q_load sz3 rfl rfl) ?_
          refine rgm_q rfl (q_build (cs := [_, _, _]) pl49 zr49 rfl (.cons rfl (by exact .inr ⟨_, rfl⟩) (.cons rfl (by exact .inl rfl) .nil)) ⟨⟨rfl, by decide⟩, ⟨rfl, by decide⟩, trivial⟩ rfl) ?_
          refine rgm_m (k := 6) rfl rfl (by rfl) (m_alloc zr49 rfl rfl) ?_
          refine rgm_m (k := 6) rfl rfl (by rfl) (m_store sz49 rfl rfl (by exact .inr ⟨_, rfl⟩) rfl rfl (by decide) rfl) ?_
          refine rgm_nil ?_
          refine aops_nil ?_
          exact ⟨rfl, rfl⟩
        change Iwp _ _ _ _ _ _ _
        refine iwp_seq ?_
        refine iwp_seq ?_
        apply iwp_reg hJ
        ·
          intro c1 hmine hrnd
          refine awp_region 7 mixed (by kernel_rfl) ?_
          refine rg_q (q_move (x := .d (.v _)) rfl) ?_
          refine rg_q (q_eql rfl rfl) ?_
          refine rg_q (q_move (x := .d (.v _)) rfl) ?_
          refine rg_g rfl rfl (fun hG => (q_move (x := .d (.v _)) rfl)) ?_
          refine rg_g rfl rfl (fun hG => (q_load sz3 rfl rfl)) ?_
          refine rg_g rfl rfl (fun hG => (q_eql rfl rfl)) ?_
          refine rg_pick rfl rfl rfl rfl rfl rfl ?_
          refine rg_nil ?_
          refine aops_nil ?_
          exact ⟨rfl, rfl⟩
        change Iwp _ _ _ _ _ _ _
        refine iwp_cond rfl (fun hc8 => ?_) (fun hc8 => ?_)
        ·
          (try simp only [decide_eq_true_eq, decide_eq_false_iff_not, Bool.and_eq_true, Bool.or_eq_true, Bool.and_eq_false_iff, Bool.or_eq_false_iff, Bool.not_eq_true', Bool.not_eq_false', Bool.not_true, Bool.not_false, bif_and, bif_or, Bool.not_not, ne_eq, Decidable.not_not, not_true_eq_false, not_false_eq_true, Int.not_le, Int.not_lt] at hc8)
          have hpk : ptK x (k : Int) = ((betw x.pc x.at_.1 x.to_.1 k, betw x.pc x.at_.2 x.to_.2 k), x.tp) := by unfold ptK; rw [if_pos (by omega)]
          apply iwp_reg hJ
          ·
            intro c1 hmine hrnd
            refine awp_region 3 mixed (by kernel_rfl) ?_
            refine rg_q (q_fieldAddr fld40_5 rfl) ?_
            refine rg_q (q_load sz3 rfl rfl) ?_
            refine rg_q (q_fieldAddr_ref fld49_1 rfl) ?_
            refine rg_nil ?_
            refine aops_store sz3 rfl rfl (by exact .inl rfl) rfl rfl (by exact Nat.le_of_ble_eq_true rfl) rfl ?_
            refine aops_nil ?_
            exact ⟨rfl, rfl⟩
          change Iwp _ _ _ _ _ _ _
          refine iwp_seq ?_
          refine iwp_region ?_
          refine iops_of hJ rfl (fun c1 _ _ _ h => by exact aops_q rfl ((q_move (x := .d (.fn _ _)) rfl)) h) ?_
          refine iops_of hJ rfl (fun c1 _ _ _ h => by exact aops_q rfl ((q_load_refA (ds := [_, _, _]) sz49 rfl rfl rfl rfl)) h) ?_
          refine iops_yield (x := ((betw x.pc x.at_.1 x.to_.1 (k : Int), betw x.pc x.at_.2 x.to_.2 (k : Int)), x.tp)) hy hdat rfl (.cons rfl .nil) (by rw [← hpk]; exact hpre) rfl (fun yb => ?_)
          refine iops_of hJ rfl (fun c1 _ _ _ h => by exact aops_q rfl ((q_not rfl)) h) ?_
          refine iops_nil ?_
          change Iwp _ _ _ _ _ _ _
          refine iwp_cond rfl (fun hc10 => ?_) (fun hc10 => ?_)
          ·
            (try simp only [decide_eq_true_eq, decide_eq_false_iff_not, Bool.and_eq_true, Bool.or_eq_true, Bool.and_eq_false_iff, Bool.or_eq_false_iff, Bool.not_eq_true', Bool.not_eq_false', Bool.not_true, Bool.not_false, bif_and, bif_or, Bool.not_not, ne_eq, Decidable.not_not, not_true_eq_false, not_false_eq_true, Int.not_le, Int.not_lt] at hc10)
            have hyb : yb = false := by cases yb <;> first | rfl | (exfalso; simp_all; done)
            refine iwp_ret ?_
            exact ⟨.inl rfl, fun h => by rw [hyb] at h; cases h⟩
          ·
            (try simp only [decide_eq_true_eq, decide_eq_false_iff_not, Bool.and_eq_true, Bool.or_eq_true, Bool.and_eq_false_iff, Bool.or_eq_false_iff, Bool.not_eq_true', Bool.not_eq_false', Bool.not_true, Bool.not_false, bif_and, bif_or, Bool.not_not, ne_eq, Decidable.not_not, not_true_eq_false, not_false_eq_true, Int.not_le, Int.not_lt] at hc10)
            have hyb : yb = true := by cases yb <;> first | rfl | (exfalso; simp_all; done)
            refine iwp_skip ?_
            change Iwp _ _ _ _ _ _ _
            apply iwp_reg hJ
            ·
              intro c1 hmine hrnd
              refine awp_region 2 mixed (by kernel_rfl) ?_
              refine rg_q (q_add rfl rfl (In64.mk (by omega) (by omega))) ?_
              refine rg_q (q_move (x := .d (.v _)) rfl) ?_
              refine rg_nil ?_
              refine aops_nil ?_
              exact ⟨rfl, rfl⟩
            refine ⟨k + 1, by omega, by omega, by rw [hyb, ptsTo_succ, hpk], fun c1 => ?_⟩
            exact le_head (ms := []) (by repeat (first | exact Out.head rfl rfl | (refine Out.put ?_ rfl) | (refine Out.site ?_ rfl))) ⟨(by rfl), trivial⟩ trivial rfl rfl rfl rfl
        ·
          (try simp only [decide_eq_true_eq, decide_eq_false_iff_not, Bool.and_eq_true, Bool.or_eq_true, Bool.and_eq_false_iff, Bool.or_eq_false_iff, Bool.not_eq_true', Bool.not_eq_false', Bool.not_true, Bool.not_false, bif_and, bif_or, Bool.not_not, ne_eq, Decidable.not_not, not_true_eq_false, not_false_eq_true, Int.not_le, Int.not_lt] at hc8)
          have hpk : ptK x (k : Int) = ((betw x.pc x.at_.1 x.to_.1 k, betw x.pc x.at_.2 x.to_.2 k), x.am) := by unfold ptK; rw [if_neg (by omega)]
          refine iwp_skip ?_
          change Iwp _ _ _ _ _ _ _
          refine iwp_seq ?_
          refine iwp_region ?_
          refine iops_of hJ rfl (fun c1 _ _ _ h => by exact aops_q rfl ((q_move (x := .d (.fn _ _)) rfl)) h) ?_
          refine iops_of hJ rfl (fun c1 _ _ _ h => by exact aops_q rfl ((q_load_refA (ds := [_, _, _]) sz49 rfl rfl rfl rfl)) h) ?_
          refine iops_yield (x := ((betw x.pc x.at_.1 x.to_.1 (k : Int), betw x.pc x.at_.2 x.to_.2 (k : Int)), x.am)) hy hdat rfl (.cons rfl .nil) (by rw [← hpk]; exact hpre) rfl (fun yb => ?_)
          refine iops_of hJ rfl (fun c1 _ _ _ h => by exact aops_q rfl ((q_not rfl)) h) ?_
          refine iops_nil ?_
          change Iwp _ _ _ _ _ _ _
          refine iwp_cond rfl (fun hc10 => ?_) (fun hc10 => ?_)
          ·
            (try simp only [decide_eq_true_eq, decide_eq_false_iff_not, Bool.and_eq_true, Bool.or_eq_true, Bool.and_eq_false_iff, Bool.or_eq_false_iff, Bool.not_eq_true', Bool.not_eq_false', Bool.not_true, Bool.not_false, bif_and, bif_or, Bool.not_not, ne_eq, Decidable.not_not, not_true_eq_false, not_false_eq_true, Int.not_le, Int.not_lt] at hc10)
            have hyb : yb = false := by cases yb <;> first | rfl | (exfalso; simp_all; done)
            refine iwp_ret ?_
            exact ⟨.inl rfl, fun h => by rw [hyb] at h; cases h⟩
          ·
            (try simp only [decide_eq_true_eq, decide_eq_false_iff_not, Bool.and_eq_true, Bool.or_eq_true, Bool.and_eq_false_iff, Bool.or_eq_false_iff, Bool.not_eq_true', Bool.not_eq_false', Bool.not_true, Bool.not_false, bif_and, bif_or, Bool.not_not, ne_eq, Decidable.not_not, not_true_eq_false, not_false_eq_true, Int.not_le, Int.not_lt] at hc10)
            have hyb : yb = true := by cases yb <;> first | rfl | (exfalso; simp_all; done)
            refine iwp_skip ?_
            change Iwp _ _ _ _ _ _ _
            apply iwp_reg hJ
            ·
              intro c1 hmine hrnd
              refine awp_region 2 mixed (by kernel_rfl) ?_
              refine rg_q (q_add rfl rfl (In64.mk (by omega) (by omega))) ?_
              refine rg_q (q_move (x := .d (.v _)) rfl) ?_
              refine rg_nil ?_
              refine aops_nil ?_
              exact ⟨rfl, rfl⟩
            refine ⟨k + 1, by omega, by omega, by rw [hyb, ptsTo_succ, hpk], fun c1 => ?_⟩
            exact le_head (ms := []) (by repeat (first | exact Out.head rfl rfl | (refine Out.put ?_ rfl) | (refine Out.site ?_ rfl))) ⟨(by rfl), trivial⟩ trivial rfl rfl rfl rfl
      ·
        (try simp only [decide_eq_true_eq, decide_eq_false_iff_not, Bool.and_eq_true, Bool.or_eq_true, Bool.and_eq_false_iff, Bool.or_eq_false_iff, Bool.not_eq_true', Bool.not_eq_false', Bool.not_true, Bool.not_false, bif_and, bif_or, Bool.not_not, ne_eq, Decidable.not_not, not_true_eq_false, not_false_eq_true, Int.not_le, Int.not_lt] at hc5)
        have hkn : k = N + 1 := by omega
        refine iwp_exit ?_
        exact ⟨.inr rfl, fun _ => by rw [hkn, hit]⟩
set_option maxRecDepth 100000 in
theorem points_p (x : Flw) : PC Try.prog 59 [.agg (flwC x)] (.fn (.func 103) [.pt (flwC x) 0]) := by
  refine pc_of_awp Try.func59 rfl Try.ntmps59 (rs := [.tmp 2]) Try.results59 (by simp) fun w0 => ?_
  refine awp_seq ?_
  refine awp_region 2 mixed (by kernel_rfl) ?_
  refine rg_q (q_box rfl (by exact .inr ⟨_, rfl⟩)) ?_
  refine rg_q (q_assign (x := .d (.v .nilFunc)) rfl) ?_
  refine rg_nil ?_
  refine aops_nil ?_
  change Awp _ _ _ _ _
  refine awp_seq ?_
  refine awp_region 2 mixed (by kernel_rfl) ?_
  refine rg_q (q_makeFunc (.cons rfl .nil)) ?_
  refine rg_q (q_assign (x := .d (.fn _ _)) rfl) ?_
  refine rg_nil ?_
  refine aops_nil ?_
  change Awp _ _ _ _ _
  refine awp_ret ?_
  refine ⟨_, (.cons (.tmp (by exact .d _)) .nil), ?_⟩
  rfl
end Go.Proofs.Ytblbnagdhcpnoaa.Am.M
