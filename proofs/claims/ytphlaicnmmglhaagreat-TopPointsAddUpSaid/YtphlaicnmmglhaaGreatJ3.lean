/- Contracts over the abstract machine, joined. Conditions: none. -/
import Derived.Test.YtphlaicnmmglhaaGreatJ2
import Derived.Test.YtphlaicnmmglhaaGreatAmF
import Derived.Test.YtphlaicnmmglhaaGreatJ1
set_option linter.unusedVariables false
set_option linter.unusedSimpArgs false
-- mini
namespace Go.Proofs.YtphlaicnmmglhaaGreat.Am.M
open Go

def ptnC (p : (Int × Int) × Int) : List D := [.v (.int .i64 p.1.1), .v (.int .i64 p.1.2), .v (.int .i64 p.2)]
def encN (p : (Int × Int) × Int) : List D := [.agg (ptnC p)]
def betw (n u v k : Int) : Int := rndI (u * (n - k) + v * k) n
def ptK (x : Flw) (k : Int) : (Int × Int) × Int := ((betw x.pc x.at_.1 x.to_.1 k, betw x.pc x.at_.2 x.to_.2 k), if k = 0 ∨ k = x.pc then x.tp else x.am)
def ptsTo (x : Flw) (k : Nat) : List ((Int × Int) × Int) := (List.range k).map fun i : Nat => ptK x (i : Int)
def ptsL (x : Flw) : List ((Int × Int) × Int) := if x.kd = 0 then [(x.at_, x.am)] else ptsTo x (x.pc + 1).toNat
theorem ptsTo_succ (x : Flw) (k : Nat) : ptsTo x (k + 1) = ptsTo x k ++ [ptK x (k : Int)] := by unfold ptsTo; rw [List.range_succ, List.map_append]; rfl
theorem ptsTo_pre {x : Flw} {j : Nat} : ∀ {k : Nat}, j ≤ k → ptsTo x j <+: ptsTo x k
  | 0, h => by have : j = 0 := by omega
               subst this; exact List.prefix_rfl
  | k + 1, h => by
    by_cases e : j = k + 1
    · subst e; exact List.prefix_rfl
    · rw [ptsTo_succ]; exact (ptsTo_pre (show j ≤ k by omega)).trans (List.prefix_append _ _)
structure FlwOk (x : Flw) : Prop where
  kd : 0 ≤ x.kd ∧ x.kd ≤ 1
  a1 : -100000 ≤ x.at_.1 ∧ x.at_.1 ≤ 100000
  a2 : -100000 ≤ x.at_.2 ∧ x.at_.2 ≤ 100000
  am : -1000 ≤ x.am ∧ x.am ≤ 1000
  pl : x.kd ≠ 0 → (-100000 ≤ x.to_.1 ∧ x.to_.1 ≤ 100000) ∧ (-100000 ≤ x.to_.2 ∧ x.to_.2 ≤ 100000) ∧ (1 ≤ x.pc ∧ x.pc ≤ 20) ∧ -1000 ≤ x.tp ∧ x.tp ≤ 1000
set_option maxRecDepth 100000 in
theorem between_p (u v k n : Int) (hu : -100000 ≤ u ∧ u ≤ 100000) (hv : -100000 ≤ v ∧ v ≤ 100000) (hk : 0 ≤ k ∧ k ≤ 20) (hn : 1 ≤ n ∧ n ≤ 20) : PC Tryz.prog 263 [.v (.int .i64 (u)), .v (.int .i64 (v)), .v (.int .i64 (k)), .pt [.v (.int .i64 (n))] 0] (.v (.int .i64 (betw n u v k))) := by
 obtain ⟨u1, u2⟩ := hu
 obtain ⟨v1, v2⟩ := hv
 have m1 := mulb (a := u) (b := n - k) (A := 100000) (B := 20) (by omega) (by omega) (by omega) (by omega)
 have m2 := mulb (a := v) (b := k) (A := 100000) (B := 20) (by omega) (by omega) (by omega) (by omega)
 refine pc_of_awp Tryz.func263 rfl Tryz.ntmps263 (rs := [.tmp 7]) Tryz.results263 (by simp) fun w0 => ?_
 refine awp_seq ?_
 refine awp_region 1 mixed (by kernel_rfl) ?_
 refine rg_q (q_a rfl) ?_
 refine rs (awp_region 12 mixed (by kernel_rfl) ?_)
 refine rg_q (q_m rfl) (rg_q (q_load sz3 rfl rfl) (rg_q (q_m rfl) ?_))
 refine rg_q (q_sub rfl rfl (In64.mk (by omega) (by omega))) ?_
 refine rg_q (q_mul rfl rfl (In64.mk (by omega) (by omega))) ?_
 refine rg_q (q_m rfl) (rg_q (q_m rfl) ?_)
 refine rg_q (q_mul rfl rfl (In64.mk (by omega) (by omega))) ?_
 refine rg_q (q_add rfl rfl (In64.mk (by omega) (by omega))) ?_
 refine rg_q (q_load sz3 rfl rfl) ?_
 refine rg_q (q_call en264 (.cons rfl (.cons rfl .nil)) rfl (rounded_p _ _ (by omega) (by omega) (by omega) (by omega))) ?_
 refine rg_q (q_a rfl) ?_
 refine rn ?_
 change Awp _ _ _ _ _
 refine awp_ret ?_
 refine ⟨_, (.cons (.tmp (by exact .d _)) .nil), ?_⟩
 rfl
set_option maxRecDepth 100000 in
theorem points_i (x : Flw) (hok : FlwOk x) : PI Tryz.prog 262 [] [.pt (flwC x) 0] (encN) (ptsL x) true := by
  obtain ⟨⟨kd1, kd2⟩, ha1, ha2, ham, hpl⟩ := hok
  refine pi_of_iwp Tryz.func262 rfl Tryz.ntmps262 rfl rfl fun J c l0 hJ hy hdat hfin => ?_
  refine iwp_seq ?_
  refine iwp_seq ?_
  apply iwp_reg hJ
  ·
    intro c1 hmine hrnd
    refine awp_region 3 mixed (by kernel_rfl) ?_
    refine rg_q (q_fieldAddr fld135_0 rfl) (rg_q (q_load sz3 rfl rfl) (rg_q (q_eql rfl rfl) ?_))
    refine rn ?_
    exact ⟨rfl, rfl⟩
  change Iwp _ _ _ _ _ _ _
  refine iwp_cond rfl (fun hc0 => ?_) (fun hc0 => ?_)
  ·
    (try simp only [nb, ne_eq] at hc0)
    have hit : ptsL x = [(x.at_, x.am)] := by unfold ptsL; rw [if_pos hc0]
    refine iwp_seq ?_
    refine iwp_region ?_
    refine iops_of hJ rfl (fun c1 _ _ _ h => by exact aops_q rfl ((q_move (x := .d (.fn _ _)) rfl)) h) ?_
    refine iops_of hJ rfl (fun c1 _ _ _ h => by exact aops_q rfl ((q_fieldAddr fld135_1 rfl)) h) ?_
    refine iops_of hJ rfl (fun c1 _ _ _ h => by exact aops_q rfl ((q_loadA (ds := [_, _]) sz33 rfl rfl rfl)) h) ?_
    refine iops_of hJ rfl (fun c1 _ _ _ h => by exact aops_q rfl ((q_fieldAddr fld135_4 rfl)) h) ?_
    refine iops_of hJ rfl (fun c1 _ _ _ h => by exact aops_q rfl ((q_load sz3 rfl rfl)) h) ?_
    refine iops_of hJ rfl (fun c1 _ _ _ h => by exact aops_q rfl ((q_build (cs := [_, _, _]) pl317 zr317 rfl (.cons rfl (by exact .inr ⟨_, rfl⟩) (.cons rfl (by exact .inl rfl) .nil)) ⟨⟨rfl, by decide⟩, ⟨rfl, by decide⟩, trivial⟩ rfl)) h) ?_
    refine iops_yield (x := (x.at_, x.am)) hy hdat rfl (.cons rfl .nil) (by rw [hit]; exact List.prefix_rfl) rfl (fun yb => ?_)
    refine iops_nil ?_
    change Iwp _ _ _ _ _ _ _
    refine iwp_ret ?_
    exact ⟨.inl rfl, fun _ => by rw [hit]; rfl⟩
  ·
    (try simp only [nb, ne_eq] at hc0)
    obtain ⟨ht1, ht2, ⟨n1, n2⟩, htp⟩ := hpl hc0
    obtain ⟨N, hN⟩ : ∃ N : Nat, x.pc = (N : Int) := ⟨x.pc.toNat, by omega⟩
    have hit : ptsL x = ptsTo x (N + 1) := by unfold ptsL; rw [if_neg hc0, show (x.pc + 1).toNat = N + 1 by omega]
    refine iwp_skip ?_
    change Iwp _ _ _ _ _ _ _
    refine iwp_seq ?_
    apply iwp_reg hJ
    ·
      intro c1 hmine hrnd
      refine awp_region 2 mixed (by kernel_rfl) ?_
      refine rg_q (q_fieldAddr fld135_3 rfl) (rg_q (q_load sz3 rfl rfl) ?_)
      refine rg_nil ?_
      refine aops_alloc zr3 rfl rfl rfl ?_
      refine aops_store sz3 rfl rfl (by exact .inl rfl) rfl rfl (by decide) rfl ?_
      refine aops_nil ?_
      exact ⟨rfl, rfl⟩
    change Iwp _ _ _ _ _ _ _
    refine iwp_seq ?_
    apply iwp_reg hJ
    ·
      intro c1 hmine hrnd
      refine Awp.le (le_freeze 3 3 0 (cs := [.v (.int .i64 (x.pc))]) rfl rfl rfl rfl hmine) ?_
      refine awp_region 2 mixed (by kernel_rfl) ?_
      refine rg_q (q_makeFunc (.cons rfl .nil)) ?_
      refine rg_q (q_assign (x := .d (.fn _ _)) rfl) ?_
      refine rn ?_
      exact ⟨rfl, rfl⟩
    change Iwp _ _ _ _ _ _ _
    refine iwp_seq ?_
    apply iwp_reg hJ
    ·
      intro c1 hmine hrnd
      refine awp_region 3 mixed (by kernel_rfl) ?_
      refine rg_q (q_load sz3 rfl rfl) ?_
      refine rg_q (q_add rfl rfl (In64.mk (by omega) (by omega))) ?_
      refine rg_q (q_m rfl) ?_
      refine rn ?_
      exact ⟨rfl, rfl⟩
    change Iwp _ _ _ _ _ _ _
    refine iwp_block ?_
    refine iwp_loopH [5, 6, 22, 23, 24, 25, 26, 27, 28, 29, 30, 31, 32, 33, 34, 35, 36, 37, 38, 39, 40, 41, 42, 43, 44, 45, 46, 47, 48, 49, 50, 51, 52, 53, 54, 55, 56, 57, 58, 59, 60, 61] [] (β := Nat) (fun k => [(22, T.i (k : Int))]) (fun k => []) (fun k => (true, ptsTo x k)) (fun k => k ≤ N + 1) (fun k => N + 1 - k) 0 (Nat.zero_le _) rfl (fun c1 => ?_) ?_
    · exact le_head (ms := []) (by repeat (exact Out.refl _)) ⟨(by rfl), trivial⟩ trivial rfl rfl rfl rfl
    ·
      intro k hk
      refine iwp_seq ?_
      apply iwp_reg hJ
      ·
        intro c1 hmine hrnd
        refine awp_region 1 mixed (by kernel_rfl) ?_
        refine rg_q (q_lss rfl rfl) ?_
        refine rn ?_
        exact ⟨rfl, rfl⟩
      change Iwp _ _ _ _ _ _ _
      refine iwp_seq ?_
      refine iwp_cond rfl (fun hc5 => ?_) (fun hc5 => ?_)
      ·
        (try simp only [nb, ne_eq] at hc5)
        have hlt : k < N + 1 := by omega
        have hpre : ptsTo x k ++ [ptK x (k : Int)] <+: ptsL x := by rw [hit, ← ptsTo_succ]; exact ptsTo_pre (by omega)
        refine iwp_skip ?_
        change Iwp _ _ _ _ _ _ _
        refine iwp_seq ?_
        refine iwp_block ?_
        refine iwp_seq ?_
        apply iwp_reg hJ
        ·
          intro c1 hmine hrnd
          refine awp_region 2 mixed (by kernel_rfl) ?_
          refine rg_q (q_m rfl) (rg_q (q_a rfl) ?_)
          refine rn ?_
          exact ⟨rfl, rfl⟩
        change Iwp _ _ _ _ _ _ _
        refine iwp_seq ?_
        apply iwp_reg hJ
        ·
          intro c1 hmine hrnd
          refine awp_regionM 24 [none, none, none, none, none, none, none, none, none, none, none, none, none, none, none, none, none, none, none, none, none, none, some 6, some 6] mixed (by kernel_rfl) ?_
          refine rgm_q rfl (q_move (x := .d (.fn _ _)) rfl) ?_
          refine rgm_q rfl (q_fieldAddr fld135_1 rfl) ?_
          refine rgm_q rfl (q_fieldAddr fld33_0 rfl) ?_
          refine rgm_q rfl (q_load sz3 rfl rfl) ?_
          refine rgm_q rfl (q_fieldAddr fld135_2 rfl) ?_
          refine rgm_q rfl (q_fieldAddr fld33_0 rfl) ?_
          refine rgm_q rfl (q_load sz3 rfl rfl) ?_
          refine rgm_q rfl (q_m rfl) ?_
          refine rgm_q rfl (q_callC en263 rfl (.cons rfl (.cons rfl (.cons rfl .nil))) (between_p x.at_.1 x.to_.1 (k : Int) x.pc ha1 ht1 ⟨by omega, by omega⟩ ⟨n1, n2⟩)) ?_
          refine rgm_q rfl (q_move (x := .d (.fn _ _)) rfl) ?_
          refine rgm_q rfl (q_fieldAddr fld135_1 rfl) ?_
          refine rgm_q rfl (q_fieldAddr fld33_1 rfl) ?_
          refine rgm_q rfl (q_load sz3 rfl rfl) ?_
          refine rgm_q rfl (q_fieldAddr fld135_2 rfl) ?_
          refine rgm_q rfl (q_fieldAddr fld33_1 rfl) ?_
          refine rgm_q rfl (q_load sz3 rfl rfl) ?_
          refine rgm_q rfl (q_m rfl) ?_
          refine rgm_q rfl (q_callC en263 rfl (.cons rfl (.cons rfl (.cons rfl .nil))) (between_p x.at_.2 x.to_.2 (k : Int) x.pc ha2 ht2 ⟨by omega, by omega⟩ ⟨n1, n2⟩)) ?_
          refine rgm_q rfl (q_build (cs := [_, _]) pl33 zr33 rfl (.cons rfl (by exact .inl rfl) (.cons rfl (by exact .inl rfl) .nil)) ⟨⟨rfl, by decide⟩, ⟨rfl, by decide⟩, trivial⟩ rfl) ?_
          refine rgm_q rfl (q_fieldAddr fld135_4 rfl) ?_
          refine rgm_q rfl (q_load sz3 rfl rfl) ?_
          refine rgm_q rfl (q_build (cs := [_, _, _]) pl317 zr317 rfl (.cons rfl (by exact .inr ⟨_, rfl⟩) (.cons rfl (by exact .inl rfl) .nil)) ⟨⟨rfl, by decide⟩, ⟨rfl, by decide⟩, trivial⟩ rfl) ?_
          refine rgm_m (k := 6) rfl rfl (by rfl) (m_alloc zr317 rfl rfl) ?_
          refine rgm_m (k := 6) rfl rfl (by rfl) (m_store sz317 rfl rfl (by exact .inr ⟨_, rfl⟩) rfl rfl (by decide) rfl) ?_
          refine rgm_nil (aops_nil ?_)
          exact ⟨rfl, rfl⟩
        change Iwp _ _ _ _ _ _ _
        refine iwp_seq ?_
        refine iwp_seq ?_
        apply iwp_reg hJ
        ·
          intro c1 hmine hrnd
          refine awp_region 7 mixed (by kernel_rfl) ?_
          refine rg_q (q_m rfl) (rg_q (q_eql rfl rfl) (rg_q (q_m rfl) ?_))
          refine rg_g rfl rfl (fun hG => (q_m rfl)) ?_
          refine rg_g rfl rfl (fun hG => (q_load sz3 rfl rfl)) ?_
          refine rg_g rfl rfl (fun hG => (q_eql rfl rfl)) ?_
          refine rg_pick rfl rfl rfl rfl rfl rfl ?_
          refine rn ?_
          exact ⟨rfl, rfl⟩
        change Iwp _ _ _ _ _ _ _
        refine iwp_cond rfl (fun hc8 => ?_) (fun hc8 => ?_)
        ·
          (try simp only [nb, ne_eq] at hc8)
          have hpk : ptK x (k : Int) = ((betw x.pc x.at_.1 x.to_.1 k, betw x.pc x.at_.2 x.to_.2 k), x.tp) := by unfold ptK; rw [if_pos (by omega)]
          apply iwp_reg hJ
          ·
            intro c1 hmine hrnd
            refine awp_region 3 mixed (by kernel_rfl) ?_
            refine rg_q (q_fieldAddr fld135_5 rfl) (rg_q (q_load sz3 rfl rfl) (rg_q (q_fieldAddr_ref fld317_1 rfl) ?_))
            refine rg_nil ?_
            refine aops_store sz3 rfl rfl (by exact .inl rfl) rfl rfl (by exact Nat.le_of_ble_eq_true rfl) rfl ?_
            refine aops_nil ?_
            exact ⟨rfl, rfl⟩
          change Iwp _ _ _ _ _ _ _
          refine iwp_seq ?_
          refine iwp_region ?_
          refine iops_of hJ rfl (fun c1 _ _ _ h => by exact aops_q rfl ((q_move (x := .d (.fn _ _)) rfl)) h) ?_
          refine iops_of hJ rfl (fun c1 _ _ _ h => by exact aops_q rfl ((q_load_refA (ds := [_, _, _]) sz317 rfl rfl rfl rfl)) h) ?_
          refine iops_yield (x := ((betw x.pc x.at_.1 x.to_.1 (k : Int), betw x.pc x.at_.2 x.to_.2 (k : Int)), x.tp)) hy hdat rfl (.cons rfl .nil) (by rw [← hpk]; exact hpre) rfl (fun yb => ?_)
          refine iops_of hJ rfl (fun c1 _ _ _ h => by exact aops_q rfl ((q_not rfl)) h) ?_
          refine iops_nil ?_
          change Iwp _ _ _ _ _ _ _
          refine iwp_cond rfl (fun hc10 => ?_) (fun hc10 => ?_)
          ·
            (try simp only [nb, ne_eq] at hc10)
            have hyb : yb = false := by cases yb <;> first | rfl | (exfalso; simp_all; done)
            refine iwp_ret ?_
            exact ⟨.inl rfl, fun h => by rw [hyb] at h; cases h⟩
          ·
            (try simp only [nb, ne_eq] at hc10)
            have hyb : yb = true := by cases yb <;> first | rfl | (exfalso; simp_all; done)
            refine iwp_skip ?_
            change Iwp _ _ _ _ _ _ _
            apply iwp_reg hJ
            ·
              intro c1 hmine hrnd
              refine awp_region 2 mixed (by kernel_rfl) ?_
              refine rg_q (q_add rfl rfl (In64.mk (by omega) (by omega))) ?_
              refine rg_q (q_m rfl) ?_
              refine rn ?_
              exact ⟨rfl, rfl⟩
            refine ⟨k + 1, by omega, by omega, by rw [hyb, ptsTo_succ, hpk], fun c1 => ?_⟩
            exact le_head (ms := []) (by repeat (first | exact Out.head rfl rfl | (refine Out.put ?_ rfl) | (refine Out.site ?_ rfl))) ⟨(by rfl), trivial⟩ trivial rfl rfl rfl rfl
        ·
          (try simp only [nb, ne_eq] at hc8)
          have hpk : ptK x (k : Int) = ((betw x.pc x.at_.1 x.to_.1 k, betw x.pc x.at_.2 x.to_.2 k), x.am) := by unfold ptK; rw [if_neg (by omega)]
          refine iwp_skip ?_
          change Iwp _ _ _ _ _ _ _
          refine iwp_seq ?_
          refine iwp_region ?_
          refine iops_of hJ rfl (fun c1 _ _ _ h => by exact aops_q rfl ((q_move (x := .d (.fn _ _)) rfl)) h) ?_
          refine iops_of hJ rfl (fun c1 _ _ _ h => by exact aops_q rfl ((q_load_refA (ds := [_, _, _]) sz317 rfl rfl rfl rfl)) h) ?_
          refine iops_yield (x := ((betw x.pc x.at_.1 x.to_.1 (k : Int), betw x.pc x.at_.2 x.to_.2 (k : Int)), x.am)) hy hdat rfl (.cons rfl .nil) (by rw [← hpk]; exact hpre) rfl (fun yb => ?_)
          refine iops_of hJ rfl (fun c1 _ _ _ h => by exact aops_q rfl ((q_not rfl)) h) ?_
          refine iops_nil ?_
          change Iwp _ _ _ _ _ _ _
          refine iwp_cond rfl (fun hc10 => ?_) (fun hc10 => ?_)
          ·
            (try simp only [nb, ne_eq] at hc10)
            have hyb : yb = false := by cases yb <;> first | rfl | (exfalso; simp_all; done)
            refine iwp_ret ?_
            exact ⟨.inl rfl, fun h => by rw [hyb] at h; cases h⟩
          ·
            (try simp only [nb, ne_eq] at hc10)
            have hyb : yb = true := by cases yb <;> first | rfl | (exfalso; simp_all; done)
            refine iwp_skip ?_
            change Iwp _ _ _ _ _ _ _
            apply iwp_reg hJ
            ·
              intro c1 hmine hrnd
              refine awp_region 2 mixed (by kernel_rfl) ?_
              refine rg_q (q_add rfl rfl (In64.mk (by omega) (by omega))) ?_
              refine rg_q (q_m rfl) ?_
              refine rn ?_
              exact ⟨rfl, rfl⟩
            refine ⟨k + 1, by omega, by omega, by rw [hyb, ptsTo_succ, hpk], fun c1 => ?_⟩
            exact le_head (ms := []) (by repeat (first | exact Out.head rfl rfl | (refine Out.put ?_ rfl) | (refine Out.site ?_ rfl))) ⟨(by rfl), trivial⟩ trivial rfl rfl rfl rfl
      ·
        (try simp only [nb, ne_eq] at hc5)
        have hkn : k = N + 1 := by omega
        refine iwp_exit ?_
        exact ⟨.inr rfl, fun _ => by rw [hkn, hit]⟩
set_option maxRecDepth 100000 in
theorem points_p (x : Flw) : PC Tryz.prog 225 [.agg (flwC x)] (.fn (.func 262) [.pt (flwC x) 0]) := by
 refine pc_of_awp Tryz.func225 rfl Tryz.ntmps225 (rs := [.tmp 2]) Tryz.results225 (by simp) fun w0 => ?_
 refine awp_seq ?_
 refine awp_region 2 mixed (by kernel_rfl) ?_
 refine rg_q (q_box rfl (by exact .inr ⟨_, rfl⟩)) ?_
 refine rg_q (q_assign (x := .d (.v .nilFunc)) rfl) ?_
 refine rs (awp_region 2 mixed (by kernel_rfl) ?_)
 refine rg_q (q_makeFunc (.cons rfl .nil)) ?_
 refine rg_q (q_assign (x := .d (.fn _ _)) rfl) ?_
 refine rn ?_
 change Awp _ _ _ _ _
 refine awp_ret ?_
 refine ⟨_, (.cons (.tmp (by exact .d _)) .nil), ?_⟩
 rfl
end Go.Proofs.YtphlaicnmmglhaaGreat.Am.M
-- mini
namespace Go.Proofs.YtphlaicnmmglhaaGreat.Am.M
open Go

section
variable {P : Program} {w0 : Cx} {ops : List Oper} {rest : List Oper} {R : Exit → St → Prop} {st : St} {ty : TypeId} {pos : String} {after : Array Edge}
theorem aops_boxR {d k : Nat} {e : TypeId} {y : Operand} (hy : st.ev y = .rs k) (hd : Nat.blt d st.n = true) (hs : st.s d = .no) (h : Aops P w0 ops rest R ((st.site d (.tbox [.rs k])).put (some d) (.ref d 0))) :
    Aops P w0 ops (⟨some d, .box e y, ty, pos, after, none⟩ :: rest) R st := by
  refine aops_step (K := fun s => s = (st.site d (.tbox [.rs k])).put (some d) (.ref d 0)) rfl (fun a w ⟨blk, val, hh⟩ => ?_) (fun _ e => e ▸ h)
  have hr : RepT w (okOf w0 blk) blk val st.s (.rs k) (a.eval y) := hy ▸ hh.ev y
  have ho : (a.eval y).oneCell' = true := hr.one hh.site rfl
  have hc : (a.eval y).cells.toList = [a.eval y] := one_cells ho
  have hE : Ext w (w.alloc (.cells (a.eval y).cells e)) := (Ext.refl w).alloc _
  refine wp_value (v := .pointer (some ⟨w.heap.size, 0, none⟩)) (w' := w.alloc (.cells (a.eval y).cells e)) (by simp [execOp, Instr.box, newVar, newRow]) ⟨_, rfl, ?_⟩
  have hsz : (a.eval y).cells.size = 1 := by have := congrArg List.length hc; simpa using this
  have hH := hh.allocSite (k := d) (x := .tbox [.rs k]) (u := undef) (o := .cells (a.eval y).cells e) hs ⟨w.heap.size, e, (a.eval y).cells, rfl, new_block _ _, hsz, fun j x hx => by
      match j, hx with
      | 0, hx =>
        cases hx
        refine ⟨a.eval y, ?_, ho, (hr.ok' (ok' := fun b => okOf w0 blk b ∧ b ≠ w.heap.size) fun b hb h => ⟨h, by omega⟩).ext hE⟩
        have : (a.eval y).cells.toList[0]? = some (a.eval y) := by rw [hc]; rfl
        simpa using this⟩
    (fun cs hcs z hz j hj => by
      cases hcs
      rw [List.mem_singleton.1 hz] at hj
      rcases hj with hj | ⟨o, hj⟩ | ⟨_, _, _, hj⟩
      · cases hj
        obtain ⟨⟨e, sz, es, q⟩, _⟩ := hr
        rw [q]; simp
      · cases hj
      · cases hj)
  exact ⟨_, _, put_hold hH (by simpa [Nat.blt_eq, St.site] using hd) ⟨by simp [St.site], w.heap.size, by simp, rfl⟩⟩
end

set_option maxRecDepth 100000 in
theorem appendSeq_p (L l : List ((Int × Int) × Int)) (g : FuncId) (cap : List D) (hen : enB Tryz.prog g = true) (hit : PI Tryz.prog g [] cap encN l) (hl : L.length + l.length ≤ 100000) : PCS Tryz.prog 224 [.rs 0, .d (.fn (.func g) cap)] [.row 317 3 (L.map ptnC)] (.rs 0) [.row 317 3 ((L ++ l).map ptnC)] := by
 refine pcs_of_awpR Tryz.func224 rfl Tryz.ntmps224 (rs := [.tmp 4]) Tryz.results224 (by simp) (getS_rows rfl) fun w0 hrnd hpn => ?_
 refine awp_seq ?_
 refine awp_region 0 mixed (by kernel_rfl) ?_
 refine rg_nil ?_
 refine aops_boxR rfl rfl rfl ?_
 refine aops_q rfl (q_assign (x := .d (.sl _ _)) rfl) ?_
 refine aops_nil ?_
 change Awp _ _ _ _ _
 refine awp_seq ?_
 refine awp_seq ?_
 refine awp_region 1 mixed (by kernel_rfl) ?_
 refine rg_q (q_move (x := .d (.fn _ _)) rfl) ?_
 refine rn ?_
 change Awp _ _ _ _ _
 refine awp_block ?_
 refine awp_rangeC (α := (Int × Int) × Int) (β := Nat) (n := 13) (enc := encN) (items := l) 1000 [(2, .ref 2 0), (6, .d (.fn (.func g) cap))] (fun x => [(2, .tbox [.rs 13]), (13, .row 317 3 ((L ++ l.take x).map ptnC))]) (fun k x => x = k ∧ k ≤ l.length) (fun e x => False) 0 hrnd ?_ (.inr ⟨rfl, rfl⟩) hen hit rfl (fun _ => rfl) rfl (fun _ => by repeat first | exact trivial | refine ⟨by exact D.Flat.aggF (by repeat first | exact trivial | refine ⟨.v _, ?_⟩), ?_⟩) (fun _ => rfl) ⟨rfl, Nat.zero_le _⟩ (fun h => by cases h) ?_ ?_ ?_
 · exact le_cst (fun k => k) _ _ rfl ⟨(by rfl), (by rfl), trivial⟩ ⟨(by rfl), (by (show Site.row _ _ _ = Site.row _ _ _; simp; done)), trivial⟩ rfl (fun k b h => by rw [hpn k] at h; cases h)
 ·
  intro w1 hw1 k x y hI hy
  obtain ⟨rfl, hk⟩ := hI
  have hxl : x < l.length := (List.getElem?_eq_some_iff.1 hy).1
  have hs1 : ((L ++ l.take x).map ptnC) ++ [ptnC y] = (L ++ l.take (x + 1)).map ptnC := by
   rw [List.take_succ_eq_append_getElem hxl, (List.getElem?_eq_some_iff.1 hy).2]; simp
  have htl : (l.take x).length ≤ l.length := by rw [List.length_take]; omega
  refine awp_region 0 mixed (by kernel_rfl) ?_
  refine rg_nil ?_
  refine aops_alloc zr317 rfl rfl rfl ?_
  refine aops_store sz317 rfl rfl (by exact .inr ⟨_, rfl⟩) rfl rfl (by decide) rfl ?_
  refine aops_nil ?_
  refine ⟨rfl, fun w2 hw2 => ?_⟩
  refine awp_block ?_
  refine awp_region 3 mixed (by kernel_rfl) ?_
  refine rg_q (q_load_tb (x := .rs _) sz243 rfl rfl rfl) ?_
  refine rg_q (q_load_refA (ds := [_, _, _]) sz317 rfl rfl rfl rfl) ?_
  refine rg_q (q_buildSlice sl243 zr317 rfl rfl (by decide) (.cons rfl (by exact .inr ⟨_, rfl⟩) .nil) ⟨rfl, rfl, trivial⟩ rfl (by decide) rfl) ?_
  refine rg_nil ?_
  refine aops_append sl243 zr317 by317 rfl (by decide) rfl rfl rfl rfl (by (try simp only [List.length_map, List.length_append, List.length_cons, List.length_nil]); omega) (by (try simp only [List.length_map, List.length_append, List.length_cons, List.length_nil]); omega) rfl rfl ?_
  refine aops_storeT (z := .rs _) sz243 rfl rfl rfl rfl (by decide) rfl ?_
  refine aops_nil ?_
  refine .inl ⟨rfl, x + 1, ⟨rfl, hxl⟩, ?_⟩
  exact le_round [] _ hw2 rfl ⟨(by rfl), (by (show Site.row _ _ _ = Site.row _ _ _; rw [← hs1]; rfl)), trivial⟩ rfl
 ·
  intro x hI
  obtain ⟨rfl, _⟩ := hI
  rw [List.take_length]
  change Awp _ _ _ _ _
  refine awp_seq ?_
  refine awp_region 2 mixed (by kernel_rfl) ?_
  refine rg_q (q_load_tb (x := .rs _) sz243 rfl rfl rfl) ?_
  refine rg_q (q_assign (x := .rs _) rfl) ?_
  refine rn ?_
  change Awp _ _ _ _ _
  refine awp_ret ?_
  exact end_mk (.inl rfl) [13] (.tmp rfl) (by repeat (first | exact trivial | refine ⟨rfl, ?_⟩)) rfl
 ·
  exact fun e x h => h.elim

theorem flw_ok {x : Flw} (h : flwE x = 0) : FlwOk x := by
  unfold flwE at h
  by_cases h1 : ¬ (0 ≤ x.kd ∧ x.kd ≤ 1)
  · rw [if_pos h1] at h; cases h
  rw [if_neg h1] at h
  have hk := Decidable.not_not.1 h1
  by_cases h2 : flwE0 x ≠ 0
  · rw [if_pos h2] at h; exact absurd h h2
  rw [if_neg h2] at h
  have h3 := Decidable.not_not.1 h2
  unfold flwE0 at h3
  rw [first_zero] at h3
  simp only [List.mem_cons, List.not_mem_nil, or_false, forall_eq_or_imp, forall_eq] at h3
  obtain ⟨a1, a2⟩ := h3
  have a3 := (when_zero (show (2 : Int) ≠ 0 by decide)).1 a2
  rw [spot_ok] at a1
  simp [inR] at a1 a3
  refine ⟨hk, by omega, by omega, by omega, fun hk0 => ?_⟩
  rw [if_neg hk0] at h
  unfold planeE at h
  rw [first_zero] at h
  simp only [List.mem_cons, List.not_mem_nil, or_false, forall_eq_or_imp, forall_eq] at h
  obtain ⟨b1, b2, _⟩ := h
  have b3 := (when_zero (show (2 : Int) ≠ 0 by decide)).1 b2
  rw [spot_ok] at b1
  simp [inR] at b1 b3
  omega
theorem ptsL_len {x : Flw} (h : FlwOk x) : (ptsL x).length ≤ 21 := by
  unfold ptsL
  split
  · simp
  · rename_i hk
    have := (h.pl hk).2.2.1
    unfold ptsTo
    rw [List.length_map, List.length_range]; omega
end Go.Proofs.YtphlaicnmmglhaaGreat.Am.M
-- mini
namespace Go.Proofs.YtphlaicnmmglhaaGreat.Am.M
open Go

def opnS (s : Spc) (P : List ((Int × Int) × Int)) : List D := arrC s.ar ++ [.sl 1 (s.pl.map iC), .sl 3 (P.map ptnC)]
def ptA (P : List ((Int × Int) × Int)) (k : Nat) : (Int × Int) × Int := P.getD k ((0, 0), 0)
def smT (a : Arr) (pl : List Int) (pr : Int × Int) (P : List ((Int × Int) × Int)) : Nat → List Int
  | 0 => zI
  | k + 1 => adT (smT a pl pr P k) pl (ptA P k).2 (smpI a (ptA P k).1 pr) pl.length
theorem smT_len {a : Arr} {pl : List Int} {pr : Int × Int} {P : List ((Int × Int) × Int)} : ∀ k : Nat, (smT a pl pr P k).length = 64
  | 0 => rfl
  | k + 1 => by show (adT _ _ _ _ _).length = 64; rw [adT_len]; exact smT_len k
theorem amp_mul {pl : List Int} {x : Int} (hx : -1000 ≤ x ∧ x ≤ 1000) (hp : ∀ n ∈ pl, -100 ≤ n ∧ n ≤ 100) : ∀ n ∈ pl, -100000 ≤ x * n ∧ x * n ≤ 100000 := by
  intro n hn
  have h := hp n hn
  have := mulb (a := x) (b := n) (A := 1000) (B := 100) (by omega) (by omega) (by omega) (by omega)
  omega
theorem ptA_in {P : List ((Int × Int) × Int)} (h : ∀ q ∈ P, -1000 ≤ q.2 ∧ q.2 ≤ 1000) (k : Nat) : -1000 ≤ (ptA P k).2 ∧ (ptA P k).2 ≤ 1000 := by
  unfold ptA
  rw [List.getD_eq_getElem?_getD]
  cases hx : P[k]? with
  | none => exact ⟨by decide, by decide⟩
  | some q => exact h q (List.mem_of_getElem? hx)
theorem smT_in {a : Arr} {pl : List Int} {pr : Int × Int} {P : List ((Int × Int) × Int)} (hl : pl.length ≤ 16) (hp : ∀ n ∈ pl, -100 ≤ n ∧ n ≤ 100) (hP : ∀ q ∈ P, -1000 ≤ q.2 ∧ q.2 ≤ 1000) : ∀ k : Nat, ∀ v ∈ smT a pl pr P k, -(1600000 * (k : Int)) ≤ v ∧ v ≤ 1600000 * (k : Int)
  | 0, v, hv => by rw [List.eq_of_mem_replicate hv]; omega
  | k + 1, v, hv => by
    have ih := smT_in (a := a) (pr := pr) hl hp hP k
    have := adT_in (t := smpI a (ptA P k).1 pr) ih (amp_mul (ptA_in hP k) hp) pl.length v hv
    omega
theorem rnd_in {n b A : Int} (hA : 0 ≤ A) (h1 : -A ≤ n) (h2 : n ≤ A) (hb : 1 ≤ b) : -(A + 1) ≤ rndI n b ∧ rndI n b ≤ A + 1 := by
  unfold rndI
  have hm : A ≤ A * b := by
    have := Int.mul_le_mul_of_nonneg_left hb hA
    rw [Int.mul_one] at this; exact this
  have e1 : (A + 1) * (2 * b) = 2 * (A * b) + 2 * b := by grind
  have e2 : -(A + 1) * (2 * b) = -(2 * (A * b) + 2 * b) := by grind
  refine ⟨Int.le_ediv_of_mul_le (by omega) (by rw [e2]; omega), ?_⟩
  have : (2 * n + b) / (2 * b) < A + 1 + 1 := Int.ediv_lt_of_lt_mul (by omega) (by
    have e3 : (A + 1 + 1) * (2 * b) = 2 * (A * b) + 4 * b := by grind
    rw [e3]; omega)
  omega
theorem smp_in {a : Arr} (hok : ArrOk a) (t p : Int × Int) : -10000000000000 ≤ smpI a t p ∧ smpI a t p ≤ 10000000000000 := by
  have he := ech_in a t p
  have h := rnd_in (n := echI a t p - a.ts.1) (b := a.ts.2) (A := 1100000000000) (by decide) (by have := hok.t2; omega) (by have := hok.t1; omega) hok.t3
  unfold smpI; omega
def trcR (s : Spc) (P : List ((Int × Int) × Int)) (pr : Int × Int) : List D × Int := if (smT s.ar s.pl pr P P.length).any bigB = true then (z64, 8) else ((smT s.ar s.pl pr P P.length).map fv, 0)
set_option maxRecDepth 100000 in
theorem traceOf_p (s : Spc) (P : List ((Int × Int) × Int)) (pr : Int × Int) (hok : ArrOk s.ar) (hpk : (0 ≤ pr.1 ∧ pr.1 < s.ar.el.length) ∧ 0 ≤ pr.2 ∧ pr.2 < s.ar.el.length) (hpl : s.pl.length ≤ 16) (hpb : ∀ n ∈ s.pl, -100 ≤ n ∧ n ≤ 100) (hP : P.length ≤ 300) (hPa : ∀ q ∈ P, -1000 ≤ q.2 ∧ q.2 ≤ 1000) : PC Tryz.prog 148 [.agg (opnS s P), .agg (shC pr)] (.tup [.agg (trcR s P pr).1, .v (.int .i64 ((trcR s P pr).2))]) := by
 have hfl : ((smT s.ar s.pl pr P P.length).map fv).length = 64 := by rw [List.length_map, smT_len]
 refine pc_of_awpN Tryz.func148 rfl Tryz.ntmps148 (rs := [.cell 4 236, .tmp 5]) Tryz.results148 (by simp) fun w0 hmine hrnd hpn => ?_
 refine awp_seq ?_
 refine awp_region 2 mixed (by kernel_rfl) ?_
 refine rg_q (q_box rfl (by exact .inr ⟨_, rfl⟩)) ?_
 refine rg_q (q_box rfl (by exact .inr ⟨_, rfl⟩)) ?_
 refine rg_nil ?_
 refine aops_alloc zr236 rfl rfl rfl ?_
 refine aops_q rfl (q_a rfl) ?_
 refine aops_nil ?_
 change Awp _ _ _ _ _
 refine awp_seq ?_
 refine awp_region 0 mixed (by kernel_rfl) ?_
 refine rg_nil ?_
 refine aops_alloc zr234 rfl rfl rfl ?_
 refine aops_nil ?_
 change Awp _ _ _ _ _
 refine awp_seq ?_
 refine awp_seq ?_
 refine awp_region 4 mixed (by kernel_rfl) ?_
 refine rg_q (q_fieldAddr fld245_2 rfl) (rg_q (q_load sz243 rfl rfl) ?_)
 refine rg_q (q_len isl243 rfl (by exact len_map _ _)) ?_
 refine rg_q (q_m rfl) ?_
 refine rn ?_
 change Awp _ _ _ _ _
 refine awp_len (t := 11) rfl (fun hl11 => ?_)
 (try simp only [List.length_map] at hl11)
 refine awp_block ?_
 refine awp_loopH [8, 13, 14, 15, 16, 17, 18, 19, 20, 21, 22, 23, 24, 25, 26, 27, 28] [6] (α := Nat) (fun k => [(13, T.i (k : Int))]) (fun k => [(6, .box ((smT s.ar s.pl pr P k).map iv))]) (fun k => k ≤ P.length) (fun k => P.length - k) 0 (Nat.zero_le _) ?_ ?_
 · exact le_head (ms := [6]) (by repeat (exact Out.refl _)) ⟨(by rfl), trivial⟩ ⟨(by rfl), trivial⟩ rfl rfl rfl rfl
 ·
  intro k hk
  refine awp_seq ?_
  refine awp_region 1 mixed (by kernel_rfl) ?_
  refine rg_q (q_lss rfl rfl) ?_
  refine rn ?_
  change Awp _ _ _ _ _
  refine awp_seq ?_
  refine awp_cond rfl (fun hc3 => ?_) (fun hc3 => ?_)
  ·
   (try simp only [nb, ne_eq] at hc3)
   have hlt : k < P.length := by omega
   obtain ⟨y, hx⟩ : ∃ y, P[k]? = some y := ⟨_, List.getElem?_eq_getElem hlt⟩
   have hya := hPa y (List.mem_of_getElem? hx)
   have hpy : ptA P k = y := by unfold ptA; rw [List.getD_eq_getElem?_getD, hx]; rfl
   have hin := smT_in (a := s.ar) (pr := pr) hpl hpb hPa k
   have hst : adT (smT s.ar s.pl pr P k) s.pl y.2 (smpI s.ar y.1 pr) s.pl.length = smT s.ar s.pl pr P (k + 1) := by rw [← hpy]; rfl
   refine awp_skip ?_
   change Awp _ _ _ _ _
   refine awp_seq ?_
   refine awp_block ?_
   refine awp_seq ?_
   refine awp_region 2 mixed (by kernel_rfl) ?_
   refine rg_q (q_indexAddr sl243 rfl rfl (by omega) (map_at (by omega) hx)) ?_
   refine rg_q (q_loadA (ds := [_, _, _]) sz317 rfl rfl rfl) ?_
   refine rg_nil ?_
   refine aops_alloc zr317 rfl rfl rfl ?_
   refine aops_store sz317 rfl rfl (by exact .inr ⟨_, rfl⟩) rfl rfl (by decide) rfl ?_
   refine aops_nil ?_
   change Awp _ _ _ _ _
   refine awp_region 10 mixed (by kernel_rfl) ?_
   refine rg_q (q_fieldAddr fld245_1 rfl) (rg_q (q_load sz77 rfl rfl) (rg_q (q_fieldAddr_ref fld317_1 rfl) (rg_q (q_load_ref sz3 rfl rfl rfl) (rg_q (q_fieldAddr fld245_0 rfl) ?_))))
   refine rg_q (q_loadA (ds := [_, _, _, _, _, _, _, _, _, _, _]) sz242 rfl rfl rfl) ?_
   refine rg_q (q_fieldAddr_ref fld317_0 rfl) ?_
   refine rg_q (q_load_refA (ds := [_, _]) sz33 rfl rfl rfl rfl) ?_
   refine rg_q (q_loadA (ds := [_, _]) sz63 rfl rfl rfl) ?_
   refine rg_q (q_call en227 (.cons rfl (.cons rfl (.cons rfl .nil))) rfl (sample_p s.ar y.1 pr hok hpk)) ?_
   refine rg_nil ?_
   refine aops_callL [6] [] en226 (sampAdd_p (smT s.ar s.pl pr P k) s.pl y.2 (smpI s.ar y.1 pr) (1600000 * (k : Int)) (smT_len _) hin (by omega) (by omega) (amp_mul hya hpb) (smp_in hok _ _)) (.cons rfl (.cons rfl (.cons rfl (.cons rfl .nil)))) rfl rfl rfl (by repeat (first | exact trivial | refine ⟨rfl, ?_⟩)) (by repeat (exact trivial)) rfl ?_
   refine aops_nil ?_
   change Awp _ _ _ _ _
   refine awp_region 2 mixed (by kernel_rfl) ?_
   refine rg_q (q_add rfl rfl (In64.mk (by omega) (by omega))) ?_
   refine rg_q (q_m rfl) ?_
   refine rn ?_
   refine ⟨k + 1, by omega, by omega, ?_⟩
   exact le_head (ms := [6]) (by repeat (first | exact Out.head rfl rfl | (refine Out.put ?_ rfl) | (refine Out.site ?_ rfl) | (refine Out.called ?_ rfl rfl))) ⟨(by rfl), trivial⟩ ⟨(by (show Site.box _ = Site.box _; rw [hst])), trivial⟩ rfl rfl rfl rfl
  ·
   (try simp only [nb, ne_eq] at hc3)
   have hkn : k = P.length := by omega
   subst hkn
   refine awp_exit ?_
   change Awp _ _ _ _ _
   refine awp_seq ?_
   refine awp_seq ?_
   refine Awp.le (le_freeze 6 6 0 (cs := (smT s.ar s.pl pr P P.length).map iv) rfl rfl rfl rfl hmine) ?_
   refine awp_region 2 mixed (by kernel_rfl) ?_
   refine rg_q (q_call en142 (.cons rfl .nil) rfl (tooLarge_p (smT s.ar s.pl pr P P.length) (smT_len _))) ?_
   refine rg_q (q_a rfl) ?_
   refine rs (awp_region 2 mixed (by kernel_rfl) ?_)
   refine rg_q (q_m rfl) (rg_q (q_neq rfl rfl) ?_)
   refine rn ?_
   change Awp _ _ _ _ _
   refine awp_cond rfl (fun hc8 => ?_) (fun hc8 => ?_)
   ·
    (try simp only [nb, ne_eq] at hc8)
    have hz : trcR s P pr = (z64, 8) := by
     unfold trcR
     rw [if_pos]
     cases hb : (smT s.ar s.pl pr P P.length).any bigB with
     | true => rfl
     | false => rw [hb] at hc8; exact absurd rfl hc8
    have hw : whenI ((smT s.ar s.pl pr P P.length).any bigB) 8 = 8 := by
     cases hb : (smT s.ar s.pl pr P P.length).any bigB with
     | true => rfl
     | false => rw [hb] at hc8; exact absurd rfl hc8
    refine awp_seq ?_
    refine awp_region 2 mixed (by kernel_rfl) ?_
    refine rg_q (q_buildA ar236 zr236 rfl .nil trivial rfl) ?_
    refine rg_q (q_m rfl) ?_
    refine rg_nil ?_
    refine aops_store sz236 rfl rfl (by exact .inr ⟨_, rfl⟩) rfl rfl (by decide) rfl ?_
    refine aops_q rfl (q_a rfl) ?_
    refine aops_nil ?_
    change Awp _ _ _ _ _
    refine awp_ret ?_
    refine ⟨_, (.cons (.cellA rfl rfl sz236 (by rfl)) (.cons (.tmp (by exact .d _)) .nil)), ?_⟩
    rw [hz, hw]; rfl
   ·
    (try simp only [nb, ne_eq] at hc8)
    have hz : trcR s P pr = ((smT s.ar s.pl pr P P.length).map fv, 0) := by
     unfold trcR
     rw [if_neg]
     intro hb
     rw [hb] at hc8
     exact absurd hc8 (by decide)
    refine awp_skip ?_
    change Awp _ _ _ _ _
    refine awp_seq ?_
    refine awp_region 1 mixed (by kernel_rfl) ?_
    refine rg_q (q_call en143 (.cons rfl .nil) rfl (trace_p (smT s.ar s.pl pr P P.length) (smT_len _))) ?_
    refine rg_nil ?_
    refine aops_store (cs' := (smT s.ar s.pl pr P P.length).map fv) sz236 rfl rfl (by exact .inr ⟨_, rfl⟩) hfl rfl (Nat.le_of_ble_eq_true rfl) (setCs_all hfl) ?_
    refine aops_q rfl (q_a rfl) ?_
    refine aops_nil ?_
    change Awp _ _ _ _ _
    refine awp_ret ?_
    refine ⟨_, (.cons (.cellA rfl rfl sz236 (by exact hfl)) (.cons (.tmp (by exact .d _)) .nil)), ?_⟩
    rw [hz]; rfl
end Go.Proofs.YtphlaicnmmglhaaGreat.Am.M
-- mini
namespace Go.Proofs.YtphlaicnmmglhaaGreat.Am.M
open Go

section
variable {P : Program} {w0 : Cx} {ty : TypeId} {pos : String} {after : Array Edge}
def notDead : T → Bool
  | .dead => false
  | _ => true
theorem argsS_live {ev ev' : Operand → T} {f : Nat → Nat} {ys : List Operand} {xs : List T} (h : ArgsS ev f ys xs) (hx : ∀ y, ev y = .dead ∨ ev' y = ev y) (hd : xs.all notDead = true) : ArgsS ev' f ys xs := by
  induction h with
  | nil => exact .nil
  | @cons y ys x xs h _ ih =>
    simp only [List.all_cons, Bool.and_eq_true] at hd
    refine .cons ?_ (ih hd.2)
    rcases hx y with e | e
    · rw [e] at h
      cases x <;> first | (cases h; done) | (have := hd.1; simp [notDead] at this; done)
    · rw [e]; exact h
theorem c_callR {s : St} {ev : Operand → T} {d k e sz : Nat} {es es' : List (List D)} {f : FuncId} {ys : List Operand} {at_ : Array TypeId} {args : List T} (he : enB P f = true) (hr : PCS P f args [.row e sz es] (.rs 0) [.row e sz es'])
    (ha : ArgsS ev (nth [k]) ys args) (hnd : args.all notDead = true) (hk : s.s k = .row e sz es) (hc : callOk [k] args [.row e sz es] (.rs 0) [.row e sz es'] = true) :
    COp P w0 s ev ⟨some d, .call ⟨.value (.func f), ys.toArray, at_⟩, ty, pos, after, none⟩ (.grow k d (.row e sz es')) :=
  fun st hk' hn hev hd => step_of_aops rfl fun ops rest R h => by
    refine aops_callL [k] [k] he hr (argsS_live ha hev hnd) hc rfl rfl ⟨by rw [hk']; exact hk, trivial⟩ trivial (by simp only; rw [Nat.blt_eq, hn]; exact hd d rfl) ?_
    have e1 : afterS st [k] [k] [.row e sz es'] = (st.killS k).site k (.row e sz es') := by
      simp only [afterS, St.killS, St.site, St.mk.injEq, true_and]
      refine funext fun j => ?_
      by_cases hj : j = k
      · subst hj; simp [idxN, getS, shiftS]
      · have : Nat.beq j k = false := by rw [← Bool.not_eq_true]; exact fun e => hj (Nat.eq_of_beq_eq_true e)
        simp [idxN, this]
    rw [e1]
    exact h
end

def ptsF (s : Spc) (k : Nat) : List ((Int × Int) × Int) := (s.fl.take k).flatMap ptsL
def ptsS (s : Spc) : List ((Int × Int) × Int) := s.fl.flatMap ptsL
theorem ptsF_succ {s : Spc} {k : Nat} {y : Flw} (h : s.fl[k]? = some y) : ptsF s (k + 1) = ptsF s k ++ ptsL y := by
  obtain ⟨hlt, hx⟩ := List.getElem?_eq_some_iff.1 h
  unfold ptsF
  rw [List.take_succ_eq_append_getElem hlt, hx, List.flatMap_append]; simp
theorem ptsF_len {s : Spc} (h : ∀ x ∈ s.fl, FlwOk x) : ∀ k : Nat, k ≤ s.fl.length → (ptsF s k).length ≤ 21 * k
  | 0, _ => by unfold ptsF; simp
  | k + 1, hk => by
    have hx : s.fl[k]? = some s.fl[k] := List.getElem?_eq_getElem (by omega)
    have h1 := ptsL_len (h _ (List.mem_of_getElem? hx))
    have h2 := ptsF_len h k (by omega)
    rw [ptsF_succ hx, List.length_append]; omega
theorem ckFls_ok {t : Int} : ∀ {l : List Flw} {i : Nat}, (ckFls t i l).2 = 0 → ∀ x ∈ l, flwE x = 0
  | [], _, _, x, hx => by cases hx
  | y :: l, i, h, x, hx => by
    unfold ckFls at h
    by_cases h1 : flE t y ≠ 0
    · rw [if_pos h1] at h; exact absurd h h1
    · rw [if_neg h1] at h
      rcases List.mem_cons.1 hx with rfl | hx
      · have h2 := Decidable.not_not.1 h1
        unfold flE at h2
        by_cases h3 : firstE [flwE x, plateE x.at_.2 t] = 0
        · rw [first_zero] at h3
          exact h3 _ (by simp)
        · rw [if_neg (fun q => h3 q.1)] at h2; exact absurd h2 h3
      · exact ckFls_ok h x hx
structure SpcOk (s : Spc) : Prop where
  ar : ArrOk s.ar
  p1 : s.pl.length ≤ 16
  p2 : ∀ n ∈ s.pl, -100 ≤ n ∧ n ≤ 100
  f1 : s.fl.length ≤ 10
  fl : ∀ x ∈ s.fl, FlwOk x
theorem spc_ok {s : Spc} (h : (ckSpc s).2 = 0) : SpcOk s := by
  unfold ckSpc at h
  by_cases h1 : (ckArr s.ar).2 ≠ 0
  · rw [if_pos h1] at h; exact absurd h h1
  rw [if_neg h1] at h
  by_cases h2 : spcE0 s ≠ 0
  · rw [if_pos h2] at h; exact absurd h h2
  rw [if_neg h2] at h
  have h3 := Decidable.not_not.1 h2
  unfold spcE0 at h3
  rw [first_zero] at h3
  simp only [List.mem_cons, List.not_mem_nil, or_false, forall_eq_or_imp, forall_eq] at h3
  obtain ⟨_, e5, e6⟩ := plsE_ok h3.1
  have e7 := (when_zero (show (8 : Int) ≠ 0 by decide)).1 h3.2
  refine ⟨(ckArr_ok (Decidable.not_not.1 h1)).1, e5, fun n hn => ?_, ?_, fun x hx => flw_ok (ckFls_ok h x hx)⟩
  · have := pulse_all (a := 1) e6 (by omega) n hn
    have h8 : plsB n = false := by
      cases hb : plsB n with
      | false => rfl
      | true => rw [List.any_eq_true.2 ⟨n, hn, hb⟩] at e6; cases e6
    unfold plsB at h8
    simp [inR] at h8
    omega
  · have := of_decide_eq_false e7
    omega

def z0 : D := .v (.int .i64 0)
def zOp : List D := [.v (.slice none 0 0), z0, z0, z0, z0, z0, z0, z0, z0, z0, z0, .v (.slice none 0 0), .v (.slice none 0 0)]
def osR (s : Spc) : List D × Int := if (ckSpc s).2 ≠ 0 then (zOp, (ckSpc s).2) else (opnS s (ptsS s), 0)
set_option maxRecDepth 100000 in
theorem openSpecimen_p (s : Spc) : PC Tryz.prog 146 [.agg (spcC s)] (.tup [.agg (osR s).1, .v (.int .i64 ((osR s).2))]) := by
 refine pc_of_awpN Tryz.func146 rfl Tryz.ntmps146 (rs := [.cell 2 245, .tmp 3]) Tryz.results146 (by simp) fun w0 hmine hrnd hpn => ?_
 refine awp_seq ?_
 refine awp_region 1 mixed (by kernel_rfl) ?_
 refine rg_q (q_box rfl (by exact .inr ⟨_, rfl⟩)) ?_
 refine rg_nil ?_
 refine aops_alloc zr245 rfl rfl rfl ?_
 refine aops_q rfl (q_a rfl) ?_
 refine aops_nil ?_
 change Awp _ _ _ _ _
 refine awp_seq ?_
 refine awp_seq ?_
 refine awp_region 7 mixed (by kernel_rfl) ?_
 refine rg_q (q_loadA sz130 rfl rfl rfl) ?_
 refine rg_q (q_call en223 (.cons rfl .nil) rfl (checkSpecimen_p _)) ?_
 refine rg_q (q_move (x := .d (.tup _)) rfl) (rg_q (q_extract rfl rfl) (rg_q (q_extract rfl rfl) (rg_q (q_a rfl) (rg_q (q_a rfl) ?_))))
 refine rs (awp_region 2 mixed (by kernel_rfl) ?_)
 refine rg_q (q_m rfl) (rg_q (q_neq rfl rfl) ?_)
 refine rn ?_
 change Awp _ _ _ _ _
 refine awp_cond rfl (fun hc2 => ?_) (fun hc2 => ?_)
 ·
  (try simp only [nb, ne_eq] at hc2)
  have h0 : (ckSpc s).2 ≠ 0 := hc2
  have hz : osR s = (zOp, (ckSpc s).2) := by unfold osR; rw [if_pos h0]
  refine awp_seq ?_
  refine awp_region 2 mixed (by kernel_rfl) ?_
  refine rg_q (q_build pl245 zr245 rfl .nil trivial rfl) ?_
  refine rg_q (q_m rfl) ?_
  refine rg_nil ?_
  refine aops_store sz245 rfl rfl (by exact .inr ⟨_, rfl⟩) rfl rfl (by decide) rfl ?_
  refine aops_q rfl (q_a rfl) ?_
  refine aops_nil ?_
  change Awp _ _ _ _ _
  refine awp_ret ?_
  refine ⟨_, (.cons (.cellA rfl rfl sz245 rfl) (.cons (.tmp (by exact .d _)) .nil)), ?_⟩
  rw [hz]; rfl
 ·
  (try simp only [nb, ne_eq] at hc2)
  have h0 : (ckSpc s).2 = 0 := by omega
  have hok := spc_ok h0
  have hf1 := hok.f1
  have hz : osR s = (opnS s (ptsS s), 0) := by unfold osR; rw [if_neg (fun q => q h0)]
  refine awp_skip ?_
  change Awp _ _ _ _ _
  refine awp_seq ?_
  refine awp_region 6 mixed (by kernel_rfl) ?_
  refine rg_q (q_fieldAddr fld130_0 rfl) ?_
  refine rg_q (q_loadA (ds := [_, _, _, _, _, _, _, _, _, _, _]) sz28 rfl rfl rfl) ?_
  refine rg_q (q_build (cs := [_, _, _, _, _, _, _, _, _, _, _]) pl242 zr242 rfl (.cons rfl (by exact .inr ⟨_, rfl⟩) .nil) ⟨⟨rfl, by decide⟩, trivial⟩ rfl) ?_
  refine rg_q (q_fieldAddr fld130_1 rfl) (rg_q (q_load sz77 rfl rfl) ?_)
  refine rg_q (q_build pl245 zr245 rfl (.cons rfl (by exact .inr ⟨_, rfl⟩) (.cons rfl (by exact .inl rfl) .nil)) ⟨⟨rfl, by decide⟩, ⟨rfl, by decide⟩, trivial⟩ rfl) ?_
  refine rg_nil ?_
  refine aops_alloc zr245 rfl rfl rfl ?_
  refine aops_store sz245 rfl rfl (by exact .inr ⟨_, rfl⟩) rfl rfl (by decide) rfl ?_
  refine aops_nil ?_
  change Awp _ _ _ _ _
  refine awp_seq ?_
  refine awp_seq ?_
  refine Awp.le (le_ownB 6 35 12 317 3 rfl rfl rfl) ?_
  refine awp_region 4 mixed (by kernel_rfl) ?_
  refine rg_q (q_fieldAddr fld130_2 rfl) (rg_q (q_load sz128 rfl rfl) ?_)
  refine rg_q (q_len isl128 rfl (by exact len_map _ _)) ?_
  refine rg_q (q_m rfl) ?_
  refine rn ?_
  change Awp _ _ _ _ _
  refine awp_len (t := 25) rfl (fun hl25 => ?_)
  (try simp only [List.length_map] at hl25)
  refine awp_block ?_
  refine awp_loopH [8, 27, 28, 29, 30, 31, 32, 33, 34, 35, 36, 37] [6, 35] (α := Nat) (fun k => [(27, T.i (k : Int))]) (fun k => [(6, .tbox [.d (.sl 2 (s.ar.el.map shC)), .d (.v (.int .i64 (s.ar.ou.w))), .d (.v (.int .i64 (s.ar.ou.m))), .d (.v (.int .i64 (s.ar.ou.k))), .d (.v (.int .i64 (s.ar.ou.t))), .d (.v (.int .i64 (s.ar.ba.w))), .d (.v (.int .i64 (s.ar.ba.m))), .d (.v (.int .i64 (s.ar.ba.k))), .d (.v (.int .i64 (s.ar.ba.t))), .d (.v (.int .i64 (s.ar.ts.1))), .d (.v (.int .i64 (s.ar.ts.2))), .d (.sl 1 (s.pl.map iC)), .rs 35]), (35, .row 317 3 ((ptsF s k).map ptnC))]) (fun k => k ≤ s.fl.length) (fun k => s.fl.length - k) 0 (Nat.zero_le _) ?_ ?_
  · exact le_head (ms := [6, 35]) (by repeat (exact Out.refl _)) ⟨(by rfl), trivial⟩ ⟨(by rfl), (by rfl), trivial⟩ rfl rfl rfl rfl
  ·
   intro k hk
   refine awp_seq ?_
   refine awp_region 1 mixed (by kernel_rfl) ?_
   refine rg_q (q_lss rfl rfl) ?_
   refine rn ?_
   change Awp _ _ _ _ _
   refine awp_seq ?_
   refine awp_cond rfl (fun hc6 => ?_) (fun hc6 => ?_)
   ·
    (try simp only [nb, ne_eq] at hc6)
    have hlt : k < s.fl.length := by omega
    obtain ⟨y, hx⟩ : ∃ y, s.fl[k]? = some y := ⟨_, List.getElem?_eq_getElem hlt⟩
    have hoky := hok.fl y (List.mem_of_getElem? hx)
    have hl1 := ptsL_len hoky
    have hl2 := ptsF_len hok.fl k (by omega)
    have hs1 : (ptsF s k ++ ptsL y).map ptnC = (ptsF s (k + 1)).map ptnC := by rw [ptsF_succ hx]
    refine awp_skip ?_
    change Awp _ _ _ _ _
    refine awp_seq ?_
    refine awp_block ?_
    refine awp_seq ?_
    refine awp_region 2 mixed (by kernel_rfl) ?_
    refine rg_q (q_indexAddr sl128 rfl rfl (by omega) (map_at (by omega) hx)) ?_
    refine rg_q (q_loadA (ds := [_, _, _, _, _, _, _, _]) sz135 rfl rfl rfl) ?_
    refine rg_nil ?_
    refine aops_alloc zr135 rfl rfl rfl ?_
    refine aops_store sz135 rfl rfl (by exact .inr ⟨_, rfl⟩) rfl rfl (by decide) rfl ?_
    refine aops_nil ?_
    change Awp _ _ _ _ _
    refine awp_regionC 7 [0, 1, 4, 5, 6] [35, 6] mixed (by kernel_rfl) ?_
    refine rgc_c rfl rfl (c_q (q_fieldAddr_ref fld245_2 rfl)) ?_
    refine rgc_c rfl rfl (c_q (q_load_tb (x := .rs _) sz243 rfl rfl rfl)) ?_
    refine rgc_q rfl (q_load_refA (ds := [_, _, _, _, _, _, _, _]) sz135 rfl rfl rfl rfl) rfl ?_
    refine rgc_q rfl (q_call en225 (.cons rfl .nil) rfl (points_p _)) rfl ?_
    refine rgc_c rfl rfl (c_callR en224 (appendSeq_p (ptsF s k) (ptsL y) 262 [.pt (flwC y) 0] en262 (points_i y hoky) (by omega)) (.cons rfl (.cons rfl .nil)) rfl rfl rfl) ?_
    refine rgc_c rfl rfl (c_q (q_fieldAddr_ref fld245_2 rfl)) ?_
    refine rgc_c rfl rfl ((c_storeR sz243 rfl rfl rfl (by simp) rfl)) ?_
    refine rgc_nil ?_
    refine aops_nil ?_
    change Awp _ _ _ _ _
    refine awp_region 2 mixed (by kernel_rfl) ?_
    refine rg_q (q_add rfl rfl (In64.mk (by omega) (by omega))) ?_
    refine rg_q (q_m rfl) ?_
    refine rn ?_
    refine ⟨k + 1, by omega, by omega, ?_⟩
    exact le_head (ms := [6, 35]) (by repeat (first | exact Out.head rfl rfl | (refine Out.put ?_ rfl) | (refine Out.site ?_ rfl) | (refine Out.killS ?_ rfl) | (refine Out.ovD ?_ rfl))) ⟨(by rfl), trivial⟩ ⟨(by rfl), (by (show Site.row _ _ _ = Site.row _ _ _; rw [hs1])), trivial⟩ rfl rfl rfl rfl
   ·
    (try simp only [nb, ne_eq] at hc6)
    have hkn : k = s.fl.length := by omega
    have hrow : (ptsF s k).map ptnC = (ptsS s).map ptnC := by unfold ptsF ptsS; rw [hkn, List.take_length]
    refine awp_exit ?_
    change Awp _ _ _ _ _
    refine awp_seq ?_
    refine Awp.le (le_freezeTB 6 35 12 (es := (ptsS s).map ptnC) rfl rfl (by show Site.row _ _ _ = _; rw [hrow]) rfl hmine) ?_
    refine Awp.le (le_boxT 6 (opnS s (ptsS s)) rfl rfl (by intro j d h; match j, h with | 0, h => cases h; rfl | 1, h => cases h; rfl | 2, h => cases h; rfl | 3, h => cases h; rfl | 4, h => cases h; rfl | 5, h => cases h; rfl | 6, h => cases h; rfl | 7, h => cases h; rfl | 8, h => cases h; rfl | 9, h => cases h; rfl | 10, h => cases h; rfl | 11, h => cases h; rfl | 12, h => cases h; rfl)) ?_
    refine awp_region 1 mixed (by kernel_rfl) ?_
    refine rg_q (q_load_refA sz245 rfl rfl rfl rfl) ?_
    refine rg_nil ?_
    refine aops_store sz245 rfl rfl (by exact .inr ⟨_, rfl⟩) rfl rfl (by decide) rfl ?_
    refine aops_q rfl (q_a rfl) ?_
    refine aops_nil ?_
    change Awp _ _ _ _ _
    refine awp_ret ?_
    refine ⟨_, (.cons (.cellA rfl rfl sz245 rfl) (.cons (.tmp (by exact .d _)) .nil)), ?_⟩
    rw [hz]; rfl
end Go.Proofs.YtphlaicnmmglhaaGreat.Am.M
-- mini
namespace Go.Proofs.YtphlaicnmmglhaaGreat.Am.M
open Go

theorem pts_amp {x : Flw} (h : FlwOk x) : ∀ q ∈ ptsL x, -1000 ≤ q.2 ∧ q.2 ≤ 1000 := by
  intro q hq
  unfold ptsL at hq
  split at hq
  · rw [List.mem_singleton.1 hq]; exact h.am
  · rename_i hk
    unfold ptsTo at hq
    obtain ⟨i, _, rfl⟩ := List.mem_map.1 hq
    have h1 := h.am
    have h2 := (h.pl hk).2.2.2
    unfold ptK
    simp only
    split
    · exact h2
    · exact h1
theorem ptsS_in {s : Spc} (h : SpcOk s) : (ptsS s).length ≤ 300 ∧ ∀ q ∈ ptsS s, -1000 ≤ q.2 ∧ q.2 ≤ 1000 := by
  refine ⟨?_, fun q hq => ?_⟩
  · have h1 := ptsF_len h.fl s.fl.length (Nat.le_refl _)
    have h2 : ptsF s s.fl.length = ptsS s := by unfold ptsF ptsS; rw [List.take_length]
    rw [h2] at h1
    have := h.f1
    omega
  · unfold ptsS at hq
    obtain ⟨x, hx, hq⟩ := List.mem_flatMap.1 hq
    exact pts_amp (h.fl x hx) q hq
def zM : Md := ⟨0, 0, 0, 0⟩
def zS : Spc := ⟨⟨[], zM, zM, (0, 0)⟩, [], []⟩
def tcR (s : Spc) (pr : Int × Int) : List D × Int := if (ckSpc s).2 ≠ 0 then (z64, (ckSpc s).2) else if pairE s.ar.el.length pr ≠ 0 then (z64, pairE s.ar.el.length pr) else trcR s (ptsS s) pr
theorem trcR_len (s : Spc) (P : List ((Int × Int) × Int)) (pr : Int × Int) : (trcR s P pr).1.length = 64 := by
  unfold trcR
  split
  · rfl
  · show ((smT s.ar s.pl pr P P.length).map fv).length = 64
    rw [List.length_map, smT_len]
set_option maxRecDepth 100000 in
theorem traceBad_p (s : Spc) (pr : Int × Int) (h0 : (ckSpc s).2 ≠ 0) : PC Tryz.prog 150 [.agg (spcC s), .agg (shC pr)] (.tup [.agg (tcR s pr).1, .v (.int .i64 ((tcR s pr).2))]) := by
 have hos : osR s = (zOp, (ckSpc s).2) := by unfold osR; rw [if_pos h0]
 have hz : tcR s pr = (z64, (ckSpc s).2) := by unfold tcR; rw [if_pos h0]
 have hfe : firstE [(ckSpc s).2, pairE zS.ar.el.length pr] = (ckSpc s).2 := by unfold firstE; rw [if_neg h0]
 refine pc_of_awp Tryz.func150 rfl Tryz.ntmps150 (rs := [.cell 4 236, .tmp 5]) Tryz.results150 (by simp) fun w0 => ?_
 refine awp_seq ?_
 refine awp_region 2 mixed (by kernel_rfl) ?_
 refine rg_q (q_box rfl (by exact .inr ⟨_, rfl⟩)) ?_
 refine rg_q (q_box rfl (by exact .inr ⟨_, rfl⟩)) ?_
 refine rg_nil ?_
 refine aops_alloc zr236 rfl rfl rfl ?_
 refine aops_q rfl (q_a rfl) ?_
 refine aops_nil ?_
 change Awp _ _ _ _ _
 refine awp_seq ?_
 refine awp_region 5 mixed (by kernel_rfl) ?_
 refine rg_q (q_loadA sz130 rfl rfl rfl) ?_
 refine rg_q (q_call en146 (.cons rfl .nil) rfl ((by have h := openSpecimen_p s; rw [hos] at h; exact h))) ?_
 refine rg_q (q_move (x := .d (.tup _)) rfl) (rg_q (q_extract rfl rfl) (rg_q (q_extract rfl rfl) ?_))
 refine rg_nil ?_
 refine aops_alloc zr245 rfl rfl rfl ?_
 refine aops_store sz245 rfl rfl (by exact .inr ⟨_, rfl⟩) rfl rfl (by decide) rfl ?_
 refine aops_q rfl (q_a rfl) ?_
 refine aops_nil ?_
 change Awp _ _ _ _ _
 refine awp_seq ?_
 refine awp_seq ?_
 refine Awp.le (le_upB 6 (opnS zS []) rfl (.cons (.nil 2) (.cons (.same _) (.cons (.same _) (.cons (.same _) (.cons (.same _) (.cons (.same _) (.cons (.same _) (.cons (.same _) (.cons (.same _) (.cons (.same _) (.cons (.same _) (.cons (.nil 1) (.cons (.nil 3) .nil)))))))))))))) ?_
 refine awp_region 8 mixed (by kernel_rfl) ?_
 refine rg_q (q_m rfl) (rg_q (q_fieldAddr_ref fld245_0 rfl) ?_)
 refine rg_q (q_load_refA (ds := [_, _, _, _, _, _, _, _, _, _, _]) sz242 rfl rfl rfl rfl) ?_
 refine rg_q (q_loadA (ds := [_, _]) sz63 rfl rfl rfl) ?_
 refine rg_q (q_call en228 (.cons rfl (.cons rfl .nil)) rfl (pairErr_p zS.ar pr (Nat.zero_le _))) ?_
 refine rg_q (q_buildSlice sl282 zr40 rfl rfl (by decide) (.cons rfl (by exact .inl rfl) (.cons rfl (by exact .inl rfl) .nil)) ⟨rfl, rfl, rfl, rfl, trivial⟩ rfl (by decide) rfl) ?_
 refine rg_q (q_call en161 (.cons rfl .nil) rfl (bfirst_p [(ckSpc s).2, pairE zS.ar.el.length pr])) ?_
 refine rg_q (q_a rfl) ?_
 refine rs (awp_region 2 mixed (by kernel_rfl) ?_)
 refine rg_q (q_m rfl) (rg_q (q_neq rfl rfl) ?_)
 refine rn ?_
 change Awp _ _ _ _ _
 refine awp_cond rfl (fun hc3 => ?_) (fun hc3 => ?_)
 ·
  (try simp only [nb, ne_eq] at hc3)
  refine awp_seq ?_
  refine awp_region 2 mixed (by kernel_rfl) ?_
  refine rg_q (q_buildA ar236 zr236 rfl .nil trivial rfl) ?_
  refine rg_q (q_m rfl) ?_
  refine rg_nil ?_
  refine aops_store sz236 rfl rfl (by exact .inr ⟨_, rfl⟩) rfl rfl (by decide) rfl ?_
  refine aops_q rfl (q_a rfl) ?_
  refine aops_nil ?_
  change Awp _ _ _ _ _
  refine awp_ret ?_
  refine ⟨_, (.cons (.cellA rfl rfl sz236 rfl) (.cons (.tmp (by exact .d _)) .nil)), ?_⟩
  rw [hz, hfe]; rfl
 ·
  rw [hfe] at hc3
  exact absurd (Decidable.not_not.1 (of_decide_eq_false hc3)) h0
set_option maxRecDepth 100000 in
theorem traceOk_p (s : Spc) (pr : Int × Int) (h0 : (ckSpc s).2 = 0) : PC Tryz.prog 150 [.agg (spcC s), .agg (shC pr)] (.tup [.agg (tcR s pr).1, .v (.int .i64 ((tcR s pr).2))]) := by
 have hos : osR s = (opnS s (ptsS s), 0) := by unfold osR; rw [if_neg (fun q => q h0)]
 have hsp := spc_ok h0
 have hok := hsp.ar
 have hn2 := hok.n2
 obtain ⟨hp1, hp2⟩ := ptsS_in hsp
 have hfe : firstE [0, pairE s.ar.el.length pr] = pairE s.ar.el.length pr := by
  unfold firstE
  rw [if_pos rfl]
  unfold firstE
  by_cases q : pairE s.ar.el.length pr = 0
  · rw [if_pos q, q]; rfl
  · rw [if_neg q]
 have hlen := trcR_len s (ptsS s) pr
 refine pc_of_awp Tryz.func150 rfl Tryz.ntmps150 (rs := [.cell 4 236, .tmp 5]) Tryz.results150 (by simp) fun w0 => ?_
 refine awp_seq ?_
 refine awp_region 2 mixed (by kernel_rfl) ?_
 refine rg_q (q_box rfl (by exact .inr ⟨_, rfl⟩)) ?_
 refine rg_q (q_box rfl (by exact .inr ⟨_, rfl⟩)) ?_
 refine rg_nil ?_
 refine aops_alloc zr236 rfl rfl rfl ?_
 refine aops_q rfl (q_a rfl) ?_
 refine aops_nil ?_
 change Awp _ _ _ _ _
 refine awp_seq ?_
 refine awp_region 5 mixed (by kernel_rfl) ?_
 refine rg_q (q_loadA sz130 rfl rfl rfl) ?_
 refine rg_q (q_call en146 (.cons rfl .nil) rfl ((by have h := openSpecimen_p s; rw [hos] at h; exact h))) ?_
 refine rg_q (q_move (x := .d (.tup _)) rfl) (rg_q (q_extract rfl rfl) (rg_q (q_extract rfl rfl) ?_))
 refine rg_nil ?_
 refine aops_alloc zr245 rfl rfl rfl ?_
 refine aops_store sz245 rfl rfl (by exact .inr ⟨_, rfl⟩) rfl rfl (by decide) rfl ?_
 refine aops_q rfl (q_a rfl) ?_
 refine aops_nil ?_
 change Awp _ _ _ _ _
 refine awp_seq ?_
 refine awp_seq ?_
 refine awp_region 8 mixed (by kernel_rfl) ?_
 refine rg_q (q_m rfl) (rg_q (q_fieldAddr_ref fld245_0 rfl) ?_)
 refine rg_q (q_load_refA (ds := [_, _, _, _, _, _, _, _, _, _, _]) sz242 rfl rfl rfl rfl) ?_
 refine rg_q (q_loadA (ds := [_, _]) sz63 rfl rfl rfl) ?_
 refine rg_q (q_call en228 (.cons rfl (.cons rfl .nil)) rfl (pairErr_p s.ar pr (by omega))) ?_
 refine rg_q (q_buildSlice sl282 zr40 rfl rfl (by decide) (.cons rfl (by exact .inl rfl) (.cons rfl (by exact .inl rfl) .nil)) ⟨rfl, rfl, rfl, rfl, trivial⟩ rfl (by decide) rfl) ?_
 refine rg_q (q_call en161 (.cons rfl .nil) rfl (bfirst_p [0, pairE s.ar.el.length pr])) ?_
 refine rg_q (q_a rfl) ?_
 refine rs (awp_region 2 mixed (by kernel_rfl) ?_)
 refine rg_q (q_m rfl) (rg_q (q_neq rfl rfl) ?_)
 refine rn ?_
 change Awp _ _ _ _ _
 refine awp_cond rfl (fun hc3 => ?_) (fun hc3 => ?_)
 ·
  (try simp only [nb, ne_eq] at hc3)
  rw [hfe] at hc3 ⊢
  have hz : tcR s pr = (z64, pairE s.ar.el.length pr) := by unfold tcR; rw [if_neg (fun q => q h0), if_pos hc3]
  refine awp_seq ?_
  refine awp_region 2 mixed (by kernel_rfl) ?_
  refine rg_q (q_buildA ar236 zr236 rfl .nil trivial rfl) ?_
  refine rg_q (q_m rfl) ?_
  refine rg_nil ?_
  refine aops_store sz236 rfl rfl (by exact .inr ⟨_, rfl⟩) rfl rfl (by decide) rfl ?_
  refine aops_q rfl (q_a rfl) ?_
  refine aops_nil ?_
  change Awp _ _ _ _ _
  refine awp_ret ?_
  refine ⟨_, (.cons (.cellA rfl rfl sz236 (by rfl)) (.cons (.tmp (by exact .d _)) .nil)), ?_⟩
  rw [hz]; rfl
 ·
  (try simp only [nb, ne_eq] at hc3)
  rw [hfe] at hc3
  have hp0 : pairE s.ar.el.length pr = 0 := hc3
  have hpk := pair_ok hp0
  have hz : tcR s pr = trcR s (ptsS s) pr := by unfold tcR; rw [if_neg (fun q => q h0), if_neg (fun q => q hp0)]
  refine awp_skip ?_
  change Awp _ _ _ _ _
  refine awp_seq ?_
  refine awp_region 5 mixed (by kernel_rfl) ?_
  refine rg_q (q_load_refA sz245 rfl rfl rfl rfl) ?_
  refine rg_q (q_loadA (ds := [_, _]) sz63 rfl rfl rfl) ?_
  refine rg_q (q_call en148 (.cons rfl (.cons rfl .nil)) rfl (traceOf_p s (ptsS s) pr hok hpk hsp.p1 hsp.p2 hp1 hp2)) ?_
  refine rg_q (q_extract rfl rfl) (rg_q (q_extract rfl rfl) ?_)
  refine rg_nil ?_
  refine aops_store (cs' := (trcR s (ptsS s) pr).1) sz236 rfl rfl (by exact .inr ⟨_, rfl⟩) hlen rfl (Nat.le_of_ble_eq_true rfl) (setCs_all hlen) ?_
  refine aops_q rfl (q_a rfl) ?_
  refine aops_nil ?_
  change Awp _ _ _ _ _
  refine awp_ret ?_
  refine ⟨_, (.cons (.cellA rfl rfl sz236 (by exact hlen)) (.cons (.tmp (by exact .d _)) .nil)), ?_⟩
  rw [hz]; rfl

theorem traceOfS_p (s : Spc) (pr : Int × Int) : PC Tryz.prog 150 [.agg (spcC s), .agg (shC pr)] (.tup [.agg (tcR s pr).1, .v (.int .i64 ((tcR s pr).2))]) := by
  by_cases h : (ckSpc s).2 = 0
  · exact traceOk_p s pr h
  · exact traceBad_p s pr h
end Go.Proofs.YtphlaicnmmglhaaGreat.Am.M
-- mini
namespace Go.Proofs.YtphlaicnmmglhaaGreat.Am.M
open Go

section
variable {P : Program} {w0 : Cx} {n : Nat} {s : Nat → Site} {ev : Operand → T} {dst : Option Tmp} {ty : TypeId} {pos : String} {after : Array Edge} {g : Option (Nat × Bool)}
theorem q_fieldA {t : TypeId} {y : Operand} {f off m : Nat} {ft : TypeId} {cs ds : List D} (ht : (match P.underlying t with | some (.struct fs) => (fs[f]?).map (fun fd => (fd.offset, fd.type)) | _ => none) = some (off, ft)) (hs : szB P ft true m = true) (hy : ev y = .d (.agg cs)) (hd : (cs.drop off).take m = ds) (hl : ds.length = m) : QOp P w0 n s ev ⟨dst, .field t y f, ty, pos, after, g⟩ (.d (.agg ds)) :=
  .mk fun a w ok blk val h _ hnew => by
    subst hd
    obtain ⟨vs, hv, hL, hsc⟩ := agg_inv (show Rep w _ (.agg cs) (a.eval y) by have := h y; rw [hy] at this; exact this)
    have hlen : vs.length = cs.length := hL.length
    refine ⟨.agg ((vs.drop off).take m).toArray, w, ?_, Ext.refl w, ?_⟩
    · cases hu : P.underlying t with
      | none => simp [hu] at ht
      | some q =>
        cases q <;> simp only [hu, reduceCtorEq] at ht
        rename_i fs
        cases hf : fs[f]? with
        | none => simp [hf] at ht
        | some fd =>
          simp only [hf, Option.map_some, Option.some.injEq, Prod.mk.injEq] at ht
          obtain ⟨e1, e2⟩ := ht
          subst e1; subst e2
          simp [execOp, Instr.field, run_underlying hu, hf, hv, asAgg, part, szB_agg hs, szB_size hs]
    · refine Rep.agg _ _ (by rw [List.length_take, List.length_drop, List.length_take, List.length_drop, hlen]) (fun j d hj => ?_) (fun j d v hj hv => ?_)
      · rw [List.getElem?_take] at hj
        split at hj
        · rw [List.getElem?_drop] at hj; exact hsc _ d hj
        · cases hj
      · rw [List.getElem?_take] at hj hv
        split at hj
        · rename_i hjm
          rw [if_pos hjm, List.getElem?_drop] at hv
          rw [List.getElem?_drop] at hj
          exact hL.get _ d v hj hv
        · cases hj
end

def oneM : Md := ⟨2500, 5000, 0, 1000⟩
def oneS : Spc := ⟨⟨[(0, -300)], oneM, oneM, (3900000, 50000)⟩, [3, -2], [⟨0, (0, 400), (0, 0), 0, 10, 0⟩]⟩
def exB : List Nat := 0 :: 0 :: 1106247680 :: 3248488448 :: List.replicate 60 0
theorem ex_smT : smT oneS.ar oneS.pl (0, 0) (ptsS oneS) (ptsS oneS).length = 0 :: 0 :: 30 :: -20 :: List.replicate 60 0 := by decide +kernel
theorem ex_tc : tcR oneS (0, 0) = (exB.map fd, 0) := by
  have h1 : (ckSpc oneS).2 = 0 := by decide +kernel
  have h2 : pairE oneS.ar.el.length (0, 0) = 0 := by decide +kernel
  unfold tcR
  rw [if_neg (fun q => q h1), if_neg (fun q => q h2)]
  unfold trcR
  rw [ex_smT, if_neg (by decide +kernel)]
  have h3 : (0 :: 0 :: 30 :: -20 :: List.replicate 60 0 : List Int).map FloatKind.f32.nearest = exB := by decide +kernel
  rw [← h3, List.map_map]; rfl
set_option maxRecDepth 100000 in
theorem one_p  : PC Tryz.prog 151 [] (.agg (spcC oneS)) := by
 refine pc_of_awp Tryz.func151 rfl Tryz.ntmps151 (rs := [.cell 0 130]) Tryz.results151 (by simp) fun w0 => ?_
 refine awp_seq ?_
 refine awp_region 0 mixed (by kernel_rfl) ?_
 refine rg_nil ?_
 refine aops_alloc zr130 rfl rfl rfl ?_
 refine aops_nil ?_
 change Awp _ _ _ _ _
 refine awp_seq ?_
 refine awp_region 1 mixed (by kernel_rfl) ?_
 refine rg_q (q_build (cs := [_, _, _, _]) pl24 zr24 rfl (.cons rfl (by exact .inl rfl) (.cons rfl (by exact .inl rfl) (.cons rfl (by exact .inl rfl) .nil))) ⟨⟨rfl, by decide⟩, ⟨rfl, by decide⟩, ⟨rfl, by decide⟩, trivial⟩ rfl) ?_
 refine rg_nil ?_
 refine aops_alloc zr24 rfl rfl rfl ?_
 refine aops_store sz24 rfl rfl (by exact .inr ⟨_, rfl⟩) rfl rfl (by decide) rfl ?_
 refine aops_nil ?_
 change Awp _ _ _ _ _
 refine awp_seq ?_
 refine awp_region 11 mixed (by kernel_rfl) ?_
 refine rg_q (q_build (cs := [_, _]) pl33 zr33 rfl (.cons rfl (by exact .inl rfl) (.cons rfl (by exact .inl rfl) .nil)) ⟨⟨rfl, by decide⟩, ⟨rfl, by decide⟩, trivial⟩ rfl) ?_
 refine rg_q (q_buildSlice sl22 zr33 rfl rfl (by decide) (.cons rfl (by exact .inr ⟨_, rfl⟩) .nil) ⟨rfl, rfl, trivial⟩ rfl (by decide) rfl) ?_
 refine rg_q (q_load_refA (ds := [_, _, _, _]) sz24 rfl rfl rfl rfl) ?_
 refine rg_q (q_load_refA (ds := [_, _, _, _]) sz24 rfl rfl rfl rfl) ?_
 refine rg_q (q_build (cs := [_, _]) pl26 zr26 rfl (.cons rfl (by exact .inl rfl) (.cons rfl (by exact .inl rfl) .nil)) ⟨⟨rfl, by decide⟩, ⟨rfl, by decide⟩, trivial⟩ rfl) ?_
 refine rg_q (q_build (cs := [_, _, _, _, _, _, _, _, _, _, _]) pl28 zr28 rfl (.cons rfl (by exact .inl rfl) (.cons rfl (by exact .inr ⟨_, rfl⟩) (.cons rfl (by exact .inr ⟨_, rfl⟩) (.cons rfl (by exact .inr ⟨_, rfl⟩) .nil)))) ⟨⟨rfl, by decide⟩, ⟨rfl, by decide⟩, ⟨rfl, by decide⟩, ⟨rfl, by decide⟩, trivial⟩ rfl) ?_
 refine rg_q (q_buildSlice sl77 zr3 rfl rfl (by decide) (.cons rfl (by exact .inl rfl) (.cons rfl (by exact .inl rfl) .nil)) ⟨rfl, rfl, rfl, rfl, trivial⟩ rfl (by decide) rfl) ?_
 refine rg_q (q_build (cs := [_, _]) pl33 zr33 rfl (.cons rfl (by exact .inl rfl) (.cons rfl (by exact .inl rfl) .nil)) ⟨⟨rfl, by decide⟩, ⟨rfl, by decide⟩, trivial⟩ rfl) ?_
 refine rg_q (q_build (cs := [_, _, _, _, _, _, _, _]) pl135 zr135 rfl (.cons rfl (by exact .inr ⟨_, rfl⟩) (.cons rfl (by exact .inl rfl) .nil)) ⟨⟨rfl, by decide⟩, ⟨rfl, by decide⟩, trivial⟩ rfl) ?_
 refine rg_q (q_buildSlice sl128 zr135 rfl rfl (by decide) (.cons rfl (by exact .inr ⟨_, rfl⟩) .nil) ⟨rfl, rfl, trivial⟩ rfl (by decide) rfl) ?_
 refine rg_q (q_build pl130 zr130 rfl (.cons rfl (by exact .inr ⟨_, rfl⟩) (.cons rfl (by exact .inl rfl) (.cons rfl (by exact .inl rfl) .nil))) ⟨⟨rfl, by decide⟩, ⟨rfl, by decide⟩, ⟨rfl, by decide⟩, trivial⟩ rfl) ?_
 refine rg_nil ?_
 refine aops_store sz130 rfl rfl (by exact .inr ⟨_, rfl⟩) rfl rfl (by decide) rfl ?_
 refine aops_nil ?_
 change Awp _ _ _ _ _
 refine awp_ret ?_
 refine ⟨_, (.cons (.cellA rfl rfl sz130 rfl) .nil), ?_⟩
 rfl
end Go.Proofs.YtphlaicnmmglhaaGreat.Am.M
-- mini
namespace Go.Proofs.YtphlaicnmmglhaaGreat.Am.M
open Go
set_option maxRecDepth 100000 in
theorem copyInts4_p (l : List Int) (hl : l.length ≤ 1000) : PC Tryz.prog 42 [.sl 1 (l.map iC)] (.sl 1 (l.map iC)) := by
 refine pc_of_awp Tryz.func42 rfl Tryz.ntmps42 (rs := [.tmp 2]) Tryz.results42 (by simp) fun w0 => ?_
 refine awp_seq ?_
 refine awp_region 1 mixed (by kernel_rfl) ?_
 refine rg_q (q_assign (x := .d (.sl _ _)) rfl) ?_
 refine rs (awp_region 0 mixed (by kernel_rfl) ?_)
 refine rg_nil ?_
 refine aops_empty sl77 zr3 rfl rfl ?_
 refine aops_q rfl (q_move (x := .d (.sl _ _)) rfl) ?_
 refine aops_append sl77 zr3 by3 rfl (by decide) rfl rfl rfl rfl (by (try simp only [List.length_map, List.length_append, List.length_cons, List.length_nil]); omega) (by (try simp only [List.length_map, List.length_append, List.length_cons, List.length_nil]); omega) rfl rfl ?_
 refine aops_q rfl (q_assign (x := .rs _) rfl) ?_
 refine aops_nil ?_
 change Awp _ _ _ _ _
 refine awp_ret ?_
 refine ⟨_, (.cons (.tmp (by exact .rs rfl)) .nil), ?_⟩
 rfl

end Go.Proofs.YtphlaicnmmglhaaGreat.Am.M
-- mini
namespace Go.Proofs.YtphlaicnmmglhaaGreat.Am.M
open Go
set_option maxRecDepth 100000 in
theorem risSpot_p (p : Int × Int) : PC Tryz.prog 167 [.agg (shC p)] (.v (.bool ((inR (-100000) p.1 100000 && inR (-100000) p.2 100000)))) := by
 refine pc_of_awp Tryz.func167 rfl Tryz.ntmps167 (rs := [.tmp 2]) Tryz.results167 (by simp) fun w0 => ?_
 refine awp_seq ?_
 refine awp_region 2 mixed (by kernel_rfl) ?_
 refine rg_q (q_box rfl (by exact .inr ⟨_, rfl⟩)) ?_
 refine rg_q (q_a rfl) ?_
 refine rs (awp_region 9 mixed (by kernel_rfl) ?_)
 refine rg_q (q_fieldAddr fld33_0 rfl) (rg_q (q_load sz3 rfl rfl) ?_)
 refine rg_q (q_call en31 (.cons rfl (.cons rfl (.cons rfl .nil))) rfl (within4_p _ _ _)) ?_
 refine rg_q (q_m rfl) ?_
 refine rg_g rfl rfl (fun hG => (q_fieldAddr fld33_1 rfl)) ?_
 refine rg_g rfl rfl (fun hG => (q_load sz3 rfl rfl)) ?_
 refine rg_g rfl rfl (fun hG => (q_call en31 (.cons rfl (.cons rfl (.cons rfl .nil))) rfl (within4_p _ _ _))) ?_
 refine rg_pick rfl rfl rfl rfl rfl rfl ?_
 refine rg_q (q_a rfl) ?_
 refine rn ?_
 change Awp _ _ _ _ _
 refine awp_ret ?_
 refine ⟨_, (.cons (.tmp (by exact .d _)) .nil), ?_⟩
 simp only [bif_and]; rfl

theorem spotE_is (p : Int × Int) : spotE p = if (inR (-100000) p.1 100000 && inR (-100000) p.2 100000) = true then 0 else 2 := by
  by_cases h : spotE p = 0
  · rw [h]
    have := spot_ok.1 h
    rw [if_pos (by simp [inR]; omega)]
  · have h2 : spotE p = 2 := by
      unfold spotE mustI at h ⊢
      split at h
      · exact absurd rfl h
      · rename_i q; rw [if_neg q]
    rw [h2, if_neg]
    intro q
    simp [inR] at q
    exact h (spot_ok.2 (by omega))
set_option maxRecDepth 100000 in
theorem rcheckFlaw_p (x : Flw) : PC Tryz.prog 221 [.agg (flwC x)] (.v (.int .i64 (flwE x))) := by
  have s1 := spotE_is x.at_
  have s2 := spotE_is x.to_
  refine pc_of_awp Tryz.func221 rfl Tryz.ntmps221 (rs := [.tmp 2]) Tryz.results221 (by simp) fun w0 => ?_
  refine awp_seq ?_
  refine awp_region 2 mixed (by kernel_rfl) ?_
  refine rg_q (q_box rfl (by exact .inr ⟨_, rfl⟩)) ?_
  refine rg_q (q_a rfl) ?_
  refine rn ?_
  change Awp _ _ _ _ _
  refine awp_seq ?_
  refine awp_seq ?_
  refine awp_region 8 mixed (by kernel_rfl) ?_
  refine rg_q (q_fieldAddr fld135_0 rfl) (rg_q (q_load sz3 rfl rfl) (rg_q (q_neq rfl rfl) (rg_q (q_m rfl) ?_)))
  refine rg_g rfl rfl (fun hG => (q_fieldAddr fld135_0 rfl)) ?_
  refine rg_g rfl rfl (fun hG => (q_load sz3 rfl rfl)) ?_
  refine rg_g rfl rfl (fun hG => (q_neq rfl rfl)) ?_
  refine rg_pick rfl rfl rfl rfl rfl rfl ?_
  refine rn ?_
  change Awp _ _ _ _ _
  refine awp_cond rfl (fun hc1 => ?_) (fun hc1 => ?_)
  ·
    (try simp only [nb, ne_eq] at hc1)
    have hz : flwE x = 15 := by unfold flwE; rw [if_pos (by omega)]
    refine awp_seq ?_
    refine awp_region 1 mixed (by kernel_rfl) ?_
    refine rg_q (q_a rfl) ?_
    refine rn ?_
    change Awp _ _ _ _ _
    refine awp_ret ?_
    refine ⟨_, (.cons (.tmp (by exact .d _)) .nil), ?_⟩
    rw [hz]; rfl
  ·
    (try simp only [nb, ne_eq] at hc1)
    have hk : 0 ≤ x.kd ∧ x.kd ≤ 1 := by omega
    have hu : flwE x = if flwE0 x ≠ 0 then flwE0 x else if x.kd = 0 then poreE x else planeE x := by unfold flwE; rw [if_neg (fun h => h hk)]
    refine awp_skip ?_
    change Awp _ _ _ _ _
    refine awp_seq ?_
    refine awp_seq ?_
    refine awp_region 10 mixed (by kernel_rfl) ?_
    refine rg_q (q_fieldAddr fld135_1 rfl) ?_
    refine rg_q (q_loadA (ds := [_, _]) sz33 rfl rfl rfl) ?_
    refine rg_q (q_call en167 (.cons rfl .nil) rfl (risSpot_p _)) ?_
    refine rg_q (q_not rfl) (rg_q (q_m rfl) ?_)
    refine rg_g rfl rfl (fun hG => (q_fieldAddr fld135_4 rfl)) ?_
    refine rg_g rfl rfl (fun hG => (q_load sz3 rfl rfl)) ?_
    refine rg_g rfl rfl (fun hG => (q_call en258 (.cons rfl .nil) rfl (risAmp_p _))) ?_
    refine rg_g rfl rfl (fun hG => (q_not rfl)) ?_
    refine rg_pick rfl rfl rfl rfl rfl rfl ?_
    refine rn ?_
    change Awp _ _ _ _ _
    refine awp_cond rfl (fun hc3 => ?_) (fun hc3 => ?_)
    ·
      (try simp only [nb, ne_eq] at hc3)
      have hz0 : flwE0 x = 2 := by
        unfold flwE0
        rw [s1]
        rcases hc3 with q | q
        · rw [if_neg (by rcases q with q | q <;> rw [q] <;> simp)]; rfl
        · rw [q]
          by_cases q2 : (inR (-100000) x.at_.1 100000 && inR (-100000) x.at_.2 100000) = true
          · rw [if_pos q2]; rfl
          · rw [if_neg q2]; rfl
      have hz : flwE x = 2 := by rw [hu, hz0, if_pos (by decide)]
      refine awp_seq ?_
      refine awp_region 1 mixed (by kernel_rfl) ?_
      refine rg_q (q_a rfl) ?_
      refine rn ?_
      change Awp _ _ _ _ _
      refine awp_ret ?_
      refine ⟨_, (.cons (.tmp (by exact .d _)) .nil), ?_⟩
      rw [hz]; rfl
    ·
      (try simp only [nb, ne_eq] at hc3)
      have hz0 : flwE0 x = 0 := by
        unfold flwE0
        rw [s1, hc3.2, if_pos (by simp_all)]; rfl
      have hu2 : flwE x = if x.kd = 0 then poreE x else planeE x := by rw [hu, hz0, if_neg (by simp)]
      refine awp_skip ?_
      change Awp _ _ _ _ _
      refine awp_seq ?_
      refine awp_seq ?_
      refine awp_region 3 mixed (by kernel_rfl) ?_
      refine rg_q (q_fieldAddr fld135_0 rfl) (rg_q (q_load sz3 rfl rfl) (rg_q (q_eql rfl rfl) ?_))
      refine rn ?_
      change Awp _ _ _ _ _
      refine awp_cond rfl (fun hc5 => ?_) (fun hc5 => ?_)
      ·
        (try simp only [nb, ne_eq] at hc5)
        rw [if_pos hc5] at hu2
        refine awp_seq ?_
        refine awp_seq ?_
        refine awp_region 14 mixed (by kernel_rfl) ?_
        refine rg_q (q_fieldAddr fld135_2 rfl) ?_
        refine rg_q (q_loadA (ds := [_, _]) sz33 rfl rfl rfl) ?_
        refine rg_q (q_build (cs := [_, _]) pl33 zr33 rfl .nil trivial rfl) ?_
        refine rg_q (q_neqI (xs := [_, _]) (ys := [_, _]) eqi33 rfl rfl rfl rfl) ?_
        refine rg_q (q_m rfl) ?_
        refine rg_g rfl rfl (fun hG => (q_fieldAddr fld135_3 rfl)) ?_
        refine rg_g rfl rfl (fun hG => (q_load sz3 rfl rfl)) ?_
        refine rg_g rfl rfl (fun hG => (q_neq rfl rfl)) ?_
        refine rg_pick rfl rfl rfl rfl rfl rfl ?_
        refine rg_q (q_m rfl) ?_
        refine rg_g rfl rfl (fun hG => (q_fieldAddr fld135_5 rfl)) ?_
        refine rg_g rfl rfl (fun hG => (q_load sz3 rfl rfl)) ?_
        refine rg_g rfl rfl (fun hG => (q_neq rfl rfl)) ?_
        refine rg_pick rfl rfl rfl rfl rfl rfl ?_
        refine rn ?_
        change Awp _ _ _ _ _
        refine awp_cond rfl (fun hc6 => ?_) (fun hc6 => ?_)
        ·
          (try simp only [nb, ne_eq] at hc6)
          have hz : flwE x = 3 := by
            rw [hu2]; unfold poreE whenI
            rw [if_pos]
            simp
            simp at hc6
            omega
          refine awp_seq ?_
          refine awp_region 1 mixed (by kernel_rfl) ?_
          refine rg_q (q_a rfl) ?_
          refine rn ?_
          change Awp _ _ _ _ _
          refine awp_ret ?_
          refine ⟨_, (.cons (.tmp (by exact .d _)) .nil), ?_⟩
          rw [hz]; rfl
        ·
          (try simp only [nb, ne_eq] at hc6)
          have hz : flwE x = 0 := by
            rw [hu2]; unfold poreE whenI
            rw [if_neg]
            simp
            simp at hc6
            omega
          refine awp_skip ?_
          change Awp _ _ _ _ _
          refine awp_seq ?_
          refine awp_region 1 mixed (by kernel_rfl) ?_
          refine rg_q (q_a rfl) ?_
          refine rn ?_
          change Awp _ _ _ _ _
          refine awp_ret ?_
          refine ⟨_, (.cons (.tmp (by exact .d _)) .nil), ?_⟩
          rw [hz]; rfl
      ·
        (try simp only [nb, ne_eq] at hc5)
        rw [if_neg hc5] at hu2
        refine awp_skip ?_
        change Awp _ _ _ _ _
        refine awp_seq ?_
        refine awp_seq ?_
        refine awp_region 16 mixed (by kernel_rfl) ?_
        refine rg_q (q_fieldAddr fld135_2 rfl) ?_
        refine rg_q (q_loadA (ds := [_, _]) sz33 rfl rfl rfl) ?_
        refine rg_q (q_call en167 (.cons rfl .nil) rfl (risSpot_p _)) ?_
        refine rg_q (q_not rfl) (rg_q (q_m rfl) ?_)
        refine rg_g rfl rfl (fun hG => (q_fieldAddr fld135_3 rfl)) ?_
        refine rg_g rfl rfl (fun hG => (q_load sz3 rfl rfl)) ?_
        refine rg_g rfl rfl (fun hG => (q_call en31 (.cons rfl (.cons rfl (.cons rfl .nil))) rfl (within4_p _ _ _))) ?_
        refine rg_g rfl rfl (fun hG => (q_not rfl)) ?_
        refine rg_pick rfl rfl rfl rfl rfl rfl ?_
        refine rg_q (q_m rfl) ?_
        refine rg_g rfl rfl (fun hG => (q_fieldAddr fld135_5 rfl)) ?_
        refine rg_g rfl rfl (fun hG => (q_load sz3 rfl rfl)) ?_
        refine rg_g rfl rfl (fun hG => (q_call en258 (.cons rfl .nil) rfl (risAmp_p _))) ?_
        refine rg_g rfl rfl (fun hG => (q_not rfl)) ?_
        refine rg_pick rfl rfl rfl rfl rfl rfl ?_
        refine rn ?_
        change Awp _ _ _ _ _
        refine awp_cond rfl (fun hc9 => ?_) (fun hc9 => ?_)
        ·
          (try simp only [nb, ne_eq] at hc9)
          have hz : flwE x = 2 := by
            rw [hu2]; unfold planeE; rw [s2]
            by_cases q : (inR (-100000) x.to_.1 100000 && inR (-100000) x.to_.2 100000) = true
            · have hb : (!inR 1 x.pc 20 || !inR (-1000) x.tp 1000) = true := by
                rcases hc9 with (q2 | q2) | q2
                · rw [Bool.and_eq_true] at q
                  rcases q2 with q2 | q2
                  · rw [q2] at q; cases q.1
                  · rw [q2] at q; cases q.2
                · rw [q2]; rfl
                · rw [q2]; simp
              rw [if_pos q, hb]; rfl
            · rw [if_neg q]; rfl
          refine awp_seq ?_
          refine awp_region 1 mixed (by kernel_rfl) ?_
          refine rg_q (q_a rfl) ?_
          refine rn ?_
          change Awp _ _ _ _ _
          refine awp_ret ?_
          refine ⟨_, (.cons (.tmp (by exact .d _)) .nil), ?_⟩
          rw [hz]; rfl
        ·
          (try simp only [nb, ne_eq] at hc9)
          have hu3 : flwE x = whenI (decide ([x.to_.1, x.to_.2] = [x.at_.1, x.at_.2])) 11 := by
            rw [hu2]; unfold planeE
            obtain ⟨⟨⟨q0, q1⟩, q2⟩, q3⟩ := hc9
            rw [s2, q0, q1, q2, q3]
            show firstE [0, 0, _] = _
            unfold firstE; rw [if_pos rfl]
            unfold firstE; rw [if_pos rfl]
            unfold firstE
            split
            · rename_i q; rw [q]; rfl
            · rfl
          refine awp_skip ?_
          change Awp _ _ _ _ _
          refine awp_seq ?_
          refine awp_seq ?_
          refine awp_region 5 mixed (by kernel_rfl) ?_
          refine rg_q (q_fieldAddr fld135_2 rfl) ?_
          refine rg_q (q_loadA (ds := [_, _]) sz33 rfl rfl rfl) ?_
          refine rg_q (q_fieldAddr fld135_1 rfl) ?_
          refine rg_q (q_loadA (ds := [_, _]) sz33 rfl rfl rfl) ?_
          refine rg_q (q_eqlI (xs := [_, _]) (ys := [_, _]) eqi33 rfl rfl rfl rfl) ?_
          refine rn ?_
          change Awp _ _ _ _ _
          refine awp_cond rfl (fun hc11 => ?_) (fun hc11 => ?_)
          ·
            (try simp only [nb, ne_eq] at hc11)
            have hz : flwE x = 11 := by rw [hu3, decide_eq_true hc11]; rfl
            refine awp_seq ?_
            refine awp_region 1 mixed (by kernel_rfl) ?_
            refine rg_q (q_a rfl) ?_
            refine rn ?_
            change Awp _ _ _ _ _
            refine awp_ret ?_
            refine ⟨_, (.cons (.tmp (by exact .d _)) .nil), ?_⟩
            rw [hz]; rfl
          ·
            (try simp only [nb, ne_eq] at hc11)
            have hz : flwE x = 0 := by rw [hu3, decide_eq_false hc11]; rfl
            refine awp_skip ?_
            change Awp _ _ _ _ _
            refine awp_seq ?_
            refine awp_region 1 mixed (by kernel_rfl) ?_
            refine rg_q (q_a rfl) ?_
            refine rn ?_
            change Awp _ _ _ _ _
            refine awp_ret ?_
            refine ⟨_, (.cons (.tmp (by exact .d _)) .nil), ?_⟩
            rw [hz]; rfl
end Go.Proofs.YtphlaicnmmglhaaGreat.Am.M
-- mini
namespace Go.Proofs.YtphlaicnmmglhaaGreat.Am.M
open Go
end Go.Proofs.YtphlaicnmmglhaaGreat.Am.M
namespace Go.Proofs.YtphlaicnmmglhaaGreat.Am.M
open Go

end Go.Proofs.YtphlaicnmmglhaaGreat.Am.M
-- mini
namespace Go.Proofs.YtphlaicnmmglhaaGreat.Am.M
open Go
theorem modeE_ref (m : Md) : (if firstE [speedE m.w, speedE m.m] ≠ 0 then firstE [speedE m.w, speedE m.m] else if (!inR 0 m.k 4 || !inR 2 m.t 20000) = true then 2 else 0) = modeE m := by
  unfold modeE mustI firstE
  by_cases h1 : speedE m.w = 0
  · simp only [firstE, h1, if_true]
    by_cases h2 : speedE m.m = 0
    · simp only [h2, if_true]
      cases inR 0 m.k 4 <;> cases inR 2 m.t 20000 <;> simp
    · simp [h2]
  · simp [firstE, h1]
set_option maxRecDepth 100000 in
theorem xspeedErr_p (v : Int) : PC Tryz.prog 189 [.v (.int .i64 (v))] (.v (.int .i64 (speedE v))) := by
 refine pc_of_awp Tryz.func189 rfl Tryz.ntmps189 (rs := [.tmp 2]) Tryz.results189 (by simp) fun w0 => ?_
 refine awp_seq ?_
 refine awp_region 1 mixed (by kernel_rfl) ?_
 refine rg_q (q_a rfl) ?_
 refine rn ?_
 change Awp _ _ _ _ _
 refine awp_seq ?_
 refine awp_seq ?_
 refine awp_region 3 mixed (by kernel_rfl) ?_
 refine rg_q (q_m rfl) ?_
 refine rg_q (q_call en31 (.cons rfl (.cons rfl (.cons rfl .nil))) rfl (within4_p _ _ _)) ?_
 refine rg_q (q_not rfl) ?_
 refine rn ?_
 change Awp _ _ _ _ _
 refine awp_cond rfl (fun hc1 => ?_) (fun hc1 => ?_)
 ·
  (try simp only [nb, ne_eq] at hc1)
  have hz : speedE v = 2 := by unfold speedE mustI; rw [if_neg (by simp_all)]
  refine awp_seq ?_
  refine awp_region 1 mixed (by kernel_rfl) ?_
  refine rg_q (q_a rfl) ?_
  refine rn ?_
  change Awp _ _ _ _ _
  refine awp_ret ?_
  refine ⟨_, (.cons (.tmp (by exact .d _)) .nil), ?_⟩
  rw [hz]; rfl
 ·
  (try simp only [nb, ne_eq] at hc1)
  have hz : speedE v = 0 := by unfold speedE mustI; rw [if_pos (by simp_all)]
  refine awp_skip ?_
  change Awp _ _ _ _ _
  refine awp_seq ?_
  refine awp_region 1 mixed (by kernel_rfl) ?_
  refine rg_q (q_a rfl) ?_
  refine rn ?_
  change Awp _ _ _ _ _
  refine awp_ret ?_
  refine ⟨_, (.cons (.tmp (by exact .d _)) .nil), ?_⟩
  rw [hz]; rfl
set_option maxRecDepth 100000 in
theorem firstOf_p (l : List Int) : PC Tryz.prog 188 [.sl 1 (l.map iC)] (.v (.int .i64 (firstE l))) := by
 refine pc_of_awp Tryz.func188 rfl Tryz.ntmps188 (rs := [.tmp 2]) Tryz.results188 (by simp) fun w0 => ?_
 refine awp_seq ?_
 refine awp_region 1 mixed (by kernel_rfl) ?_
 refine rg_q (q_a rfl) ?_
 refine rn ?_
 change Awp _ _ _ _ _
 refine awp_seq ?_
 refine awp_seq ?_
 refine awp_region 1 mixed (by kernel_rfl) ?_
 refine rg_q (q_a rfl) ?_
 refine rn ?_
 change Awp _ _ _ _ _
 refine awp_block ?_
 refine awp_loopH [2, 3, 4, 5, 6, 7, 8, 9, 10, 11, 12, 13, 14, 15, 16, 17, 18] [] (α := Nat) (fun k => [(3, T.i (k : Int))]) (fun k => []) (fun k => k ≤ l.length ∧ firstE l = firstE (l.drop k)) (fun k => l.length - k) 0 ⟨Nat.zero_le _, rfl⟩ ?_ ?_
 · exact le_head (ms := []) (by repeat (exact Out.refl _)) ⟨(by rfl), trivial⟩ trivial rfl rfl rfl rfl
 ·
  intro k ⟨hk, hf⟩
  refine awp_seq ?_
  refine awp_seq ?_
  refine awp_region 4 mixed (by kernel_rfl) ?_
  refine rg_q (q_m rfl) (rg_q (q_move (x := .d (.sl _ _)) rfl) ?_)
  refine rg_q (q_len isl77 rfl (by exact len_map _ _)) ?_
  refine rg_q (q_lss rfl rfl) ?_
  refine rn ?_
  change Awp _ _ _ _ _
  refine awp_len (t := 5) rfl (fun hl5 => ?_)
  (try simp only [List.length_map] at hl5)
  refine awp_cond rfl (fun hc2 => ?_) (fun hc2 => ?_)
  ·
   (try simp only [nb, ne_eq] at hc2)
   have hlt : k < l.length := by omega
   obtain ⟨y, hx⟩ : ∃ y, l[k]? = some y := ⟨_, List.getElem?_eq_getElem hlt⟩
   have hd : firstE (l.drop k) = if y = 0 then firstE (l.drop (k + 1)) else y := by
    rw [List.drop_eq_getElem_cons hlt, (List.getElem?_eq_some_iff.1 hx).2]; rfl
   refine awp_skip ?_
   change Awp _ _ _ _ _
   refine awp_seq ?_
   refine awp_block ?_
   refine awp_seq ?_
   refine awp_region 5 mixed (by kernel_rfl) ?_
   refine rg_q (q_move (x := .d (.sl _ _)) rfl) (rg_q (q_m rfl) ?_)
   refine rg_q (q_indexAddr sl77 rfl rfl (by omega) (map_at (by omega) hx)) ?_
   refine rg_q (q_load sz3 rfl rfl) (rg_q (q_neq rfl rfl) ?_)
   refine rn ?_
   change Awp _ _ _ _ _
   refine awp_cond rfl (fun hc4 => ?_) (fun hc4 => ?_)
   ·
    (try simp only [nb, ne_eq] at hc4)
    refine awp_seq ?_
    refine awp_region 5 mixed (by kernel_rfl) ?_
    refine rg_q (q_move (x := .d (.sl _ _)) rfl) (rg_q (q_m rfl) ?_)
    refine rg_q (q_indexAddr sl77 rfl rfl (by omega) (map_at (by omega) hx)) ?_
    refine rg_q (q_load sz3 rfl rfl) (rg_q (q_a rfl) ?_)
    refine rn ?_
    change Awp _ _ _ _ _
    refine awp_ret ?_
    refine ⟨_, (.cons (.tmp (by exact .d _)) .nil), ?_⟩
    rw [hf, hd, if_neg (by omega)]; rfl
   ·
    (try simp only [nb, ne_eq] at hc4)
    refine awp_skip ?_
    change Awp _ _ _ _ _
    refine awp_region 3 mixed (by kernel_rfl) ?_
    refine rg_q (q_m rfl) ?_
    refine rg_q (q_add rfl rfl (In64.mk (by omega) (by omega))) ?_
    refine rg_q (q_a rfl) ?_
    refine rn ?_
    refine ⟨k + 1, ⟨by omega, by rw [hf, hd, if_pos (by omega)]⟩, by omega, ?_⟩
    exact le_head (ms := []) (by repeat (first | exact Out.head rfl rfl | (refine Out.put ?_ rfl))) ⟨(by rfl), trivial⟩ trivial rfl rfl rfl rfl
  ·
   (try simp only [nb, ne_eq] at hc2)
   refine awp_exit ?_
   change Awp _ _ _ _ _
   refine awp_seq ?_
   refine awp_region 1 mixed (by kernel_rfl) ?_
   refine rg_q (q_a rfl) ?_
   refine rn ?_
   change Awp _ _ _ _ _
   refine awp_ret ?_
   refine ⟨_, (.cons (.tmp (by exact .d _)) .nil), ?_⟩
   rw [hf, List.drop_of_length_le (by omega)]; rfl
set_option maxRecDepth 100000 in
theorem xcheckMode_p (m : Md) : PC Tryz.prog 124 [.agg (mdC m)] (.v (.int .i64 (modeE m))) := by
 have hr := modeE_ref m
 refine pc_of_awp Tryz.func124 rfl Tryz.ntmps124 (rs := [.tmp 2]) Tryz.results124 (by simp) fun w0 => ?_
 refine awp_seq ?_
 refine awp_region 2 mixed (by kernel_rfl) ?_
 refine rg_q (q_box rfl (by exact .inr ⟨_, rfl⟩)) ?_
 refine rg_q (q_a rfl) ?_
 refine rn ?_
 change Awp _ _ _ _ _
 refine awp_seq ?_
 refine awp_seq ?_
 refine awp_region 9 mixed (by kernel_rfl) ?_
 refine rg_q (q_fieldAddr fld24_0 rfl) (rg_q (q_load sz3 rfl rfl) ?_)
 refine rg_q (q_call en189 (.cons rfl .nil) rfl (xspeedErr_p _)) ?_
 refine rg_q (q_fieldAddr fld24_1 rfl) (rg_q (q_load sz3 rfl rfl) ?_)
 refine rg_q (q_call en189 (.cons rfl .nil) rfl (xspeedErr_p _)) ?_
 refine rg_q (q_buildSlice sl77 zr3 rfl rfl (by decide) (.cons rfl (by exact .inl rfl) (.cons rfl (by exact .inl rfl) .nil)) ⟨rfl, rfl, rfl, rfl, trivial⟩ rfl (by decide) rfl) ?_
 refine rg_q (q_call en188 (.cons rfl .nil) rfl (firstOf_p [_, _])) ?_
 refine rg_q (q_a rfl) ?_
 refine rs (awp_region 2 mixed (by kernel_rfl) ?_)
 refine rg_q (q_m rfl) (rg_q (q_neq rfl rfl) ?_)
 refine rn ?_
 change Awp _ _ _ _ _
 refine awp_cond rfl (fun hc2 => ?_) (fun hc2 => ?_)
 ·
  (try simp only [nb, ne_eq] at hc2)
  rw [if_pos hc2] at hr
  refine awp_seq ?_
  refine awp_region 2 mixed (by kernel_rfl) ?_
  refine rg_q (q_m rfl) (rg_q (q_a rfl) ?_)
  refine rn ?_
  change Awp _ _ _ _ _
  refine awp_ret ?_
  refine ⟨_, (.cons (.tmp (by exact .d _)) .nil), ?_⟩
  rw [← hr]; rfl
 ·
  (try simp only [nb, ne_eq] at hc2)
  rw [if_neg (fun h => h hc2)] at hr
  refine awp_skip ?_
  change Awp _ _ _ _ _
  refine awp_seq ?_
  refine awp_seq ?_
  refine awp_region 10 mixed (by kernel_rfl) ?_
  refine rg_q (q_fieldAddr fld24_2 rfl) (rg_q (q_load sz3 rfl rfl) ?_)
  refine rg_q (q_call en31 (.cons rfl (.cons rfl (.cons rfl .nil))) rfl (within4_p _ _ _)) ?_
  refine rg_q (q_not rfl) (rg_q (q_m rfl) ?_)
  refine rg_g rfl rfl (fun hG => (q_fieldAddr fld24_3 rfl)) ?_
  refine rg_g rfl rfl (fun hG => (q_load sz3 rfl rfl)) ?_
  refine rg_g rfl rfl (fun hG => (q_call en31 (.cons rfl (.cons rfl (.cons rfl .nil))) rfl (within4_p _ _ _))) ?_
  refine rg_g rfl rfl (fun hG => (q_not rfl)) ?_
  refine rg_pick rfl rfl rfl rfl rfl rfl ?_
  refine rn ?_
  change Awp _ _ _ _ _
  refine awp_cond rfl (fun hc4 => ?_) (fun hc4 => ?_)
  ·
   (try simp only [nb, ne_eq] at hc4)
   rw [if_pos (by simp_all)] at hr
   refine awp_seq ?_
   refine awp_region 1 mixed (by kernel_rfl) ?_
   refine rg_q (q_a rfl) ?_
   refine rn ?_
   change Awp _ _ _ _ _
   refine awp_ret ?_
   refine ⟨_, (.cons (.tmp (by exact .d _)) .nil), ?_⟩
   rw [← hr]; rfl
  ·
   (try simp only [nb, ne_eq] at hc4)
   rw [if_neg (by simp_all)] at hr
   refine awp_skip ?_
   change Awp _ _ _ _ _
   refine awp_seq ?_
   refine awp_region 1 mixed (by kernel_rfl) ?_
   refine rg_q (q_a rfl) ?_
   refine rn ?_
   change Awp _ _ _ _ _
   refine awp_ret ?_
   refine ⟨_, (.cons (.tmp (by exact .d _)) .nil), ?_⟩
   rw [← hr]; rfl

end Go.Proofs.YtphlaicnmmglhaaGreat.Am.M
-- mini
namespace Go.Proofs.YtphlaicnmmglhaaGreat.Am.M
open Go
set_option maxRecDepth 100000 in
theorem rcheckSampling_p (s : Int × Int) : PC Tryz.prog 168 [.agg (shC s)] (.v (.int .i64 (sampE s))) := by
 refine pc_of_awp Tryz.func168 rfl Tryz.ntmps168 (rs := [.tmp 2]) Tryz.results168 (by simp) fun w0 => ?_
 refine awp_seq ?_
 refine awp_region 2 mixed (by kernel_rfl) ?_
 refine rg_q (q_box rfl (by exact .inr ⟨_, rfl⟩)) ?_
 refine rg_q (q_a rfl) ?_
 refine rn ?_
 change Awp _ _ _ _ _
 refine awp_seq ?_
 refine awp_seq ?_
 refine awp_region 10 mixed (by kernel_rfl) ?_
 refine rg_q (q_fieldAddr fld26_0 rfl) (rg_q (q_load sz3 rfl rfl) ?_)
 refine rg_q (q_call en31 (.cons rfl (.cons rfl (.cons rfl .nil))) rfl (within4_p _ _ _)) ?_
 refine rg_q (q_not rfl) (rg_q (q_m rfl) ?_)
 refine rg_g rfl rfl (fun hG => (q_fieldAddr fld26_1 rfl)) ?_
 refine rg_g rfl rfl (fun hG => (q_load sz3 rfl rfl)) ?_
 refine rg_g rfl rfl (fun hG => (q_call en31 (.cons rfl (.cons rfl (.cons rfl .nil))) rfl (within4_p _ _ _))) ?_
 refine rg_g rfl rfl (fun hG => (q_not rfl)) ?_
 refine rg_pick rfl rfl rfl rfl rfl rfl ?_
 refine rn ?_
 change Awp _ _ _ _ _
 refine awp_cond rfl (fun hc1 => ?_) (fun hc1 => ?_)
 ·
  (try simp only [nb, ne_eq] at hc1)
  have hz : sampE s = 2 := by unfold sampE; rw [if_neg (by intro h; simp_all)]
  refine awp_seq ?_
  refine awp_region 1 mixed (by kernel_rfl) ?_
  refine rg_q (q_a rfl) ?_
  refine rn ?_
  change Awp _ _ _ _ _
  refine awp_ret ?_
  refine ⟨_, (.cons (.tmp (by exact .d _)) .nil), ?_⟩
  rw [hz]; rfl
 ·
  (try simp only [nb, ne_eq] at hc1)
  have hz : sampE s = 0 := by unfold sampE; rw [if_pos (by simp_all)]
  refine awp_skip ?_
  change Awp _ _ _ _ _
  refine awp_seq ?_
  refine awp_region 1 mixed (by kernel_rfl) ?_
  refine rg_q (q_a rfl) ?_
  refine rn ?_
  change Awp _ _ _ _ _
  refine awp_ret ?_
  refine ⟨_, (.cons (.tmp (by exact .d _)) .nil), ?_⟩
  rw [hz]; rfl
set_option maxRecDepth 100000 in
theorem inPlate_p (a : Arr) (z : Int) (h1 : 2 ≤ a.ou.t) (h2 : a.ou.t ≤ 20000) : PC Tryz.prog 222 [.agg (arrC a), .v (.int .i64 (z))] (.v (.bool (inR 1 z (a.ou.t - 1)))) := by
 refine pc_of_awp Tryz.func222 rfl Tryz.ntmps222 (rs := [.tmp 4]) Tryz.results222 (by simp) fun w0 => ?_
 refine awp_seq ?_
 refine awp_region 2 mixed (by kernel_rfl) ?_
 refine rg_q (q_box rfl (by exact .inr ⟨_, rfl⟩)) ?_
 refine rg_q (q_a rfl) ?_
 refine rs (awp_region 7 mixed (by kernel_rfl) ?_)
 refine rg_q (q_m rfl) (rg_q (q_fieldAddr fld28_1 rfl) (rg_q (q_fieldAddr fld24_3 rfl) (rg_q (q_load sz3 rfl rfl) ?_)))
 refine rg_q (q_sub rfl rfl (In64.mk (by omega) (by omega))) ?_
 refine rg_q (q_call en31 (.cons rfl (.cons rfl (.cons rfl .nil))) rfl (within4_p _ _ _)) ?_
 refine rg_q (q_a rfl) ?_
 refine rn ?_
 change Awp _ _ _ _ _
 refine awp_ret ?_
 refine ⟨_, (.cons (.tmp (by exact .d _)) .nil), ?_⟩
 rfl

theorem elE_is (p : Int × Int) : elE p = if (inR (-100000) p.1 100000 && inR (-100000) p.2 100000) = true then (if 0 ≤ p.2 then 15 else 0) else 2 := by
  unfold elE
  rw [spotE_is p]
  by_cases h : (inR (-100000) p.1 100000 && inR (-100000) p.2 100000) = true
  · rw [if_pos h, if_pos h]
    unfold firstE; rw [if_pos rfl]
    unfold firstE whenI
    by_cases h2 : 0 ≤ p.2
    · simp [firstE, h2]
    · simp [firstE, h2]
  · rw [if_neg h, if_neg h]; rfl
theorem first4 (a b c d : Int) : firstE [a, b, c, d] = if a ≠ 0 then a else if b ≠ 0 then b else if c ≠ 0 then c else d := by
  unfold firstE
  by_cases h1 : a = 0
  · rw [if_pos h1, if_neg (fun q => q h1)]
    unfold firstE
    by_cases h2 : b = 0
    · rw [if_pos h2, if_neg (fun q => q h2)]
      unfold firstE
      by_cases h3 : c = 0
      · rw [if_pos h3, if_neg (fun q => q h3)]
        unfold firstE
        by_cases h4 : d = 0
        · rw [if_pos h4, h4]; rfl
        · rw [if_neg h4]
      · rw [if_neg h3, if_pos h3]
    · rw [if_neg h2, if_pos h2]
  · rw [if_neg h1, if_pos h1]
set_option maxRecDepth 100000 in
theorem rcheckArr_p (a : Arr) : PC Tryz.prog 92 [.agg (arrC a)] (.tup [.v (.int .i64 ((ckArr a).1)), .v (.int .i64 ((ckArr a).2))]) := by
 have hu : ckArr a = if a.el.length = 0 then (0, 10) else if 16 < a.el.length then (0, 8) else if (ckEls 0 a.el).2 ≠ 0 then ckEls 0 a.el else (0, arrE0 a) := rfl
 have h4 : arrE0 a = if modeE a.ou ≠ 0 then modeE a.ou else if modeE a.ba ≠ 0 then modeE a.ba else if whenI (decide (a.ou.t ≠ a.ba.t)) 23 ≠ 0 then whenI (decide (a.ou.t ≠ a.ba.t)) 23 else sampE a.ts := first4 _ _ _ _
 refine pc_of_awp Tryz.func92 rfl Tryz.ntmps92 (rs := [.tmp 2, .tmp 3]) Tryz.results92 (by simp) fun w0 => ?_
 refine awp_seq ?_
 refine awp_region 3 mixed (by kernel_rfl) ?_
 refine rg_q (q_box rfl (by exact .inr ⟨_, rfl⟩)) ?_
 refine rg_q (q_a rfl) (rg_q (q_a rfl) ?_)
 refine rn ?_
 change Awp _ _ _ _ _
 refine awp_seq ?_
 refine awp_seq ?_
 refine awp_region 4 mixed (by kernel_rfl) ?_
 refine rg_q (q_fieldAddr fld28_0 rfl) (rg_q (q_load sz22 rfl rfl) ?_)
 refine rg_q (q_len isl22 rfl (by exact len_map _ _)) ?_
 refine rg_q (q_eql rfl rfl) ?_
 refine rn ?_
 change Awp _ _ _ _ _
 refine awp_len (t := 8) rfl (fun hl8 => ?_)
 (try simp only [List.length_map] at hl8)
 refine awp_cond rfl (fun hc1 => ?_) (fun hc1 => ?_)
 ·
  (try simp only [nb, ne_eq] at hc1)
  rw [if_pos (by omega)] at hu
  refine awp_seq ?_
  refine awp_region 2 mixed (by kernel_rfl) ?_
  refine rg_q (q_a rfl) (rg_q (q_a rfl) ?_)
  refine rn ?_
  change Awp _ _ _ _ _
  refine awp_ret ?_
  refine ⟨_, (.cons (.tmp (by exact .d _)) (.cons (.tmp (by exact .d _)) .nil)), ?_⟩
  rw [hu]; rfl
 ·
  (try simp only [nb, ne_eq] at hc1)
  rw [if_neg (by omega)] at hu
  refine awp_skip ?_
  change Awp _ _ _ _ _
  refine awp_seq ?_
  refine awp_seq ?_
  refine awp_region 4 mixed (by kernel_rfl) ?_
  refine rg_q (q_fieldAddr fld28_0 rfl) (rg_q (q_load sz22 rfl rfl) ?_)
  refine rg_q (q_len isl22 rfl (by exact len_map _ _)) ?_
  refine rg_q (q_gtr rfl rfl) ?_
  refine rn ?_
  change Awp _ _ _ _ _
  refine awp_len (t := 12) rfl (fun hl12 => ?_)
  (try simp only [List.length_map] at hl12)
  refine awp_cond rfl (fun hc3 => ?_) (fun hc3 => ?_)
  ·
   (try simp only [nb, ne_eq] at hc3)
   rw [if_pos (by omega)] at hu
   refine awp_seq ?_
   refine awp_region 2 mixed (by kernel_rfl) ?_
   refine rg_q (q_a rfl) (rg_q (q_a rfl) ?_)
   refine rn ?_
   change Awp _ _ _ _ _
   refine awp_ret ?_
   refine ⟨_, (.cons (.tmp (by exact .d _)) (.cons (.tmp (by exact .d _)) .nil)), ?_⟩
   rw [hu]; rfl
  ·
   (try simp only [nb, ne_eq] at hc3)
   rw [if_neg (by omega)] at hu
   refine awp_skip ?_
   change Awp _ _ _ _ _
   refine awp_seq ?_
   refine awp_seq ?_
   refine awp_region 1 mixed (by kernel_rfl) ?_
   refine rg_q (q_a rfl) ?_
   refine rn ?_
   change Awp _ _ _ _ _
   refine awp_block ?_
   refine awp_loopH [2, 3, 4, 15, 16, 17, 18, 19, 20, 21, 22, 23, 24, 25, 26, 27, 28, 29, 30, 31, 32, 33, 34, 35, 36, 37] [] (α := Nat) (fun k => [(4, T.i (k : Int))]) (fun k => []) (fun k => k ≤ a.el.length ∧ ckEls 0 a.el = ckEls k (a.el.drop k)) (fun k => a.el.length - k) 0 ⟨Nat.zero_le _, rfl⟩ ?_ ?_
   · exact le_head (ms := []) (by repeat (exact Out.refl _)) ⟨(by rfl), trivial⟩ trivial rfl rfl rfl rfl
   ·
    intro k ⟨hk, hf⟩
    refine awp_seq ?_
    refine awp_seq ?_
    refine awp_region 5 mixed (by kernel_rfl) ?_
    refine rg_q (q_m rfl) (rg_q (q_fieldAddr fld28_0 rfl) (rg_q (q_load sz22 rfl rfl) ?_))
    refine rg_q (q_len isl22 rfl (by exact len_map _ _)) ?_
    refine rg_q (q_lss rfl rfl) ?_
    refine rn ?_
    change Awp _ _ _ _ _
    refine awp_len (t := 17) rfl (fun hl17 => ?_)
    (try simp only [List.length_map] at hl17)
    refine awp_cond rfl (fun hc6 => ?_) (fun hc6 => ?_)
    ·
     (try simp only [nb, ne_eq] at hc6)
     have hlt : k < a.el.length := by omega
     obtain ⟨x, hx⟩ : ∃ x, a.el[k]? = some x := ⟨_, List.getElem?_eq_getElem hlt⟩
     have hd := ckEls_at hx
     have he := elE_is x
     refine awp_skip ?_
     change Awp _ _ _ _ _
     refine awp_seq ?_
     refine awp_block ?_
     refine awp_seq ?_
     refine awp_seq ?_
     refine awp_region 7 mixed (by kernel_rfl) ?_
     refine rg_q (q_fieldAddr fld28_0 rfl) (rg_q (q_load sz22 rfl rfl) (rg_q (q_m rfl) ?_))
     refine rg_q (q_indexAddr sl22 rfl rfl (by omega) (map_at (by omega) hx)) ?_
     refine rg_q (q_loadA (ds := [_, _]) sz33 rfl rfl rfl) ?_
     refine rg_q (q_call en167 (.cons rfl .nil) rfl (risSpot_p _)) ?_
     refine rg_q (q_not rfl) ?_
     refine rn ?_
     change Awp _ _ _ _ _
     refine awp_cond rfl (fun hc8 => ?_) (fun hc8 => ?_)
     ·
      (try simp only [nb, ne_eq] at hc8)
      rw [if_neg (by rcases hc8 with q | q <;> simp [q])] at he
      have hz : ckEls 0 a.el = ((k : Int), 2) := by rw [hf, hd, he]; rfl
      rw [hz] at hu
      refine awp_seq ?_
      refine awp_region 3 mixed (by kernel_rfl) ?_
      refine rg_q (q_m rfl) (rg_q (q_a rfl) (rg_q (q_a rfl) ?_))
      refine rn ?_
      change Awp _ _ _ _ _
      refine awp_ret ?_
      refine ⟨_, (.cons (.tmp (by exact .d _)) (.cons (.tmp (by exact .d _)) .nil)), ?_⟩
      rw [hu]; rfl
     ·
      (try simp only [nb, ne_eq] at hc8)
      rw [if_pos (by simp [hc8.1, hc8.2])] at he
      refine awp_skip ?_
      change Awp _ _ _ _ _
      refine awp_seq ?_
      refine awp_region 7 mixed (by kernel_rfl) ?_
      refine rg_q (q_fieldAddr fld28_0 rfl) (rg_q (q_load sz22 rfl rfl) (rg_q (q_m rfl) ?_))
      refine rg_q (q_indexAddr sl22 rfl rfl (by omega) (map_at (by omega) hx)) ?_
      refine rg_q (q_fieldAddr fld33_1 rfl) (rg_q (q_load sz3 rfl rfl) (rg_q (q_geq rfl rfl) ?_))
      refine rn ?_
      change Awp _ _ _ _ _
      refine awp_cond rfl (fun hc10 => ?_) (fun hc10 => ?_)
      ·
       (try simp only [nb, ne_eq] at hc10)
       rw [if_pos hc10] at he
       have hz : ckEls 0 a.el = ((k : Int), 15) := by rw [hf, hd, he]; rfl
       rw [hz] at hu
       refine awp_seq ?_
       refine awp_region 3 mixed (by kernel_rfl) ?_
       refine rg_q (q_m rfl) (rg_q (q_a rfl) (rg_q (q_a rfl) ?_))
       refine rn ?_
       change Awp _ _ _ _ _
       refine awp_ret ?_
       refine ⟨_, (.cons (.tmp (by exact .d _)) (.cons (.tmp (by exact .d _)) .nil)), ?_⟩
       rw [hu]; rfl
      ·
       (try simp only [nb, ne_eq] at hc10)
       rw [if_neg (by omega)] at he
       refine awp_skip ?_
       change Awp _ _ _ _ _
       refine awp_region 3 mixed (by kernel_rfl) ?_
       refine rg_q (q_m rfl) ?_
       refine rg_q (q_add rfl rfl (In64.mk (by omega) (by omega))) ?_
       refine rg_q (q_a rfl) ?_
       refine rn ?_
       refine ⟨k + 1, ⟨by omega, by rw [hf, hd, if_neg (by rw [he]; simp)]⟩, by omega, ?_⟩
       exact le_head (ms := []) (by repeat (first | exact Out.head rfl rfl | (refine Out.put ?_ rfl))) ⟨(by rfl), trivial⟩ trivial rfl rfl rfl rfl
    ·
     (try simp only [nb, ne_eq] at hc6)
     have hk0 : ckEls 0 a.el = (0, 0) := by rw [hf, List.drop_of_length_le (by omega)]; rfl
     rw [hk0, if_neg (by decide)] at hu
     refine awp_exit ?_
     change Awp _ _ _ _ _
     refine awp_seq ?_
     refine awp_seq ?_
     refine awp_region 4 mixed (by kernel_rfl) ?_
     refine rg_q (q_fieldAddr fld28_1 rfl) ?_
     refine rg_q (q_loadA (ds := [_, _, _, _]) sz24 rfl rfl rfl) ?_
     refine rg_q (q_call en124 (.cons rfl .nil) rfl (xcheckMode_p a.ou)) ?_
     refine rg_q (q_a rfl) ?_
     refine rs (awp_region 2 mixed (by kernel_rfl) ?_)
     refine rg_q (q_m rfl) (rg_q (q_neq rfl rfl) ?_)
     refine rn ?_
     change Awp _ _ _ _ _
     refine awp_cond rfl (fun hc13 => ?_) (fun hc13 => ?_)
     ·
      (try simp only [nb, ne_eq] at hc13)
      rw [if_pos hc13] at h4
      refine awp_seq ?_
      refine awp_region 3 mixed (by kernel_rfl) ?_
      refine rg_q (q_m rfl) (rg_q (q_a rfl) (rg_q (q_a rfl) ?_))
      refine rn ?_
      change Awp _ _ _ _ _
      refine awp_ret ?_
      refine ⟨_, (.cons (.tmp (by exact .d _)) (.cons (.tmp (by exact .d _)) .nil)), ?_⟩
      rw [hu, h4]; rfl
     ·
      (try simp only [nb, ne_eq] at hc13)
      rw [if_neg (fun q => q hc13)] at h4
      refine awp_skip ?_
      change Awp _ _ _ _ _
      refine awp_seq ?_
      refine awp_seq ?_
      refine awp_region 4 mixed (by kernel_rfl) ?_
      refine rg_q (q_fieldAddr fld28_2 rfl) ?_
      refine rg_q (q_loadA (ds := [_, _, _, _]) sz24 rfl rfl rfl) ?_
      refine rg_q (q_call en124 (.cons rfl .nil) rfl (xcheckMode_p a.ba)) ?_
      refine rg_q (q_a rfl) ?_
      refine rs (awp_region 2 mixed (by kernel_rfl) ?_)
      refine rg_q (q_m rfl) (rg_q (q_neq rfl rfl) ?_)
      refine rn ?_
      change Awp _ _ _ _ _
      refine awp_cond rfl (fun hc16 => ?_) (fun hc16 => ?_)
      ·
       (try simp only [nb, ne_eq] at hc16)
       rw [if_pos hc16] at h4
       refine awp_seq ?_
       refine awp_region 3 mixed (by kernel_rfl) ?_
       refine rg_q (q_m rfl) (rg_q (q_a rfl) (rg_q (q_a rfl) ?_))
       refine rn ?_
       change Awp _ _ _ _ _
       refine awp_ret ?_
       refine ⟨_, (.cons (.tmp (by exact .d _)) (.cons (.tmp (by exact .d _)) .nil)), ?_⟩
       rw [hu, h4]; rfl
      ·
       (try simp only [nb, ne_eq] at hc16)
       rw [if_neg (fun q => q hc16)] at h4
       refine awp_skip ?_
       change Awp _ _ _ _ _
       refine awp_seq ?_
       refine awp_seq ?_
       refine awp_region 7 mixed (by kernel_rfl) ?_
       refine rg_q (q_fieldAddr fld28_1 rfl) (rg_q (q_fieldAddr fld24_3 rfl) (rg_q (q_load sz3 rfl rfl) (rg_q (q_fieldAddr fld28_2 rfl) (rg_q (q_fieldAddr fld24_3 rfl) (rg_q (q_load sz3 rfl rfl) ?_)))))
       refine rg_q (q_neq rfl rfl) ?_
       refine rn ?_
       change Awp _ _ _ _ _
       refine awp_cond rfl (fun hc18 => ?_) (fun hc18 => ?_)
       ·
        (try simp only [nb, ne_eq] at hc18)
        have hw : whenI (decide (a.ou.t ≠ a.ba.t)) 23 = 23 := by unfold whenI; rw [if_pos (decide_eq_true hc18)]
        rw [hw, if_pos (by decide)] at h4
        refine awp_seq ?_
        refine awp_region 2 mixed (by kernel_rfl) ?_
        refine rg_q (q_a rfl) (rg_q (q_a rfl) ?_)
        refine rn ?_
        change Awp _ _ _ _ _
        refine awp_ret ?_
        refine ⟨_, (.cons (.tmp (by exact .d _)) (.cons (.tmp (by exact .d _)) .nil)), ?_⟩
        rw [hu, h4]; rfl
       ·
        (try simp only [nb, ne_eq] at hc18)
        have hw : whenI (decide (a.ou.t ≠ a.ba.t)) 23 = 0 := by unfold whenI; rw [if_neg (by simpa using hc18)]
        rw [hw, if_neg (by decide)] at h4
        refine awp_skip ?_
        change Awp _ _ _ _ _
        refine awp_seq ?_
        refine awp_region 5 mixed (by kernel_rfl) ?_
        refine rg_q (q_fieldAddr fld28_3 rfl) ?_
        refine rg_q (q_loadA (ds := [_, _]) sz26 rfl rfl rfl) ?_
        refine rg_q (q_call en168 (.cons rfl .nil) rfl (rcheckSampling_p _)) ?_
        refine rg_q (q_a rfl) (rg_q (q_a rfl) ?_)
        refine rn ?_
        change Awp _ _ _ _ _
        refine awp_ret ?_
        refine ⟨_, (.cons (.tmp (by exact .d _)) (.cons (.tmp (by exact .d _)) .nil)), ?_⟩
        rw [hu, h4]; rfl
theorem plateE_is (z t : Int) : plateE z t = if inR 1 z (t - 1) = true then 0 else 22 := rfl
theorem flE_is (t : Int) (x : Flw) : flE t x = if flwE x ≠ 0 then flwE x else if inR 1 x.at_.2 (t - 1) = false ∨ (x.kd = 1 ∧ inR 1 x.to_.2 (t - 1) = false) then 22 else 0 := by
  unfold flE
  by_cases h0 : flwE x = 0
  · have hr : ∀ a b : Int, (if flwE x ≠ 0 then a else b) = b := fun a b => if_neg (fun q => q h0)
    rw [hr]
    by_cases h1 : inR 1 x.at_.2 (t - 1) = true
    · have e : firstE [flwE x, plateE x.at_.2 t] = 0 := by
        unfold firstE; rw [if_pos h0]
        unfold firstE; rw [if_pos (by rw [plateE_is, if_pos h1])]; rfl
      by_cases hk : x.kd = 1
      · rw [if_pos ⟨e, hk⟩, plateE_is]
        by_cases h2 : inR 1 x.to_.2 (t - 1) = true
        · rw [if_pos h2, if_neg]
          rintro (q | ⟨_, q⟩)
          · rw [h1] at q; cases q
          · rw [h2] at q; cases q
        · rw [if_neg h2, if_pos (.inr ⟨hk, by simpa using h2⟩)]
      · rw [if_neg (fun q => hk q.2), e, if_neg]
        rintro (q | ⟨q, _⟩)
        · rw [h1] at q; cases q
        · exact hk q
    · have e : firstE [flwE x, plateE x.at_.2 t] = 22 := by
        unfold firstE; rw [if_pos h0]
        unfold firstE; rw [plateE_is, if_neg h1]; rfl
      rw [if_neg (fun q => by rw [e] at q; exact absurd q.1 (by decide)), e, if_pos (.inl (by simpa using h1))]
  · have e : firstE [flwE x, plateE x.at_.2 t] = flwE x := by unfold firstE; rw [if_neg h0]
    have hr : ∀ a b : Int, (if flwE x ≠ 0 then a else b) = a := fun a b => if_pos h0
    rw [hr, if_neg (fun q => h0 (e ▸ q.1)), e]
set_option maxRecDepth 100000 in
theorem rcheckSpc_p (s : Spc) : PC Tryz.prog 145 [.agg (spcC s)] (.tup [.v (.int .i64 ((ckSpc s).1)), .v (.int .i64 ((ckSpc s).2))]) := by
  have hu : ckSpc s = if (ckArr s.ar).2 ≠ 0 then ckArr s.ar else if spcE0 s ≠ 0 then (0, spcE0 s) else ckFls s.ar.ou.t 0 s.fl := rfl
  have h2 : spcE0 s = if plsE s.pl ≠ 0 then plsE s.pl else whenI (decide (10 < (s.fl.length : Int))) 8 := by
    unfold spcE0 firstE
    by_cases q : plsE s.pl = 0
    · rw [if_pos q, if_neg (fun h => h q)]
      unfold firstE
      split
      · rename_i q2; rw [q2]; rfl
      · rfl
    · rw [if_neg q, if_pos q]
  refine pc_of_awp Tryz.func145 rfl Tryz.ntmps145 (rs := [.tmp 2, .tmp 3]) Tryz.results145 (by simp) fun w0 => ?_
  refine awp_seq ?_
  refine awp_region 3 mixed (by kernel_rfl) ?_
  refine rg_q (q_box rfl (by exact .inr ⟨_, rfl⟩)) ?_
  refine rg_q (q_a rfl) (rg_q (q_a rfl) ?_)
  refine rn ?_
  change Awp _ _ _ _ _
  refine awp_seq ?_
  refine awp_seq ?_
  refine awp_region 8 mixed (by kernel_rfl) ?_
  refine rg_q (q_fieldAddr fld130_0 rfl) ?_
  refine rg_q (q_loadA (ds := [_, _, _, _, _, _, _, _, _, _, _]) sz28 rfl rfl rfl) ?_
  refine rg_q (q_call en92 (.cons rfl .nil) rfl (rcheckArr_p s.ar)) ?_
  refine rg_q (q_move (x := .d (.tup _)) rfl) (rg_q (q_extract rfl rfl) (rg_q (q_extract rfl rfl) (rg_q (q_a rfl) (rg_q (q_a rfl) ?_))))
  refine rs (awp_region 2 mixed (by kernel_rfl) ?_)
  refine rg_q (q_m rfl) (rg_q (q_neq rfl rfl) ?_)
  refine rn ?_
  change Awp _ _ _ _ _
  refine awp_cond rfl (fun hc2 => ?_) (fun hc2 => ?_)
  ·
    (try simp only [nb, ne_eq] at hc2)
    rw [if_pos hc2] at hu
    refine awp_seq ?_
    refine awp_region 4 mixed (by kernel_rfl) ?_
    refine rg_q (q_m rfl) (rg_q (q_m rfl) (rg_q (q_a rfl) (rg_q (q_a rfl) ?_)))
    refine rn ?_
    change Awp _ _ _ _ _
    refine awp_ret ?_
    refine ⟨_, (.cons (.tmp (by exact .d _)) (.cons (.tmp (by exact .d _)) .nil)), ?_⟩
    rw [hu]; rfl
  ·
    (try simp only [nb, ne_eq] at hc2)
    have hck : (ckArr s.ar).2 = 0 := by simpa using hc2
    have hok := (ckArr_ok hck).1
    have ht1 := hok.ou.t1
    have ht2 := hok.ou.t2
    rw [if_neg (fun q => q hck)] at hu
    refine awp_skip ?_
    change Awp _ _ _ _ _
    refine awp_seq ?_
    refine awp_seq ?_
    refine awp_region 4 mixed (by kernel_rfl) ?_
    refine rg_q (q_fieldAddr fld130_1 rfl) (rg_q (q_load sz77 rfl rfl) ?_)
    refine rg_q (q_call en220 (.cons rfl .nil) rfl (rpulseErr_p _)) ?_
    refine rg_q (q_a rfl) ?_
    refine rs (awp_region 2 mixed (by kernel_rfl) ?_)
    refine rg_q (q_m rfl) (rg_q (q_neq rfl rfl) ?_)
    refine rn ?_
    change Awp _ _ _ _ _
    refine awp_cond rfl (fun hc5 => ?_) (fun hc5 => ?_)
    ·
      (try simp only [nb, ne_eq] at hc5)
      rw [if_pos hc5] at h2
      rw [h2, if_pos hc5] at hu
      refine awp_seq ?_
      refine awp_region 3 mixed (by kernel_rfl) ?_
      refine rg_q (q_m rfl) (rg_q (q_a rfl) (rg_q (q_a rfl) ?_))
      refine rn ?_
      change Awp _ _ _ _ _
      refine awp_ret ?_
      refine ⟨_, (.cons (.tmp (by exact .d _)) (.cons (.tmp (by exact .d _)) .nil)), ?_⟩
      rw [hu]; rfl
    ·
      (try simp only [nb, ne_eq] at hc5)
      rw [if_neg (fun q => q hc5)] at h2
      refine awp_skip ?_
      change Awp _ _ _ _ _
      refine awp_seq ?_
      refine awp_seq ?_
      refine awp_region 4 mixed (by kernel_rfl) ?_
      refine rg_q (q_fieldAddr fld130_2 rfl) (rg_q (q_load sz128 rfl rfl) ?_)
      refine rg_q (q_len isl128 rfl (by exact len_map _ _)) ?_
      refine rg_q (q_gtr rfl rfl) ?_
      refine rn ?_
      change Awp _ _ _ _ _
      refine awp_len (t := 27) rfl (fun hl27 => ?_)
      (try simp only [List.length_map] at hl27)
      refine awp_cond rfl (fun hc7 => ?_) (fun hc7 => ?_)
      ·
        (try simp only [nb, ne_eq] at hc7)
        have hw : whenI (decide (10 < (s.fl.length : Int))) 8 = 8 := by unfold whenI; rw [if_pos (decide_eq_true hc7)]
        rw [h2, hw, if_pos (by decide)] at hu
        refine awp_seq ?_
        refine awp_region 2 mixed (by kernel_rfl) ?_
        refine rg_q (q_a rfl) (rg_q (q_a rfl) ?_)
        refine rn ?_
        change Awp _ _ _ _ _
        refine awp_ret ?_
        refine ⟨_, (.cons (.tmp (by exact .d _)) (.cons (.tmp (by exact .d _)) .nil)), ?_⟩
        rw [hu]; rfl
      ·
        (try simp only [nb, ne_eq] at hc7)
        have hw : whenI (decide (10 < (s.fl.length : Int))) 8 = 0 := by unfold whenI; rw [if_neg (by simpa using hc7)]
        rw [h2, hw, if_neg (by decide)] at hu
        refine awp_skip ?_
        change Awp _ _ _ _ _
        refine awp_seq ?_
        refine awp_seq ?_
        refine awp_region 1 mixed (by kernel_rfl) ?_
        refine rg_q (q_a rfl) ?_
        refine rn ?_
        change Awp _ _ _ _ _
        refine awp_block ?_
        refine awp_loopH [2, 3, 7, 8, 9, 30, 31, 32, 33, 34, 35, 36, 37, 38, 39, 40, 41, 42, 43, 44, 45, 46, 47, 48, 49, 50, 51, 52, 53, 54, 55, 56, 57, 58, 59, 60, 61, 62, 63, 64, 65, 66, 67, 68, 69] [] (α := Nat) (fun k => [(7, T.i (k : Int))]) (fun k => []) (fun k => k ≤ s.fl.length ∧ ckFls s.ar.ou.t 0 s.fl = ckFls s.ar.ou.t k (s.fl.drop k)) (fun k => s.fl.length - k) 0 ⟨Nat.zero_le _, rfl⟩ ?_ ?_
        · exact le_head (ms := []) (by repeat (exact Out.refl _)) ⟨(by rfl), trivial⟩ trivial rfl rfl rfl rfl
        ·
          intro k ⟨hk, hf⟩
          refine awp_seq ?_
          refine awp_seq ?_
          refine awp_region 5 mixed (by kernel_rfl) ?_
          refine rg_q (q_m rfl) (rg_q (q_fieldAddr fld130_2 rfl) (rg_q (q_load sz128 rfl rfl) ?_))
          refine rg_q (q_len isl128 rfl (by exact len_map _ _)) ?_
          refine rg_q (q_lss rfl rfl) ?_
          refine rn ?_
          change Awp _ _ _ _ _
          refine awp_len (t := 32) rfl (fun hl32 => ?_)
          (try simp only [List.length_map] at hl32)
          refine awp_cond rfl (fun hc10 => ?_) (fun hc10 => ?_)
          ·
            (try simp only [nb, ne_eq] at hc10)
            have hlt : k < s.fl.length := by omega
            obtain ⟨x, hx⟩ : ∃ x, s.fl[k]? = some x := ⟨_, List.getElem?_eq_getElem hlt⟩
            have hd := ckFls_at (t := s.ar.ou.t) hx
            have he := flE_is s.ar.ou.t x
            refine awp_skip ?_
            change Awp _ _ _ _ _
            refine awp_seq ?_
            refine awp_block ?_
            refine awp_seq ?_
            refine awp_region 5 mixed (by kernel_rfl) ?_
            refine rg_q (q_fieldAddr fld130_2 rfl) (rg_q (q_load sz128 rfl rfl) (rg_q (q_m rfl) ?_))
            refine rg_q (q_indexAddr sl128 rfl rfl (by omega) (map_at (by omega) hx)) ?_
            refine rg_q (q_loadA (ds := [_, _, _, _, _, _, _, _]) sz135 rfl rfl rfl) ?_
            refine rg_nil ?_
            refine aops_alloc zr135 rfl rfl rfl ?_
            refine aops_store sz135 rfl rfl (by exact .inr ⟨_, rfl⟩) rfl rfl (by decide) rfl ?_
            refine aops_nil ?_
            change Awp _ _ _ _ _
            refine awp_seq ?_
            refine awp_seq ?_
            refine awp_region 3 mixed (by kernel_rfl) ?_
            refine rg_q (q_load_refA (ds := [_, _, _, _, _, _, _, _]) sz135 rfl rfl rfl rfl) ?_
            refine rg_q (q_call en221 (.cons rfl .nil) rfl (rcheckFlaw_p x)) ?_
            refine rg_q (q_a rfl) ?_
            refine rs (awp_region 2 mixed (by kernel_rfl) ?_)
            refine rg_q (q_m rfl) (rg_q (q_neq rfl rfl) ?_)
            refine rn ?_
            change Awp _ _ _ _ _
            refine awp_cond rfl (fun hc14 => ?_) (fun hc14 => ?_)
            ·
              (try simp only [nb, ne_eq] at hc14)
              rw [if_pos hc14] at he
              refine awp_seq ?_
              refine awp_region 4 mixed (by kernel_rfl) ?_
              refine rg_q (q_m rfl) (rg_q (q_m rfl) (rg_q (q_a rfl) (rg_q (q_a rfl) ?_)))
              refine rn ?_
              change Awp _ _ _ _ _
              refine awp_ret ?_
              refine ⟨_, (.cons (.tmp (by exact .d _)) (.cons (.tmp (by exact .d _)) .nil)), ?_⟩
              rw [hu, hf, hd, he, if_pos hc14]; rfl
            ·
              (try simp only [nb, ne_eq] at hc14)
              rw [if_neg (fun q => q hc14)] at he
              refine awp_skip ?_
              change Awp _ _ _ _ _
              refine awp_seq ?_
              refine awp_region 21 mixed (by kernel_rfl) ?_
              refine rg_q (q_fieldAddr fld130_0 rfl) ?_
              refine rg_q (q_loadA (ds := [_, _, _, _, _, _, _, _, _, _, _]) sz28 rfl rfl rfl) ?_
              refine rg_q (q_fieldAddr_ref fld135_1 rfl) (rg_q (q_fieldAddr_ref fld33_1 rfl) (rg_q (q_load_ref sz3 rfl rfl rfl) ?_))
              refine rg_q (q_call en222 (.cons rfl (.cons rfl .nil)) rfl (inPlate_p _ _ ht1 ht2)) ?_
              refine rg_q (q_not rfl) (rg_q (q_m rfl) ?_)
              refine rg_g rfl rfl (fun hG => (q_fieldAddr_ref fld135_0 rfl)) ?_
              refine rg_g rfl rfl (fun hG => (q_load_ref sz3 rfl rfl rfl)) ?_
              refine rg_g rfl rfl (fun hG => (q_eql rfl rfl)) ?_
              refine rg_g rfl rfl (fun hG => (q_m rfl)) ?_
              refine rg_g rfl rfl (fun hG => (q_fieldAddr fld130_0 rfl)) ?_
              refine rg_g rfl rfl (fun hG => (q_loadA (ds := [_, _, _, _, _, _, _, _, _, _, _]) sz28 rfl rfl rfl)) ?_
              refine rg_g rfl rfl (fun hG => (q_fieldAddr_ref fld135_2 rfl)) ?_
              refine rg_g rfl rfl (fun hG => (q_fieldAddr_ref fld33_1 rfl)) ?_
              refine rg_g rfl rfl (fun hG => (q_load_ref sz3 rfl rfl rfl)) ?_
              refine rg_g rfl rfl (fun hG => (q_call en222 (.cons rfl (.cons rfl .nil)) rfl (inPlate_p _ _ ht1 ht2))) ?_
              refine rg_g rfl rfl (fun hG => (q_not rfl)) ?_
              refine rg_pickg rfl rfl rfl rfl rfl rfl rfl rfl ?_
              refine rg_pick rfl rfl rfl rfl rfl rfl ?_
              refine rn ?_
              change Awp _ _ _ _ _
              refine awp_cond rfl (fun hc16 => ?_) (fun hc16 => ?_)
              ·
                (try simp only [nb, ne_eq] at hc16)
                rw [if_pos hc16] at he
                refine awp_seq ?_
                refine awp_region 3 mixed (by kernel_rfl) ?_
                refine rg_q (q_m rfl) (rg_q (q_a rfl) (rg_q (q_a rfl) ?_))
                refine rn ?_
                change Awp _ _ _ _ _
                refine awp_ret ?_
                refine ⟨_, (.cons (.tmp (by exact .d _)) (.cons (.tmp (by exact .d _)) .nil)), ?_⟩
                rw [hu, hf, hd, he]; rfl
              ·
                (try simp only [nb, ne_eq] at hc16)
                rw [if_neg (fun q => q.elim (fun q => by rw [hc16.1] at q; cases q) (fun q => hc16.2.elim (fun z => z q.1) (fun z => by rw [z] at q; cases q.2)))] at he
                refine awp_skip ?_
                change Awp _ _ _ _ _
                refine awp_region 3 mixed (by kernel_rfl) ?_
                refine rg_q (q_m rfl) ?_
                refine rg_q (q_add rfl rfl (In64.mk (by omega) (by omega))) ?_
                refine rg_q (q_a rfl) ?_
                refine rn ?_
                refine ⟨k + 1, ⟨by omega, by rw [hf, hd, if_neg (by rw [he]; simp)]⟩, by omega, ?_⟩
                exact le_head (ms := []) (by repeat (first | exact Out.head rfl rfl | (refine Out.put ?_ rfl) | (refine Out.site ?_ rfl))) ⟨(by rfl), trivial⟩ trivial rfl rfl rfl rfl
          ·
            (try simp only [nb, ne_eq] at hc10)
            have hk0 : ckFls s.ar.ou.t 0 s.fl = (0, 0) := by rw [hf, List.drop_of_length_le (by omega)]; rfl
            rw [hk0] at hu
            refine awp_exit ?_
            change Awp _ _ _ _ _
            refine awp_seq ?_
            refine awp_region 2 mixed (by kernel_rfl) ?_
            refine rg_q (q_a rfl) (rg_q (q_a rfl) ?_)
            refine rn ?_
            change Awp _ _ _ _ _
            refine awp_ret ?_
            refine ⟨_, (.cons (.tmp (by exact .d _)) (.cons (.tmp (by exact .d _)) .nil)), ?_⟩
            rw [hu]; rfl
set_option maxRecDepth 100000 in
theorem specimenErr_p (s : Spc) : PC Tryz.prog 77 [.agg (spcC s)] (.v (.int .i64 ((ckSpc s).2))) := by
 refine pc_of_awp Tryz.func77 rfl Tryz.ntmps77 (rs := [.tmp 2]) Tryz.results77 (by simp) fun w0 => ?_
 refine awp_seq ?_
 refine awp_region 2 mixed (by kernel_rfl) ?_
 refine rg_q (q_box rfl (by exact .inr ⟨_, rfl⟩)) ?_
 refine rg_q (q_a rfl) ?_
 refine rs (awp_region 7 mixed (by kernel_rfl) ?_)
 refine rg_q (q_loadA sz130 rfl rfl rfl) ?_
 refine rg_q (q_call en145 (.cons rfl .nil) rfl (rcheckSpc_p _)) ?_
 refine rg_q (q_move (x := .d (.tup _)) rfl) (rg_q (q_extract rfl rfl) (rg_q (q_extract rfl rfl) (rg_q (q_a rfl) (rg_q (q_a rfl) ?_))))
 refine rs (awp_region 2 mixed (by kernel_rfl) ?_)
 refine rg_q (q_m rfl) (rg_q (q_a rfl) ?_)
 refine rn ?_
 change Awp _ _ _ _ _
 refine awp_ret ?_
 refine ⟨_, (.cons (.tmp (by exact .d _)) .nil), ?_⟩
 rfl
set_option maxRecDepth 100000 in
theorem copySpots_p (l : List (Int × Int)) (hl : l.length ≤ 1000) : PC Tryz.prog 149 [.sl 2 (l.map shC)] (.sl 2 (l.map shC)) := by
 refine pc_of_awp Tryz.func149 rfl Tryz.ntmps149 (rs := [.tmp 2]) Tryz.results149 (by simp) fun w0 => ?_
 refine awp_seq ?_
 refine awp_region 1 mixed (by kernel_rfl) ?_
 refine rg_q (q_assign (x := .d (.sl _ _)) rfl) ?_
 refine rs (awp_region 4 mixed (by kernel_rfl) ?_)
 refine rg_q (q_empty0 sl22 zr33) ?_
 refine rg_q (q_move (x := .d (.sl _ _)) rfl) ?_
 refine rg_q (q_append0 sl22 zr33 by33 rfl (by decide) rfl rfl rfl (by (try simp only [List.length_map]); omega) (by (try simp only [List.length_map]); omega)) ?_
 refine rg_q (q_assign (x := .d (.sl _ _)) rfl) ?_
 refine rn ?_
 change Awp _ _ _ _ _
 refine awp_ret ?_
 refine ⟨_, (.cons (.tmp (by exact .d _)) .nil), ?_⟩
 rfl
set_option maxRecDepth 100000 in
theorem copyArr_p (a : Arr) (hl : a.el.length ≤ 1000) : PC Tryz.prog 79 [.agg (arrC a)] (.agg (arrC a)) := by
 refine pc_of_awp Tryz.func79 rfl Tryz.ntmps79 (rs := [.cell 2 28]) Tryz.results79 (by simp) fun w0 => ?_
 refine awp_seq ?_
 refine awp_region 0 mixed (by kernel_rfl) ?_
 refine rg_nil ?_
 refine aops_box (X := .agg (arrC a)) rfl (by exact .inr ⟨_, rfl⟩) rfl rfl rfl ?_
 refine aops_alloc zr28 rfl rfl rfl ?_
 refine aops_nil ?_
 change Awp _ _ _ _ _
 refine awp_seq ?_
 refine awp_region 4 mixed (by kernel_rfl) ?_
 refine rg_q (q_fieldAddr_ref fld28_0 rfl) (rg_q (q_load_ref sz22 rfl rfl rfl) ?_)
 refine rg_q (q_call en149 (.cons rfl .nil) rfl (copySpots_p _ (by omega))) ?_
 refine rg_q (q_fieldAddr_ref fld28_0 rfl) ?_
 refine rg_nil ?_
 refine aops_store sz22 rfl rfl (by exact .inl rfl) rfl rfl (by exact Nat.le_of_ble_eq_true rfl) rfl ?_
 refine aops_nil ?_
 change Awp _ _ _ _ _
 refine awp_seq ?_
 refine awp_region 1 mixed (by kernel_rfl) ?_
 refine rg_q (q_load_refA (ds := [_, _, _, _, _, _, _, _, _, _, _]) sz28 rfl rfl rfl rfl) ?_
 refine rg_nil ?_
 refine aops_store sz28 rfl rfl (by exact .inr ⟨_, rfl⟩) rfl rfl (by decide) rfl ?_
 refine aops_nil ?_
 change Awp _ _ _ _ _
 refine awp_ret ?_
 refine ⟨_, (.cons (.cellA rfl rfl sz28 rfl) .nil), ?_⟩
 rfl
set_option maxRecDepth 100000 in
theorem copySpc_p (s : Spc) (hl : s.ar.el.length ≤ 1000) (h2 : s.pl.length ≤ 1000) (h3 : s.fl.length ≤ 1000) : PC Tryz.prog 75 [.agg (spcC s)] (.agg (spcC s)) := by
 refine pc_of_awp Tryz.func75 rfl Tryz.ntmps75 (rs := [.cell 2 130]) Tryz.results75 (by simp) fun w0 => ?_
 refine awp_seq ?_
 refine awp_region 1 mixed (by kernel_rfl) ?_
 refine rg_q (q_box rfl (by exact .inr ⟨_, rfl⟩)) ?_
 refine rg_nil ?_
 refine aops_alloc zr130 rfl rfl rfl ?_
 refine aops_nil ?_
 change Awp _ _ _ _ _
 refine awp_seq ?_
 refine awp_region 11 mixed (by kernel_rfl) ?_
 refine rg_q (q_fieldAddr fld130_0 rfl) ?_
 refine rg_q (q_loadA (ds := [_, _, _, _, _, _, _, _, _, _, _]) sz28 rfl rfl rfl) ?_
 refine rg_q (q_call en79 (.cons rfl .nil) rfl (copyArr_p s.ar (by omega))) ?_
 refine rg_q (q_fieldAddr fld130_1 rfl) (rg_q (q_load sz77 rfl rfl) ?_)
 refine rg_q (q_call en42 (.cons rfl .nil) rfl (copyInts4_p _ (by omega))) ?_
 refine rg_q (q_empty0 sl128 zr135) ?_
 refine rg_q (q_fieldAddr fld130_2 rfl) (rg_q (q_load sz128 rfl rfl) ?_)
 refine rg_q (q_append0 sl128 zr135 by135 rfl (by decide) rfl rfl rfl (by (try simp only [List.length_map]); omega) (by (try simp only [List.length_map]); omega)) ?_
 refine rg_q (q_build pl130 zr130 rfl (.cons rfl (by exact .inr ⟨_, rfl⟩) (.cons rfl (by exact .inl rfl) (.cons rfl (by exact .inl rfl) .nil))) ⟨⟨rfl, by decide⟩, ⟨rfl, by decide⟩, ⟨rfl, by decide⟩, trivial⟩ rfl) ?_
 refine rg_nil ?_
 refine aops_store sz130 rfl rfl (by exact .inr ⟨_, rfl⟩) rfl rfl (by decide) rfl ?_
 refine aops_nil ?_
 change Awp _ _ _ _ _
 refine awp_ret ?_
 refine ⟨_, (.cons (.cellA rfl rfl sz130 rfl) .nil), ?_⟩
 rfl

def fewB (n : Nat) : Bool := decide (n ≤ 3) || (decide (16 < n) && decide (n ≤ 18))
def pcsB (x : Flw) : Bool := decide (4 < x.pc) && decide (x.pc ≤ 20)
def sliB (s : Spc) : Bool := !(!fewB s.ar.el.length || decide (18 < s.pl.length) || (decide (2 < s.fl.length) && decide (s.fl.length ≤ 10)) || decide (12 < s.fl.length)) && s.fl.all fun x => !pcsB x
theorem few_le {n : Nat} (h : fewB n = true) : n ≤ 18 := by simp [fewB] at h; omega
theorem sli_le {s : Spc} (h : sliB s = true) : s.ar.el.length ≤ 18 ∧ s.pl.length ≤ 18 ∧ s.fl.length ≤ 12 := by
  simp [sliB] at h
  obtain ⟨⟨⟨⟨h1, h2⟩, h3⟩, h4⟩, _⟩ := h
  exact ⟨few_le h1, h2, h4⟩
theorem all_at {l : List Flw} {k : Nat} {x : Flw} (hx : l[k]? = some x) : ((l.drop k).all fun x => !pcsB x) = (!pcsB x && (l.drop (k + 1)).all fun x => !pcsB x) := by
  obtain ⟨hlt, rfl⟩ := List.getElem?_eq_some_iff.1 hx
  rw [List.drop_eq_getElem_cons hlt]; rfl
set_option maxRecDepth 100000 in
theorem few_p (a : Arr) : PC Tryz.prog 219 [.agg (arrC a)] (.v (.bool (fewB a.el.length))) := by
 refine pc_of_awp Tryz.func219 rfl Tryz.ntmps219 (rs := [.tmp 2]) Tryz.results219 (by simp) fun w0 => ?_
 refine awp_seq ?_
 refine awp_region 2 mixed (by kernel_rfl) ?_
 refine rg_q (q_box rfl (by exact .inr ⟨_, rfl⟩)) ?_
 refine rg_q (q_a rfl) ?_
 refine rs (awp_region 17 mixed (by kernel_rfl) ?_)
 refine rg_q (q_fieldAddr fld28_0 rfl) (rg_q (q_load sz22 rfl rfl) ?_)
 refine rg_q (q_len isl22 rfl (by exact len_map _ _)) ?_
 refine rg_q (q_leq rfl rfl) (rg_q (q_m rfl) ?_)
 refine rg_g rfl rfl (fun hG => (q_fieldAddr fld28_0 rfl)) ?_
 refine rg_g rfl rfl (fun hG => (q_load sz22 rfl rfl)) ?_
 refine rg_g rfl rfl (fun hG => (q_len isl22 rfl (by exact len_map _ _))) ?_
 refine rg_g rfl rfl (fun hG => (q_gtr rfl rfl)) ?_
 refine rg_g rfl rfl (fun hG => (q_m rfl)) ?_
 refine rg_g rfl rfl (fun hG => (q_fieldAddr fld28_0 rfl)) ?_
 refine rg_g rfl rfl (fun hG => (q_load sz22 rfl rfl)) ?_
 refine rg_g rfl rfl (fun hG => (q_len isl22 rfl (by exact len_map _ _))) ?_
 refine rg_g rfl rfl (fun hG => (q_leq rfl rfl)) ?_
 refine rg_pickg rfl rfl rfl rfl rfl rfl rfl rfl ?_
 refine rg_pick rfl rfl rfl rfl rfl rfl ?_
 refine rg_q (q_a rfl) ?_
 refine rn ?_
 change Awp _ _ _ _ _
 refine awp_len (t := 4) rfl (fun hl4 => ?_)
 (try simp only [List.length_map] at hl4)
 refine awp_ret ?_
 refine ⟨_, (.cons (.tmp (by exact .d _)) .nil), ?_⟩
 have e1 : decide (a.el.length ≤ 3) = decide ((a.el.length : Int) ≤ 3) := decide_eq_decide.2 (by omega)
 have e2 : decide (16 < a.el.length) = decide (16 < (a.el.length : Int)) := decide_eq_decide.2 (by omega)
 have e3 : decide (a.el.length ≤ 18) = decide ((a.el.length : Int) ≤ 18) := decide_eq_decide.2 (by omega)
 unfold fewB; rw [e1, e2, e3]; simp only [bif_and, bif_or]; rfl
set_option maxRecDepth 100000 in
theorem slight_p (s : Spc) : PC Tryz.prog 144 [.agg (spcC s)] (.v (.bool (sliB s))) := by
 have hu : sliB s = (!(!fewB s.ar.el.length || decide (18 < s.pl.length) || (decide (2 < s.fl.length) && decide (s.fl.length ≤ 10)) || decide (12 < s.fl.length)) && s.fl.all fun x => !pcsB x) := rfl
 refine pc_of_awp Tryz.func144 rfl Tryz.ntmps144 (rs := [.tmp 2]) Tryz.results144 (by simp) fun w0 => ?_
 refine awp_seq ?_
 refine awp_region 2 mixed (by kernel_rfl) ?_
 refine rg_q (q_box rfl (by exact .inr ⟨_, rfl⟩)) ?_
 refine rg_q (q_a rfl) ?_
 refine rn ?_
 change Awp _ _ _ _ _
 refine awp_seq ?_
 refine awp_seq ?_
 refine awp_region 28 mixed (by kernel_rfl) ?_
 refine rg_q (q_fieldAddr fld130_0 rfl) ?_
 refine rg_q (q_loadA (ds := [_, _, _, _, _, _, _, _, _, _, _]) sz28 rfl rfl rfl) ?_
 refine rg_q (q_call en219 (.cons rfl .nil) rfl (few_p s.ar)) ?_
 refine rg_q (q_not rfl) (rg_q (q_m rfl) ?_)
 refine rg_g rfl rfl (fun hG => (q_fieldAddr fld130_1 rfl)) ?_
 refine rg_g rfl rfl (fun hG => (q_load sz77 rfl rfl)) ?_
 refine rg_g rfl rfl (fun hG => (q_len isl77 rfl (by exact len_map _ _))) ?_
 refine rg_g rfl rfl (fun hG => (q_gtr rfl rfl)) ?_
 refine rg_pick rfl rfl rfl rfl rfl rfl ?_
 refine rg_q (q_m rfl) ?_
 refine rg_g rfl rfl (fun hG => (q_fieldAddr fld130_2 rfl)) ?_
 refine rg_g rfl rfl (fun hG => (q_load sz128 rfl rfl)) ?_
 refine rg_g rfl rfl (fun hG => (q_len isl128 rfl (by exact len_map _ _))) ?_
 refine rg_g rfl rfl (fun hG => (q_gtr rfl rfl)) ?_
 refine rg_g rfl rfl (fun hG => (q_m rfl)) ?_
 refine rg_g rfl rfl (fun hG => (q_fieldAddr fld130_2 rfl)) ?_
 refine rg_g rfl rfl (fun hG => (q_load sz128 rfl rfl)) ?_
 refine rg_g rfl rfl (fun hG => (q_len isl128 rfl (by exact len_map _ _))) ?_
 refine rg_g rfl rfl (fun hG => (q_leq rfl rfl)) ?_
 refine rg_pickg rfl rfl rfl rfl rfl rfl rfl rfl ?_
 refine rg_pick rfl rfl rfl rfl rfl rfl ?_
 refine rg_q (q_m rfl) ?_
 refine rg_g rfl rfl (fun hG => (q_fieldAddr fld130_2 rfl)) ?_
 refine rg_g rfl rfl (fun hG => (q_load sz128 rfl rfl)) ?_
 refine rg_g rfl rfl (fun hG => (q_len isl128 rfl (by exact len_map _ _))) ?_
 refine rg_g rfl rfl (fun hG => (q_gtr rfl rfl)) ?_
 refine rg_pick rfl rfl rfl rfl rfl rfl ?_
 refine rn ?_
 change Awp _ _ _ _ _
 refine awp_cond rfl (fun hc1 => ?_) (fun hc1 => ?_)
 ·
  (try simp only [nb, ne_eq] at hc1)
  have hq : (!fewB s.ar.el.length || decide (18 < s.pl.length) || (decide (2 < s.fl.length) && decide (s.fl.length ≤ 10)) || decide (12 < s.fl.length)) = true := by
   rcases hc1 with ((q | q) | ⟨q, q2⟩) | q
   · simp [q]
   · simp; omega
   · simp; omega
   · simp; omega
  rw [hq] at hu
  refine awp_seq ?_
  refine awp_region 1 mixed (by kernel_rfl) ?_
  refine rg_q (q_a rfl) ?_
  refine rn ?_
  change Awp _ _ _ _ _
  refine awp_ret ?_
  refine ⟨_, (.cons (.tmp (by exact .d _)) .nil), ?_⟩
  rw [hu]; rfl
 ·
  (try simp only [nb, ne_eq] at hc1)
  have hq : (!fewB s.ar.el.length || decide (18 < s.pl.length) || (decide (2 < s.fl.length) && decide (s.fl.length ≤ 10)) || decide (12 < s.fl.length)) = false := by
   obtain ⟨⟨⟨q1, q2⟩, q3⟩, q4⟩ := hc1
   simp [q1]; omega
  rw [hq] at hu
  refine awp_skip ?_
  change Awp _ _ _ _ _
  refine awp_seq ?_
  refine awp_seq ?_
  refine awp_region 1 mixed (by kernel_rfl) ?_
  refine rg_q (q_a rfl) ?_
  refine rn ?_
  change Awp _ _ _ _ _
  refine awp_block ?_
  refine awp_loopH [2, 3, 32, 33, 34, 35, 36, 37, 38, 39, 40, 41, 42, 43, 44, 45, 46, 47, 48, 49, 50, 51, 52, 53, 54] [] (α := Nat) (fun k => [(3, T.i (k : Int))]) (fun k => []) (fun k => k ≤ s.fl.length ∧ (s.fl.all fun x => !pcsB x) = ((s.fl.drop k).all fun x => !pcsB x)) (fun k => s.fl.length - k) 0 ⟨Nat.zero_le _, rfl⟩ ?_ ?_
  · exact le_head (ms := []) (by repeat (exact Out.refl _)) ⟨(by rfl), trivial⟩ trivial rfl rfl rfl rfl
  ·
   intro k ⟨hk, hf⟩
   refine awp_seq ?_
   refine awp_seq ?_
   refine awp_region 5 mixed (by kernel_rfl) ?_
   refine rg_q (q_m rfl) (rg_q (q_fieldAddr fld130_2 rfl) (rg_q (q_load sz128 rfl rfl) ?_))
   refine rg_q (q_len isl128 rfl (by exact len_map _ _)) ?_
   refine rg_q (q_lss rfl rfl) ?_
   refine rn ?_
   change Awp _ _ _ _ _
   refine awp_len (t := 34) rfl (fun hl34 => ?_)
   (try simp only [List.length_map] at hl34)
   refine awp_cond rfl (fun hc4 => ?_) (fun hc4 => ?_)
   ·
    (try simp only [nb, ne_eq] at hc4)
    have hlt : k < s.fl.length := by omega
    obtain ⟨x, hx⟩ : ∃ x, s.fl[k]? = some x := ⟨_, List.getElem?_eq_getElem hlt⟩
    have hd := all_at hx
    refine awp_skip ?_
    change Awp _ _ _ _ _
    refine awp_seq ?_
    refine awp_block ?_
    refine awp_seq ?_
    refine awp_region 16 mixed (by kernel_rfl) ?_
    refine rg_q (q_fieldAddr fld130_2 rfl) (rg_q (q_load sz128 rfl rfl) (rg_q (q_m rfl) ?_))
    refine rg_q (q_indexAddr sl128 rfl rfl (by omega) (map_at (by omega) hx)) ?_
    refine rg_q (q_fieldAddr fld135_3 rfl) (rg_q (q_load sz3 rfl rfl) (rg_q (q_gtr rfl rfl) (rg_q (q_m rfl) ?_)))
    refine rg_g rfl rfl (fun hG => (q_fieldAddr fld130_2 rfl)) ?_
    refine rg_g rfl rfl (fun hG => (q_load sz128 rfl rfl)) ?_
    refine rg_g rfl rfl (fun hG => (q_m rfl)) ?_
    refine rg_g rfl rfl (fun hG => (q_indexAddr sl128 rfl rfl (by (have hg0 := T.bool_inj (a := _) hG.1; (try simp only [nb, ne_eq] at hg0); omega)) (map_at (by (have hg0 := T.bool_inj (a := _) hG.1; (try simp only [nb, ne_eq] at hg0); omega)) hx))) ?_
    refine rg_g rfl rfl (fun hG => (q_fieldAddr fld135_3 rfl)) ?_
    refine rg_g rfl rfl (fun hG => (q_load sz3 rfl rfl)) ?_
    refine rg_g rfl rfl (fun hG => (q_leq rfl rfl)) ?_
    refine rg_pick rfl rfl rfl rfl rfl rfl ?_
    refine rn ?_
    change Awp _ _ _ _ _
    refine awp_cond rfl (fun hc6 => ?_) (fun hc6 => ?_)
    ·
     (try simp only [nb, ne_eq] at hc6)
     have hp : pcsB x = true := by unfold pcsB; simp; omega
     refine awp_seq ?_
     refine awp_region 1 mixed (by kernel_rfl) ?_
     refine rg_q (q_a rfl) ?_
     refine rn ?_
     change Awp _ _ _ _ _
     refine awp_ret ?_
     refine ⟨_, (.cons (.tmp (by exact .d _)) .nil), ?_⟩
     rw [hu, hf, hd, hp]; rfl
    ·
     (try simp only [nb, ne_eq] at hc6)
     have hp : pcsB x = false := by unfold pcsB; simp; omega
     refine awp_skip ?_
     change Awp _ _ _ _ _
     refine awp_region 3 mixed (by kernel_rfl) ?_
     refine rg_q (q_m rfl) ?_
     refine rg_q (q_add rfl rfl (In64.mk (by omega) (by omega))) ?_
     refine rg_q (q_a rfl) ?_
     refine rn ?_
     refine ⟨k + 1, ⟨by omega, by rw [hf, hd, hp]; rfl⟩, by omega, ?_⟩
     exact le_head (ms := []) (by repeat (first | exact Out.head rfl rfl | (refine Out.put ?_ rfl))) ⟨(by rfl), trivial⟩ trivial rfl rfl rfl rfl
   ·
    (try simp only [nb, ne_eq] at hc4)
    have hk0 : (s.fl.all fun x => !pcsB x) = true := by rw [hf, List.drop_of_length_le (by omega)]; rfl
    rw [hk0] at hu
    refine awp_exit ?_
    change Awp _ _ _ _ _
    refine awp_seq ?_
    refine awp_region 1 mixed (by kernel_rfl) ?_
    refine rg_q (q_a rfl) ?_
    refine rn ?_
    change Awp _ _ _ _ _
    refine awp_ret ?_
    refine ⟨_, (.cons (.tmp (by exact .d _)) .nil), ?_⟩
    rw [hu]; rfl
end Go.Proofs.YtphlaicnmmglhaaGreat.Am.M
-- mini
namespace Go.Proofs.YtphlaicnmmglhaaGreat.Am.M
open Go
end Go.Proofs.YtphlaicnmmglhaaGreat.Am.M
-- mini
namespace Go.Proofs.YtphlaicnmmglhaaGreat.Am.M
open Go

end Go.Proofs.YtphlaicnmmglhaaGreat.Am.M
-- mini
namespace Go.Proofs.YtphlaicnmmglhaaGreat.Am.M
open Go
set_option maxRecDepth 100000 in
theorem tsmall_p (n m : Int) (h1 : 0 ≤ m) (h2 : m ≤ 1000000000000) : PC Tryz.prog 267 [.v (.int .i64 (n)), .v (.int .i64 (m))] (.v (.bool (inR (-m) n m))) := by
 refine pc_of_awp Tryz.func267 rfl Tryz.ntmps267 (rs := [.tmp 4]) Tryz.results267 (by simp) fun w0 => ?_
 refine awp_seq ?_
 refine awp_region 1 mixed (by kernel_rfl) ?_
 refine rg_q (q_a rfl) ?_
 refine rs (awp_region 6 mixed (by kernel_rfl) ?_)
 refine rg_q (q_m rfl) (rg_q (q_m rfl) ?_)
 refine rg_q (q_neg rfl (In64.mk (by omega) (by omega))) ?_
 refine rg_q (q_m rfl) ?_
 refine rg_q (q_call en155 (.cons rfl (.cons rfl (.cons rfl .nil))) rfl (twithin_p _ _ _)) ?_
 refine rg_q (q_a rfl) ?_
 refine rn ?_
 change Awp _ _ _ _ _
 refine awp_ret ?_
 refine ⟨_, (.cons (.tmp (by exact .d _)) .nil), ?_⟩
 rfl

structure Whl (b : Nat) (n : Int) : Prop where
  lo : -2047 ≤ n
  hi : n ≤ 2047
  self : ordB .neq (FloatKind.f32.format.order b b) = false
  sub : floatBits .sub .f32 b b = some 0
  ge : ordB .geq (FloatKind.f32.format.order b 1266679808) = false
  le : ordB .leq (FloatKind.f32.format.order b 3414163456) = false
  int : floatToIntVal .f32 b .i64 = some n
  back : ordB .neq (FloatKind.f32.format.order (FloatKind.f32.nearest n) b) = false
def vI (b : Nat) : Int := (floatToIntVal .f32 b .i64).getD 0
theorem Whl.v {b : Nat} {n : Int} (h : Whl b n) : vI b = n := by unfold vI; rw [h.int]; rfl
theorem whl_fn {n : Int} (h1 : -2047 ≤ n) (h2 : n ≤ 2047) : Whl (FloatKind.f32.nearest n) n := by
  have hf := f32_of (show -16777215 ≤ n by omega) (by omega)
  refine ⟨h1, h2, f32_neq hf, ?_, f32_geq hf, f32_leq hf, f32_int hf, f32_neq hf⟩
  have h := f32_sub hf hf (by rw [Int.sub_self]; exact f32_of (by decide) (by decide))
  rw [Int.sub_self] at h; exact h
theorem whl_zero : ordB .neq (FloatKind.f32.format.order 0 0) = false := f32_neq (a := 0) (f32_of (by decide) (by decide))
def WhlL (bs : List Nat) : Prop := ∀ b ∈ bs, Whl b (vI b)
set_option maxRecDepth 100000 in
theorem tsampleErr_p (b : Nat) (n : Int) (h : Whl b n) : PC Tryz.prog 234 [fd b] (.v (.int .i64 (0))) := by
 have h1 := h.lo
 have h2 := h.hi
 have hr : inR (-2047) n 2047 = true := by simp [inR]; omega
 refine pc_of_awp Tryz.func234 rfl Tryz.ntmps234 (rs := [.tmp 2]) Tryz.results234 (by simp) fun w0 => ?_
 refine awp_seq ?_
 refine awp_region 1 mixed (by kernel_rfl) ?_
 refine rg_q (q_a rfl) ?_
 refine rn ?_
 change Awp _ _ _ _ _
 refine awp_seq ?_
 refine awp_block ?_
 refine awp_seq ?_
 refine awp_region 10 mixed (by kernel_rfl) ?_
 refine rg_q (q_m rfl) (rg_q (q_m rfl) ?_)
 refine rg_q (q_fcmp (by decide) rfl rfl h.self) ?_
 refine rg_q (q_m rfl) ?_
 refine rg_g rfl rfl (fun hG => (q_m rfl)) ?_
 refine rg_g rfl rfl (fun hG => (q_m rfl)) ?_
 refine rg_g rfl rfl (fun hG => (q_fbin (by decide) rfl rfl h.sub)) ?_
 refine rg_g rfl rfl (fun hG => (q_fcmp (by decide) rfl rfl whl_zero)) ?_
 refine rg_pick rfl rfl rfl rfl rfl rfl ?_
 refine rg_q (q_a rfl) ?_
 refine rn ?_
 change Awp _ _ _ _ _
 refine awp_cond rfl (fun hc1 => ?_) (fun hc1 => ?_)
 ·
  cases hc1
 ·
  (try simp only [nb, ne_eq] at hc1)
  refine awp_seq ?_
  refine awp_region 7 mixed (by kernel_rfl) ?_
  refine rg_q (q_m rfl) ?_
  refine rg_q (q_fcmp (by decide) rfl rfl h.ge) ?_
  refine rg_q (q_m rfl) ?_
  refine rg_g rfl rfl (fun hG => (q_m rfl)) ?_
  refine rg_g rfl rfl (fun hG => (q_fcmp (by decide) rfl rfl h.le)) ?_
  refine rg_pick rfl rfl rfl rfl rfl rfl ?_
  refine rg_q (q_a rfl) ?_
  refine rn ?_
  change Awp _ _ _ _ _
  refine awp_cond rfl (fun hc3 => ?_) (fun hc3 => ?_)
  ·
   cases hc3
  ·
   (try simp only [nb, ne_eq] at hc3)
   refine awp_seq ?_
   refine awp_region 6 mixed (by kernel_rfl) ?_
   refine rg_q (q_m rfl) ?_
   refine rg_q (q_convfi flt117 int3 rfl h.int) ?_
   refine rg_q (q_convf int3 flt117 rfl) ?_
   refine rg_q (q_m rfl) ?_
   refine rg_q (q_fcmp (by decide) rfl rfl h.back) ?_
   refine rg_q (q_a rfl) ?_
   refine rn ?_
   change Awp _ _ _ _ _
   refine awp_cond rfl (fun hc5 => ?_) (fun hc5 => ?_)
   ·
    cases hc5
   ·
    (try simp only [nb, ne_eq] at hc5)
    refine awp_seq ?_
    refine awp_region 5 mixed (by kernel_rfl) ?_
    refine rg_q (q_m rfl) ?_
    refine rg_q (q_convfi flt117 int3 rfl h.int) ?_
    refine rg_q (q_call en267 (.cons rfl (.cons rfl .nil)) rfl (tsmall_p _ _ (by omega) (by omega))) ?_
    refine rg_q (q_not rfl) (rg_q (q_a rfl) ?_)
    refine rn ?_
    change Awp _ _ _ _ _
    refine awp_cond rfl (fun hc7 => ?_) (fun hc7 => ?_)
    ·
     rw [show inR (-2047) n 2047 = true from hr] at hc7
     cases hc7
    ·
     (try simp only [nb, ne_eq] at hc7)
     refine awp_skip ?_
     change Awp _ _ _ _ _
     refine awp_seq ?_
     refine awp_region 1 mixed (by kernel_rfl) ?_
     refine rg_q (q_a rfl) ?_
     refine rn ?_
     change Awp _ _ _ _ _
     refine awp_ret ?_
     refine ⟨_, (.cons (.tmp (by exact .d _)) .nil), ?_⟩
     rfl
set_option maxRecDepth 100000 in
theorem tsamplesErr_p (l : List Nat) (hb : WhlL l) : PC Tryz.prog 165 [.sl 1 (l.map fC)] (.tup [.v (.int .i64 (0)), .v (.int .i64 (0))]) := by
 refine pc_of_awp Tryz.func165 rfl Tryz.ntmps165 (rs := [.tmp 2, .tmp 3]) Tryz.results165 (by simp) fun w0 => ?_
 refine awp_seq ?_
 refine awp_region 2 mixed (by kernel_rfl) ?_
 refine rg_q (q_a rfl) (rg_q (q_a rfl) ?_)
 refine rn ?_
 change Awp _ _ _ _ _
 refine awp_seq ?_
 refine awp_seq ?_
 refine awp_region 3 mixed (by kernel_rfl) ?_
 refine rg_q (q_move (x := .d (.sl _ _)) rfl) ?_
 refine rg_q (q_len isl29 rfl (by exact len_map _ _)) ?_
 refine rg_q (q_m rfl) ?_
 refine rn ?_
 change Awp _ _ _ _ _
 refine awp_len (t := 7) rfl (fun hl7 => ?_)
 (try simp only [List.length_map] at hl7)
 refine awp_block ?_
 refine awp_loopH [2, 3, 4, 5, 6, 9, 10, 11, 12, 13, 14, 15, 16, 17, 18, 19, 20] [] (α := Nat) (fun k => [(9, T.i (k : Int))]) (fun k => []) (fun k => k ≤ l.length) (fun k => l.length - k) 0 (Nat.zero_le _) ?_ ?_
 · exact le_head (ms := []) (by repeat (exact Out.refl _)) ⟨(by rfl), trivial⟩ trivial rfl rfl rfl rfl
 ·
  intro k hk
  refine awp_seq ?_
  refine awp_region 1 mixed (by kernel_rfl) ?_
  refine rg_q (q_lss rfl rfl) ?_
  refine rn ?_
  change Awp _ _ _ _ _
  refine awp_seq ?_
  refine awp_cond rfl (fun hc2 => ?_) (fun hc2 => ?_)
  ·
   (try simp only [nb, ne_eq] at hc2)
   have hlt : k < l.length := by omega
   obtain ⟨x, hx⟩ : ∃ x, l[k]? = some x := ⟨_, List.getElem?_eq_getElem hlt⟩
   have hx1 := hb x (List.mem_of_getElem? hx)
   refine awp_skip ?_
   change Awp _ _ _ _ _
   refine awp_seq ?_
   refine awp_block ?_
   refine awp_seq ?_
   refine awp_region 5 mixed (by kernel_rfl) ?_
   refine rg_q (q_m rfl) ?_
   refine rg_q (q_indexAddr sl29 rfl rfl (by omega) (map_at (by omega) hx)) ?_
   refine rg_q (q_load sz117 rfl rfl) (rg_q (q_a rfl) (rg_q (q_a rfl) ?_))
   refine rs (awp_region 3 mixed (by kernel_rfl) ?_)
   refine rg_q (q_m rfl) ?_
   refine rg_q (q_call en234 (.cons rfl .nil) rfl (tsampleErr_p _ _ (by assumption))) ?_
   refine rg_q (q_a rfl) ?_
   refine rs (awp_region 2 mixed (by kernel_rfl) ?_)
   refine rg_q (q_m rfl) (rg_q (q_neq rfl rfl) ?_)
   refine rn ?_
   change Awp _ _ _ _ _
   refine awp_cond rfl (fun hc5 => ?_) (fun hc5 => ?_)
   ·
    simp at hc5
   ·
    (try simp only [nb, ne_eq] at hc5)
    refine awp_skip ?_
    change Awp _ _ _ _ _
    refine awp_region 2 mixed (by kernel_rfl) ?_
    refine rg_q (q_add rfl rfl (In64.mk (by omega) (by omega))) ?_
    refine rg_q (q_m rfl) ?_
    refine rn ?_
    refine ⟨k + 1, by omega, by omega, ?_⟩
    exact le_head (ms := []) (by repeat (first | exact Out.head rfl rfl | (refine Out.put ?_ rfl))) ⟨(by rfl), trivial⟩ trivial rfl rfl rfl rfl
  ·
   (try simp only [nb, ne_eq] at hc2)
   refine awp_exit ?_
   change Awp _ _ _ _ _
   refine awp_seq ?_
   refine awp_region 2 mixed (by kernel_rfl) ?_
   refine rg_q (q_a rfl) (rg_q (q_a rfl) ?_)
   refine rn ?_
   change Awp _ _ _ _ _
   refine awp_ret ?_
   refine ⟨_, (.cons (.tmp (by exact .d _)) (.cons (.tmp (by exact .d _)) .nil)), ?_⟩
   rfl
set_option maxRecDepth 100000 in
theorem tcheckTrace_p (l : List Nat) (hS : l.length = 64) (hb : WhlL l) : PC Tryz.prog 275 [.agg (l.map fd)] (.tup [.v (.int .i64 (0)), .v (.int .i64 (0))]) := by
 refine pc_of_awp Tryz.func275 rfl Tryz.ntmps275 (rs := [.tmp 2, .tmp 3]) Tryz.results275 (by simp) fun w0 => ?_
 refine awp_seq ?_
 refine awp_region 3 mixed (by kernel_rfl) ?_
 refine rg_q (q_box rfl (by exact .inr ⟨_, rfl⟩)) ?_
 refine rg_q (q_a rfl) (rg_q (q_a rfl) ?_)
 refine rs (awp_region 6 mixed (by kernel_rfl) ?_)
 refine rg_q (q_sliceP (es := l.map fC) ar236 rfl (by show (l.map fd).length = 64; rw [List.length_map]; exact hS) (by decide) (by decide) (fd_row l)) ?_
 refine rg_q (q_call en165 (.cons rfl .nil) rfl (tsamplesErr_p l hb)) ?_
 refine rg_q (q_extract rfl rfl) (rg_q (q_extract rfl rfl) (rg_q (q_a rfl) (rg_q (q_a rfl) ?_)))
 refine rn ?_
 change Awp _ _ _ _ _
 refine awp_ret ?_
 refine ⟨_, (.cons (.tmp (by exact .d _)) (.cons (.tmp (by exact .d _)) .nil)), ?_⟩
 rfl
set_option maxRecDepth 100000 in
theorem traceErr_p (l : List Nat) (hS : l.length = 64) (hb : WhlL l) : PC Tryz.prog 245 [.agg (l.map fd)] (.v (.int .i64 (0))) := by
 refine pc_of_awp Tryz.func245 rfl Tryz.ntmps245 (rs := [.tmp 2]) Tryz.results245 (by simp) fun w0 => ?_
 refine awp_seq ?_
 refine awp_region 2 mixed (by kernel_rfl) ?_
 refine rg_q (q_box rfl (by exact .inr ⟨_, rfl⟩)) ?_
 refine rg_q (q_a rfl) ?_
 refine rs (awp_region 7 mixed (by kernel_rfl) ?_)
 refine rg_q (q_loadA (ds := l.map fd) sz236 rfl (by rw [List.drop_zero]; exact List.take_of_length_le (by show (l.map fd).length ≤ 64; rw [List.length_map]; omega)) (by rw [List.length_map]; exact hS)) ?_
 refine rg_q (q_call en275 (.cons rfl .nil) rfl (tcheckTrace_p _ (by assumption) (by assumption))) ?_
 refine rg_q (q_move (x := .d (.tup _)) rfl) (rg_q (q_extract rfl rfl) (rg_q (q_extract rfl rfl) (rg_q (q_a rfl) (rg_q (q_a rfl) ?_))))
 refine rs (awp_region 2 mixed (by kernel_rfl) ?_)
 refine rg_q (q_m rfl) (rg_q (q_a rfl) ?_)
 refine rn ?_
 change Awp _ _ _ _ _
 refine awp_ret ?_
 refine ⟨_, (.cons (.tmp (by exact .d _)) .nil), ?_⟩
 rfl
set_option maxRecDepth 100000 in
theorem checkMatrix_p (ne : Int) (l : List Nat) (h1 : 1 ≤ ne) (h2 : ne ≤ 16) (hl : (l.length : Int) = ne * ne * 64) (hb : WhlL l) : PC Tryz.prog 86 [.agg [.v (.int .i64 (ne)), .sl 1 (l.map fC)]] (.tup [.v (.int .i64 (0)), .v (.int .i64 (0))]) := by
 have hm := mulb (a := ne) (b := ne) (A := 16) (B := 16) (by omega) (by omega) (by omega) (by omega)
 refine pc_of_awp Tryz.func86 rfl Tryz.ntmps86 (rs := [.tmp 2, .tmp 3]) Tryz.results86 (by simp) fun w0 => ?_
 refine awp_seq ?_
 refine awp_region 3 mixed (by kernel_rfl) ?_
 refine rg_q (q_box rfl (by exact .inr ⟨_, rfl⟩)) ?_
 refine rg_q (q_a rfl) (rg_q (q_a rfl) ?_)
 refine rn ?_
 change Awp _ _ _ _ _
 refine awp_seq ?_
 refine awp_block ?_
 refine awp_seq ?_
 refine awp_region 5 mixed (by kernel_rfl) ?_
 refine rg_q (q_fieldAddr fld31_0 rfl) (rg_q (q_load sz3 rfl rfl) ?_)
 refine rg_q (q_call en155 (.cons rfl (.cons rfl (.cons rfl .nil))) rfl (twithin_p _ _ _)) ?_
 refine rg_q (q_not rfl) (rg_q (q_a rfl) ?_)
 refine rn ?_
 change Awp _ _ _ _ _
 refine awp_cond rfl (fun hc1 => ?_) (fun hc1 => ?_)
 ·
  simp [inR] at hc1
  omega
 ·
  (try simp only [nb, ne_eq] at hc1)
  refine awp_seq ?_
  refine awp_region 11 mixed (by kernel_rfl) ?_
  refine rg_q (q_fieldAddr fld31_1 rfl) (rg_q (q_load sz29 rfl rfl) ?_)
  refine rg_q (q_len isl29 rfl (by exact len_map _ _)) ?_
  refine rg_q (q_fieldAddr fld31_0 rfl) (rg_q (q_load sz3 rfl rfl) (rg_q (q_fieldAddr fld31_0 rfl) (rg_q (q_load sz3 rfl rfl) ?_)))
  refine rg_q (q_mul rfl rfl (In64.mk (by omega) (by omega))) ?_
  refine rg_q (q_mul rfl rfl (In64.mk (by omega) (by omega))) ?_
  refine rg_q (q_neq rfl rfl) (rg_q (q_a rfl) ?_)
  refine rn ?_
  change Awp _ _ _ _ _
  refine awp_len (t := 11) rfl (fun hl11 => ?_)
  (try simp only [List.length_map] at hl11)
  refine awp_cond rfl (fun hc3 => ?_) (fun hc3 => ?_)
  ·
   rw [decide_eq_true_eq] at hc3
   exact absurd hl hc3
  ·
   (try simp only [nb, ne_eq] at hc3)
   refine awp_skip ?_
   change Awp _ _ _ _ _
   refine awp_seq ?_
   refine awp_region 7 mixed (by kernel_rfl) ?_
   refine rg_q (q_fieldAddr fld31_1 rfl) (rg_q (q_load sz29 rfl rfl) ?_)
   refine rg_q (q_call en165 (.cons rfl .nil) rfl (tsamplesErr_p l hb)) ?_
   refine rg_q (q_extract rfl rfl) (rg_q (q_extract rfl rfl) (rg_q (q_a rfl) (rg_q (q_a rfl) ?_)))
   refine rn ?_
   change Awp _ _ _ _ _
   refine awp_ret ?_
   refine ⟨_, (.cons (.tmp (by exact .d _)) (.cons (.tmp (by exact .d _)) .nil)), ?_⟩
   rfl

def outN (S : List Int) (k : Nat) : List D := (S.take k).map iv ++ List.replicate (64 - k) (iv 0)
theorem outN_len {S : List Int} {k : Nat} (hS : S.length = 64) (hk : k ≤ 64) : (outN S k).length = 64 := by unfold outN; rw [List.length_append, List.length_map, List.length_take, List.length_replicate]; omega
theorem outN_set {S : List Int} {k : Nat} {x : Int} (hS : S.length = 64) (h : S[k]? = some x) : setCs (outN S k) (0 + (k : Int).toNat * 1) [iv x] = outN S (k + 1) := by
  obtain ⟨hlt, hx⟩ := List.getElem?_eq_some_iff.1 h
  have hl : ((S.take k).map iv).length = k := by rw [List.length_map, List.length_take]; omega
  rw [Int.toNat_natCast, Nat.zero_add, Nat.mul_one, setCs_one (by rw [outN_len hS (by omega)]; omega)]
  unfold outN
  rw [List.set_append_right _ _ (by omega), hl, Nat.sub_self, show 64 - k = (64 - (k + 1)) + 1 by omega, List.replicate_succ, List.set_cons_zero, List.take_succ_eq_append_getElem hlt, hx, List.map_append, List.append_assoc]
  rfl
theorem outN_all {S : List Int} (hS : S.length = 64) : outN S 64 = S.map iv := by
  unfold outN
  rw [List.take_of_length_le (by omega)]; simp
theorem fd_at {l : List Nat} {k : Nat} {x : Nat} (h : l[k]? = some x) : (l.map fd)[0 + (k : Int).toNat * 1]? = some (fd x) := by rw [Int.toNat_natCast, Nat.zero_add, Nat.mul_one, List.getElem?_map, h]; rfl
theorem vI_len {l : List Nat} (h : l.length = 64) : ((l.map vI).map iv).length = 64 := by rw [List.length_map, List.length_map]; exact h
theorem vI_at {l : List Nat} {k x : Nat} (h : l[k]? = some x) : (l.map vI)[k]? = some (vI x) := by rw [List.getElem?_map, h]; rfl
theorem vI_in {l : List Nat} (h : WhlL l) : ∀ v ∈ l.map vI, -2047 ≤ v ∧ v ≤ 2047 := by
  intro v hv
  obtain ⟨b, hb, rfl⟩ := List.mem_map.1 hv
  exact ⟨(h b hb).lo, (h b hb).hi⟩
set_option maxRecDepth 100000 in
theorem numbersOf_p (l : List Nat) (hS : l.length = 64) (hb : WhlL l) : PC Tryz.prog 232 [.pt (l.map fd) 0] (.agg ((l.map vI).map iv)) := by
 have hS2 : (l.map vI).length = 64 := by rw [List.length_map]; exact hS
 refine pc_of_awp Tryz.func232 rfl Tryz.ntmps232 (rs := [.cell 2 262]) Tryz.results232 (by simp) fun w0 => ?_
 refine awp_seq ?_
 refine awp_region 0 mixed (by kernel_rfl) ?_
 refine rg_nil ?_
 refine aops_alloc zr262 rfl rfl rfl ?_
 refine aops_nil ?_
 change Awp _ _ _ _ _
 refine awp_seq ?_
 refine awp_seq ?_
 refine awp_region 2 mixed (by kernel_rfl) ?_
 refine rg_q (q_move (x := .d (.pt _ _)) rfl) (rg_q (q_m rfl) ?_)
 refine rn ?_
 change Awp _ _ _ _ _
 refine awp_block ?_
 refine awp_loopH [3, 4, 6, 7, 8, 9, 10, 11, 12, 13, 14, 15, 16] [2] (α := Nat) (fun k => [(6, T.i (k : Int))]) (fun k => [(2, .box (outN (l.map vI) k))]) (fun k => k ≤ 64) (fun k => 64 - k) 0 (Nat.zero_le _) ?_ ?_
 · exact le_head (ms := [2]) (by repeat (exact Out.refl _)) ⟨(by rfl), trivial⟩ ⟨(by rfl), trivial⟩ rfl rfl rfl rfl
 ·
  intro k hk
  refine awp_seq ?_
  refine awp_region 1 mixed (by kernel_rfl) ?_
  refine rg_q (q_lss rfl rfl) ?_
  refine rn ?_
  change Awp _ _ _ _ _
  refine awp_seq ?_
  refine awp_cond rfl (fun hc2 => ?_) (fun hc2 => ?_)
  ·
   (try simp only [nb, ne_eq] at hc2)
   have hlt : k < l.length := by omega
   obtain ⟨x, hx⟩ : ∃ x, l[k]? = some x := ⟨_, List.getElem?_eq_getElem hlt⟩
   have hx1 := hb x (List.mem_of_getElem? hx)
   have hld := fd_at hx
   have hst := outN_set hS2 (vI_at hx)
   have hol := outN_len (k := k) hS2 (by omega)
   refine awp_skip ?_
   change Awp _ _ _ _ _
   refine awp_seq ?_
   refine awp_block ?_
   refine awp_seq ?_
   refine awp_region 6 mixed (by kernel_rfl) ?_
   refine rg_q (q_m rfl) (rg_q (q_nilCheck rfl) ?_)
   refine rg_q (q_indexAddr_ar ar236 rfl rfl (by omega) (by omega)) ?_
   refine rg_q (q_load sz117 rfl hld) (rg_q (q_a rfl) (rg_q (q_a rfl) ?_))
   refine rn ?_
   change Awp _ _ _ _ _
   refine awp_region 4 mixed (by kernel_rfl) ?_
   refine rg_q (q_m rfl) (rg_q (q_m rfl) ?_)
   refine rg_q (q_convfi flt117 int3 rfl hx1.int) ?_
   refine rg_q (q_indexAddr_aref ar262 rfl rfl (by omega) (by omega)) ?_
   refine rg_nil ?_
   refine aops_store (cs' := outN (l.map vI) (k + 1)) sz3 rfl rfl (by exact .inl rfl) rfl rfl (by rw [hol]; omega) hst ?_
   refine aops_nil ?_
   change Awp _ _ _ _ _
   refine awp_region 2 mixed (by kernel_rfl) ?_
   refine rg_q (q_add rfl rfl (In64.mk (by omega) (by omega))) ?_
   refine rg_q (q_m rfl) ?_
   refine rn ?_
   refine ⟨k + 1, by omega, by omega, ?_⟩
   exact le_head (ms := [2]) (by repeat (first | exact Out.head rfl rfl | (refine Out.put ?_ rfl) | (refine Out.site ?_ rfl))) ⟨(by rfl), trivial⟩ ⟨(by rfl), trivial⟩ rfl rfl rfl rfl
  ·
   (try simp only [nb, ne_eq] at hc2)
   have hk64 : k = 64 := by omega
   subst hk64
   rw [outN_all hS2]
   refine awp_exit ?_
   change Awp _ _ _ _ _
   refine awp_seq ?_
   refine awp_region 1 mixed (by kernel_rfl) ?_
   refine rg_q (q_load_refA (ds := (l.map vI).map iv) sz262 rfl rfl (by rw [List.drop_zero]; exact List.take_of_length_le (by rw [vI_len hS]; exact Nat.le_refl _)) (vI_len hS)) ?_
   refine rg_nil ?_
   refine aops_store (cs' := (l.map vI).map iv) sz262 rfl rfl (by exact .inr ⟨_, rfl⟩) (vI_len hS) rfl (by rw [vI_len hS]; decide) (setCs_all (by rfl)) ?_
   refine aops_nil ?_
   change Awp _ _ _ _ _
   refine awp_ret ?_
   refine ⟨_, (.cons (.cellA rfl rfl sz262 (vI_len hS)) .nil), ?_⟩
   rfl

def sAt (S : List Int) (k : Nat) : Int := S.getD k 0
def reI (S : List Int) (k : Nat) : Int := sAt S k - sAt S (k + 2)
def imI (S : List Int) (k : Nat) : Int := sAt S (k + 1) - sAt S (k + 3)
theorem win4 {S : List Int} (hS : S.length = 64) {k : Nat} (hk : k < 61) : ((((S.map iv).take (k + 4)).drop k).map fun d => [d]) = [iv (sAt S k), iv (sAt S (k + 1)), iv (sAt S (k + 2)), iv (sAt S (k + 3))].map fun d => [d] := by
  congr 1
  have hg : ∀ i, i < 64 → S[i]? = some (sAt S i) := fun i hi => by
    unfold sAt
    rw [List.getD_eq_getElem?_getD, List.getElem?_eq_getElem (by omega)]; rfl
  apply List.ext_getElem?
  intro i
  rw [List.getElem?_drop, List.getElem?_take, List.getElem?_map]
  match i with
  | 0 => rw [if_pos (by omega), hg _ (by omega)]; rfl
  | 1 => rw [if_pos (by omega), hg _ (by omega)]; rfl
  | 2 => rw [if_pos (by omega), hg _ (by omega)]; rfl
  | 3 => rw [if_pos (by omega), hg _ (by omega)]; rfl
  | i + 4 => rw [if_neg (by omega)]; rfl
theorem sAt_in {S : List Int} (hb : ∀ v ∈ S, -2047 ≤ v ∧ v ≤ 2047) (k : Nat) : -2047 ≤ sAt S k ∧ sAt S k ≤ 2047 := by
  unfold sAt
  rw [List.getD_eq_getElem?_getD]
  cases h : S[k]? with
  | none => exact ⟨by decide, by decide⟩
  | some v => exact hb v (List.mem_of_getElem? h)
set_option maxRecDepth 100000 in
theorem tparts_p (S : List Int) (hS : S.length = 64) (hb : ∀ v ∈ S, -2047 ≤ v ∧ v ≤ 2047) (k : Nat) (hk : k < 61) : PC Tryz.prog 246 [.pt (S.map iv) 0, .v (.int .i64 ((k : Int)))] (.tup [.v (.int .i64 (reI S k)), .v (.int .i64 (imI S k))]) := by
 have b0 := sAt_in hb k
 have b1 := sAt_in hb (k + 1)
 have b2 := sAt_in hb (k + 2)
 have b3 := sAt_in hb (k + 3)
 have hlm : (S.map iv).length = 64 := by rw [List.length_map]; exact hS
 refine pc_of_awpN Tryz.func246 rfl Tryz.ntmps246 (rs := [.tmp 4, .tmp 5]) Tryz.results246 (by simp) fun w0 hmine hrnd hpn => ?_
 refine awp_seq ?_
 refine awp_region 2 mixed (by kernel_rfl) ?_
 refine rg_q (q_a rfl) (rg_q (q_a rfl) ?_)
 refine rs (awp_region 8 mixed (by kernel_rfl) ?_)
 refine rg_q (q_move (x := .d (.pt _ _)) rfl) (rg_q (q_nilCheck rfl) (rg_q (q_m rfl) (rg_q (q_m rfl) ?_)))
 refine rg_q (q_add rfl rfl (In64.mk (by omega) (by omega))) ?_
 refine rg_q (q_slicePP (lo := k) (hi := k + 4) (es := [iv (sAt S k), iv (sAt S (k + 1)), iv (sAt S (k + 2)), iv (sAt S (k + 3))].map fun d => [d]) ar262 rfl hlm (by decide) rfl rfl (by omega) (by omega) (by omega) (win4 hS hk)) ?_
 refine rg_q (q_toArr (cs := [iv (sAt S k), iv (sAt S (k + 1)), iv (sAt S (k + 2)), iv (sAt S (k + 3))]) ar375 rfl rfl rfl (by decide)) ?_
 refine rg_q (q_loadA (ds := [_, _, _, _]) sz375 rfl rfl rfl) ?_
 refine rg_nil ?_
 refine aops_alloc zr375 rfl rfl rfl ?_
 refine aops_store sz375 rfl rfl (by exact .inr ⟨_, rfl⟩) rfl rfl (by decide) rfl ?_
 refine aops_nil ?_
 change Awp _ _ _ _ _
 refine awp_seq ?_
 refine awp_region 12 mixed (by kernel_rfl) ?_
 refine rg_q (q_indexAddr_aref ar375 rfl rfl (by omega) (by omega)) ?_
 refine rg_q (q_load_ref sz3 rfl rfl rfl) ?_
 refine rg_q (q_indexAddr_aref ar375 rfl rfl (by omega) (by omega)) ?_
 refine rg_q (q_load_ref sz3 rfl rfl rfl) ?_
 refine rg_q (q_sub rfl rfl (In64.mk (by omega) (by omega))) ?_
 refine rg_q (q_indexAddr_aref ar375 rfl rfl (by omega) (by omega)) ?_
 refine rg_q (q_load_ref sz3 rfl rfl rfl) ?_
 refine rg_q (q_indexAddr_aref ar375 rfl rfl (by omega) (by omega)) ?_
 refine rg_q (q_load_ref sz3 rfl rfl rfl) ?_
 refine rg_q (q_sub rfl rfl (In64.mk (by omega) (by omega))) ?_
 refine rg_q (q_a rfl) (rg_q (q_a rfl) ?_)
 refine rn ?_
 change Awp _ _ _ _ _
 refine awp_ret ?_
 refine ⟨_, (.cons (.tmp (by exact .d _)) (.cons (.tmp (by exact .d _)) .nil)), ?_⟩
 rfl

theorem sq_bnd {S : List Int} (hb : ∀ v ∈ S, -2047 ≤ v ∧ v ≤ 2047) (k : Nat) : (-4094 ≤ reI S k ∧ reI S k ≤ 4094) ∧ (-4094 ≤ imI S k ∧ imI S k ≤ 4094) := by
  have b0 := sAt_in hb k
  have b1 := sAt_in hb (k + 1)
  have b2 := sAt_in hb (k + 2)
  have b3 := sAt_in hb (k + 3)
  unfold reI imI; omega

def cx (re im : Int) : D := .v (.complex .f32 (FloatKind.f32.nearest re) (FloatKind.f32.nearest im))
def anL (S : List Int) : List D := (List.range 61).map fun k => cx (reI S k) (imI S k)
def outA (S : List Int) (k : Nat) : List D := ((List.range k).map fun k => cx (reI S k) (imI S k)) ++ List.replicate (61 - k) (.v (.complex .f32 0 0))
theorem outA_len {S : List Int} {k : Nat} (hk : k ≤ 61) : (outA S k).length = 61 := by unfold outA; rw [List.length_append, List.length_map, List.length_range, List.length_replicate]; omega
theorem outA_set {S : List Int} {k : Nat} (hk : k < 61) : setCs (outA S k) (0 + (k : Int).toNat * 1) [cx (reI S k) (imI S k)] = outA S (k + 1) := by
  have hl : ((List.range k).map fun k => cx (reI S k) (imI S k)).length = k := by rw [List.length_map, List.length_range]
  rw [Int.toNat_natCast, Nat.zero_add, Nat.mul_one, setCs_one (by rw [outA_len (by omega)]; omega)]
  unfold outA
  rw [List.set_append_right _ _ (by omega), hl, Nat.sub_self, show 61 - k = (61 - (k + 1)) + 1 by omega, List.replicate_succ, List.set_cons_zero, List.range_succ, List.map_append, List.append_assoc]
  rfl
theorem outA_all (S : List Int) : outA S 61 = anL S := by unfold outA anL; simp
theorem anL_len (S : List Int) : (anL S).length = 61 := by unfold anL; rw [List.length_map, List.length_range]
set_option maxRecDepth 100000 in
theorem analytic_p (l : List Nat) (hS : l.length = 64) (hb : WhlL l) : PC Tryz.prog 180 [.agg (l.map fd)] (.tup [.agg (anL (l.map vI)), .v (.int .i64 (0))]) := by
 have hlm := vI_len hS
 have hS2 : (l.map vI).length = 64 := by rw [List.length_map]; exact hS
 have hb2 := vI_in hb
 refine pc_of_awpN Tryz.func180 rfl Tryz.ntmps180 (rs := [.cell 2 272, .tmp 3]) Tryz.results180 (by simp) fun w0 hmine hrnd hpn => ?_
 refine awp_seq ?_
 refine awp_region 1 mixed (by kernel_rfl) ?_
 refine rg_q (q_box rfl (by exact .inr ⟨_, rfl⟩)) ?_
 refine rg_nil ?_
 refine aops_alloc zr272 rfl rfl rfl ?_
 refine aops_q rfl (q_a rfl) ?_
 refine aops_nil ?_
 change Awp _ _ _ _ _
 refine awp_seq ?_
 refine awp_region 0 mixed (by kernel_rfl) ?_
 refine rg_nil ?_
 refine aops_alloc zr272 rfl rfl rfl ?_
 refine aops_nil ?_
 change Awp _ _ _ _ _
 refine awp_seq ?_
 refine awp_seq ?_
 refine awp_region 3 mixed (by kernel_rfl) ?_
 refine rg_q (q_loadA (ds := l.map fd) sz236 rfl (by rw [List.drop_zero]; exact List.take_of_length_le (by show (l.map fd).length ≤ 64; rw [List.length_map]; omega)) (by rw [List.length_map]; exact hS)) ?_
 refine rg_q (q_call en245 (.cons rfl .nil) rfl (traceErr_p _ (by assumption) (by assumption))) ?_
 refine rg_q (q_a rfl) ?_
 refine rs (awp_region 2 mixed (by kernel_rfl) ?_)
 refine rg_q (q_m rfl) (rg_q (q_neq rfl rfl) ?_)
 refine rn ?_
 change Awp _ _ _ _ _
 refine awp_cond rfl (fun hc3 => ?_) (fun hc3 => ?_)
 ·
  simp at hc3
 ·
  (try simp only [nb, ne_eq] at hc3)
  refine awp_skip ?_
  change Awp _ _ _ _ _
  refine awp_seq ?_
  refine awp_region 1 mixed (by kernel_rfl) ?_
  refine rg_q (q_call en232 (.cons rfl .nil) rfl (numbersOf_p l hS hb)) ?_
  refine rg_nil ?_
  refine aops_allocD zr262 rfl sz262 rfl rfl (by exact .inr ⟨_, rfl⟩) hlm rfl ?_
  refine aops_nil ?_
  change Awp _ _ _ _ _
  refine awp_seq ?_
  refine awp_seq ?_
  refine awp_region 1 mixed (by kernel_rfl) ?_
  refine rg_q (q_m rfl) ?_
  refine rn ?_
  change Awp _ _ _ _ _
  refine awp_block ?_
  refine awp_loopH [7, 8, 9, 17, 18, 19, 20, 21, 22, 23, 24, 25, 26, 27, 28, 29, 30, 31, 32] [4] (α := Nat) (fun k => [(17, T.i (k : Int))]) (fun k => [(4, .box (outA (l.map vI) k))]) (fun k => k ≤ 61) (fun k => 61 - k) 0 (Nat.zero_le _) ?_ ?_
  · exact le_head (ms := [4]) (by repeat (exact Out.refl _)) ⟨(by rfl), trivial⟩ ⟨(by rfl), trivial⟩ rfl rfl rfl rfl
  ·
   intro k hk
   refine awp_seq ?_
   refine awp_region 1 mixed (by kernel_rfl) ?_
   refine rg_q (q_lss rfl rfl) ?_
   refine rn ?_
   change Awp _ _ _ _ _
   refine awp_seq ?_
   refine awp_cond rfl (fun hc7 => ?_) (fun hc7 => ?_)
   ·
    (try simp only [nb, ne_eq] at hc7)
    have hlt : k < 61 := by omega
    have hst := outA_set (S := l.map vI) hlt
    have hol := outA_len (S := l.map vI) (k := k) (by omega)
    refine awp_skip ?_
    change Awp _ _ _ _ _
    refine awp_seq ?_
    refine awp_block ?_
    refine awp_seq ?_
    refine awp_region 2 mixed (by kernel_rfl) ?_
    refine rg_q (q_m rfl) (rg_q (q_a rfl) ?_)
    refine rs (awp_region 7 mixed (by kernel_rfl) ?_)
    refine rg_q (q_m rfl) ?_
    refine rg_q (q_call en246 (.cons rfl (.cons rfl .nil)) rfl (tparts_p (l.map vI) hS2 hb2 k hlt)) ?_
    refine rg_q (q_move (x := .d (.tup _)) rfl) (rg_q (q_extract rfl rfl) (rg_q (q_extract rfl rfl) (rg_q (q_a rfl) (rg_q (q_a rfl) ?_))))
    refine rn ?_
    change Awp _ _ _ _ _
    refine awp_region 7 mixed (by kernel_rfl) ?_
    refine rg_q (q_m rfl) (rg_q (q_m rfl) ?_)
    refine rg_q (q_convf int3 flt117 rfl) ?_
    refine rg_q (q_m rfl) ?_
    refine rg_q (q_convf int3 flt117 rfl) ?_
    refine rg_q (q_complex rfl rfl) ?_
    refine rg_q (q_indexAddr_aref ar272 rfl rfl (by omega) (by omega)) ?_
    refine rg_nil ?_
    refine aops_store (cs' := outA (l.map vI) (k + 1)) sz178 rfl rfl (by exact .inl rfl) rfl rfl (by rw [hol]; omega) hst ?_
    refine aops_nil ?_
    change Awp _ _ _ _ _
    refine awp_region 2 mixed (by kernel_rfl) ?_
    refine rg_q (q_add rfl rfl (In64.mk (by omega) (by omega))) ?_
    refine rg_q (q_m rfl) ?_
    refine rn ?_
    refine ⟨k + 1, by omega, by omega, ?_⟩
    exact le_head (ms := [4]) (by repeat (first | exact Out.head rfl rfl | (refine Out.put ?_ rfl) | (refine Out.site ?_ rfl))) ⟨(by rfl), trivial⟩ ⟨(by rfl), trivial⟩ rfl rfl rfl rfl
   ·
    (try simp only [nb, ne_eq] at hc7)
    have hk61 : k = 61 := by omega
    subst hk61
    rw [outA_all]
    refine awp_exit ?_
    change Awp _ _ _ _ _
    refine awp_seq ?_
    refine awp_region 1 mixed (by kernel_rfl) ?_
    refine rg_q (q_load_refA (ds := anL (l.map vI)) sz272 rfl rfl (by rw [List.drop_zero]; exact List.take_of_length_le (by rw [anL_len]; exact Nat.le_refl _)) (anL_len _)) ?_
    refine rg_nil ?_
    refine aops_store (cs' := anL (l.map vI)) sz272 rfl rfl (by exact .inr ⟨_, rfl⟩) (anL_len _) rfl (Nat.le_of_ble_eq_true rfl) (setCs_all (anL_len _)) ?_
    refine aops_q rfl (q_a rfl) ?_
    refine aops_nil ?_
    change Awp _ _ _ _ _
    refine awp_ret ?_
    refine ⟨_, (.cons (.cellA rfl rfl sz272 (anL_len _)) (.cons (.tmp (by exact .d _)) .nil)), ?_⟩
    rfl
end Go.Proofs.YtphlaicnmmglhaaGreat.Am.M
-- mini
namespace Go.Proofs.YtphlaicnmmglhaaGreat.Am.M
open Go
set_option maxRecDepth 100000 in
theorem fwithin_p (n lo hi : Int) : PC Tryz.prog 89 [.v (.int .i64 (n)), .v (.int .i64 (lo)), .v (.int .i64 (hi))] (.v (.bool (inR lo n hi))) := by
 refine pc_of_awp Tryz.func89 rfl Tryz.ntmps89 (rs := [.tmp 6]) Tryz.results89 (by simp) fun w0 => ?_
 refine awp_seq ?_
 refine awp_region 1 mixed (by kernel_rfl) ?_
 refine rg_q (q_a rfl) ?_
 refine rs (awp_region 9 mixed (by kernel_rfl) ?_)
 refine rg_q (q_m rfl) (rg_q (q_m rfl) (rg_q (q_leq rfl rfl) (rg_q (q_m rfl) ?_)))
 refine rg_g rfl rfl (fun hG => (q_m rfl)) ?_
 refine rg_g rfl rfl (fun hG => (q_m rfl)) ?_
 refine rg_g rfl rfl (fun hG => (q_leq rfl rfl)) ?_
 refine rg_pick rfl rfl rfl rfl rfl rfl ?_
 refine rg_q (q_a rfl) ?_
 refine rn ?_
 change Awp _ _ _ _ _
 refine awp_ret ?_
 refine ⟨_, (.cons (.tmp (by exact .d _)) .nil), ?_⟩
 simp only [bif_and]; rfl
set_option maxRecDepth 100000 in
theorem fsmall_p (n m : Int) (h1 : 0 ≤ m) (h2 : m ≤ 1000000000000) : PC Tryz.prog 166 [.v (.int .i64 (n)), .v (.int .i64 (m))] (.v (.bool (inR (-m) n m))) := by
 refine pc_of_awp Tryz.func166 rfl Tryz.ntmps166 (rs := [.tmp 4]) Tryz.results166 (by simp) fun w0 => ?_
 refine awp_seq ?_
 refine awp_region 1 mixed (by kernel_rfl) ?_
 refine rg_q (q_a rfl) ?_
 refine rs (awp_region 6 mixed (by kernel_rfl) ?_)
 refine rg_q (q_m rfl) (rg_q (q_m rfl) ?_)
 refine rg_q (q_neg rfl (In64.mk (by omega) (by omega))) ?_
 refine rg_q (q_m rfl) ?_
 refine rg_q (q_call en89 (.cons rfl (.cons rfl (.cons rfl .nil))) rfl (fwithin_p _ _ _)) ?_
 refine rg_q (q_a rfl) ?_
 refine rn ?_
 change Awp _ _ _ _ _
 refine awp_ret ?_
 refine ⟨_, (.cons (.tmp (by exact .d _)) .nil), ?_⟩
 rfl
set_option maxRecDepth 100000 in
theorem fwhen_p (b : Bool) (e : Int) : PC Tryz.prog 88 [.v (.bool (b)), .v (.int .i64 (e))] (.v (.int .i64 (whenI b e))) := by
 refine pc_of_awp Tryz.func88 rfl Tryz.ntmps88 (rs := [.tmp 4]) Tryz.results88 (by simp) fun w0 => ?_
 refine awp_seq ?_
 refine awp_region 1 mixed (by kernel_rfl) ?_
 refine rg_q (q_a rfl) ?_
 refine rn ?_
 change Awp _ _ _ _ _
 refine awp_seq ?_
 refine awp_seq ?_
 refine awp_region 1 mixed (by kernel_rfl) ?_
 refine rg_q (q_m rfl) ?_
 refine rn ?_
 change Awp _ _ _ _ _
 refine awp_cond rfl (fun hc1 => ?_) (fun hc1 => ?_)
 ·
  (try simp only [nb, ne_eq] at hc1)
  have hz : whenI b e = e := by unfold whenI; rw [if_pos hc1]
  refine awp_seq ?_
  refine awp_region 2 mixed (by kernel_rfl) ?_
  refine rg_q (q_m rfl) (rg_q (q_a rfl) ?_)
  refine rn ?_
  change Awp _ _ _ _ _
  refine awp_ret ?_
  refine ⟨_, (.cons (.tmp (by exact .d _)) .nil), ?_⟩
  rw [hz]; rfl
 ·
  (try simp only [nb, ne_eq] at hc1)
  have hz : whenI b e = 0 := by unfold whenI; rw [if_neg (by simpa using hc1)]
  refine awp_skip ?_
  change Awp _ _ _ _ _
  refine awp_seq ?_
  refine awp_region 1 mixed (by kernel_rfl) ?_
  refine rg_q (q_a rfl) ?_
  refine rn ?_
  change Awp _ _ _ _ _
  refine awp_ret ?_
  refine ⟨_, (.cons (.tmp (by exact .d _)) .nil), ?_⟩
  rw [hz]; rfl

structure Grd where
  fx : Int
  fz : Int
  co : Int
  ro : Int
  st : Int
def grdC (g : Grd) : List D := [.v (.int .i64 g.fx), .v (.int .i64 g.fz), .v (.int .i64 g.co), .v (.int .i64 g.ro), .v (.int .i64 g.st)]
def spI (g : Grd) (c : Int) : Int × Int := (g.fx + c.tmod g.co * g.st, g.fz + c.tdiv g.co * g.st)
structure GrdOk (g : Grd) : Prop where
  x1 : -100000 ≤ g.fx
  x2 : g.fx ≤ 100000
  z1 : -100000 ≤ g.fz
  z2 : g.fz ≤ 100000
  c1 : 1 ≤ g.co
  c2 : g.co ≤ 40
  r1 : 1 ≤ g.ro
  r2 : g.ro ≤ 40
  s1 : 1 ≤ g.st
  s2 : g.st ≤ 10000
def grdB (g : Grd) : Bool := inR (-100000) g.fx 100000 && inR (-100000) g.fz 100000 && inR 1 g.co 40 && inR 1 g.ro 40 && inR 1 g.st 10000
theorem inR_iff {l h a : Int} : inR l a h = true ↔ l ≤ a ∧ a ≤ h := by unfold inR; simp
theorem grdB_ok {g : Grd} (h : grdB g = true) : GrdOk g := by
  unfold grdB at h
  simp only [Bool.and_eq_true, inR_iff] at h
  obtain ⟨⟨⟨⟨⟨a1, a2⟩, b1, b2⟩, c1, c2⟩, d1, d2⟩, e1, e2⟩ := h
  exact ⟨a1, a2, b1, b2, c1, c2, d1, d2, e1, e2⟩
theorem cells_in {g : Grd} (h : GrdOk g) : 1 ≤ g.co * g.ro ∧ g.co * g.ro ≤ 1600 := by
  obtain ⟨_, _, _, _, c1, c2, r1, r2, _, _⟩ := h
  have h1 := mulb (a := g.co) (b := g.ro) (A := 40) (B := 40) (by omega) (by omega) (by omega) (by omega)
  have h2 := Int.mul_le_mul c1 r1 (by omega) (by omega)
  omega
theorem tmodP_in {c b : Int} (hc : 0 ≤ c) (hb : 1 ≤ b) : 0 ≤ c.tmod b ∧ c.tmod b < b := ⟨Int.tmod_nonneg _ hc, Int.tmod_lt_of_pos _ (by omega)⟩
theorem tdivP_in {c b : Int} (hc : 0 ≤ c) (hb : 1 ≤ b) : 0 ≤ c.tdiv b ∧ c.tdiv b ≤ c := by
  rw [Int.tdiv_eq_ediv_of_nonneg hc]
  exact ⟨Int.ediv_nonneg hc (by omega), Int.ediv_le_self _ hc⟩
theorem spot_in {g : Grd} (h : GrdOk g) {c : Int} (h1 : 0 ≤ c) (h2 : c ≤ 10000) : (0 ≤ c.tmod g.co * g.st ∧ c.tmod g.co * g.st ≤ 1000000) ∧ 0 ≤ c.tdiv g.co * g.st ∧ c.tdiv g.co * g.st ≤ 100000000 := by
  obtain ⟨_, _, _, _, c1, c2, r1, r2, s1, s2⟩ := h
  obtain ⟨m1, m2⟩ := tmodP_in h1 c1
  obtain ⟨d1, d2⟩ := tdivP_in h1 c1
  have a1 := mulb (a := c.tmod g.co) (b := g.st) (A := 100) (B := 10000) (by omega) (by omega) (by omega) (by omega)
  have a2 := mulb (a := c.tdiv g.co) (b := g.st) (A := 10000) (B := 10000) (by omega) (by omega) (by omega) (by omega)
  have a3 := Int.mul_nonneg m1 (show 0 ≤ g.st by omega)
  have a4 := Int.mul_nonneg d1 (show 0 ≤ g.st by omega)
  omega
set_option maxRecDepth 100000 in
theorem fcells_p (g : Grd) (hg : GrdOk g) : PC Tryz.prog 91 [.agg (grdC g)] (.v (.int .i64 (g.co * g.ro))) := by
 have hci := cells_in hg
 obtain ⟨x1, x2, z1, z2, c1, c2, r1, r2, s1, s2⟩ := hg
 refine pc_of_awp Tryz.func91 rfl Tryz.ntmps91 (rs := [.tmp 2]) Tryz.results91 (by simp) fun w0 => ?_
 refine awp_seq ?_
 refine awp_region 2 mixed (by kernel_rfl) ?_
 refine rg_q (q_box rfl (by exact .inr ⟨_, rfl⟩)) ?_
 refine rg_q (q_a rfl) ?_
 refine rs (awp_region 8 mixed (by kernel_rfl) ?_)
 refine rg_q (q_fieldAddr fld150_0 rfl) (rg_q (q_fieldAddr fld35_1 rfl) (rg_q (q_load sz3 rfl rfl) (rg_q (q_fieldAddr fld150_0 rfl) (rg_q (q_fieldAddr fld35_2 rfl) (rg_q (q_load sz3 rfl rfl) ?_)))))
 refine rg_q (q_mul rfl rfl (In64.mk (by omega) (by omega))) ?_
 refine rg_q (q_a rfl) ?_
 refine rn ?_
 change Awp _ _ _ _ _
 refine awp_ret ?_
 refine ⟨_, (.cons (.tmp (by exact .d _)) .nil), ?_⟩
 rfl
set_option maxRecDepth 100000 in
theorem fspot_p (g : Grd) (c : Int) (hg : GrdOk g) (h1 : 0 ≤ c) (h2 : c ≤ 10000) : PC Tryz.prog 90 [.agg (grdC g), .v (.int .i64 (c))] (.agg (shC (spI g c))) := by
 have hsi := spot_in hg h1 h2
 obtain ⟨x1, x2, z1, z2, c1, c2, r1, r2, s1, s2⟩ := hg
 obtain ⟨m1, m2⟩ := tmodP_in h1 c1
 obtain ⟨d1, d2⟩ := tdivP_in h1 c1
 obtain ⟨⟨a1, a2⟩, a3, a4⟩ := hsi
 refine pc_of_awp Tryz.func90 rfl Tryz.ntmps90 (rs := [.cell 4 33]) Tryz.results90 (by simp) fun w0 => ?_
 refine awp_seq ?_
 refine awp_region 1 mixed (by kernel_rfl) ?_
 refine rg_q (q_box rfl (by exact .inr ⟨_, rfl⟩)) ?_
 refine rg_nil ?_
 refine aops_alloc zr33 rfl rfl rfl ?_
 refine aops_nil ?_
 change Awp _ _ _ _ _
 refine awp_seq ?_
 refine awp_region 29 mixed (by kernel_rfl) ?_
 refine rg_q (q_fieldAddr fld150_0 rfl) (rg_q (q_fieldAddr fld35_0 rfl) (rg_q (q_fieldAddr fld33_0 rfl) (rg_q (q_load sz3 rfl rfl) (rg_q (q_m rfl) (rg_q (q_fieldAddr fld150_0 rfl) ?_)))))
 refine rg_q (q_fieldAddr fld35_1 rfl) (rg_q (q_load sz3 rfl rfl) ?_)
 refine rg_q (q_rem rfl rfl (by omega)) ?_
 refine rg_q (q_fieldAddr fld150_0 rfl) (rg_q (q_fieldAddr fld35_3 rfl) (rg_q (q_load sz3 rfl rfl) ?_))
 refine rg_q (q_mul rfl rfl (In64.mk (by omega) (by omega))) ?_
 refine rg_q (q_add rfl rfl (In64.mk (by omega) (by omega))) ?_
 refine rg_q (q_fieldAddr fld150_0 rfl) (rg_q (q_fieldAddr fld35_0 rfl) (rg_q (q_fieldAddr fld33_1 rfl) (rg_q (q_load sz3 rfl rfl) (rg_q (q_m rfl) (rg_q (q_fieldAddr fld150_0 rfl) ?_)))))
 refine rg_q (q_fieldAddr fld35_1 rfl) (rg_q (q_load sz3 rfl rfl) ?_)
 refine rg_q (q_quo rfl rfl (by omega) (In64.mk (by omega) (by omega))) ?_
 refine rg_q (q_fieldAddr fld150_0 rfl) (rg_q (q_fieldAddr fld35_3 rfl) (rg_q (q_load sz3 rfl rfl) ?_))
 refine rg_q (q_mul rfl rfl (In64.mk (by omega) (by omega))) ?_
 refine rg_q (q_add rfl rfl (In64.mk (by omega) (by omega))) ?_
 refine rg_q (q_build (cs := [_, _]) pl33 zr33 rfl (.cons rfl (by exact .inl rfl) (.cons rfl (by exact .inl rfl) .nil)) ⟨⟨rfl, by decide⟩, ⟨rfl, by decide⟩, trivial⟩ rfl) ?_
 refine rg_nil ?_
 refine aops_store sz33 rfl rfl (by exact .inr ⟨_, rfl⟩) rfl rfl (by decide) rfl ?_
 refine aops_nil ?_
 change Awp _ _ _ _ _
 refine awp_ret ?_
 refine ⟨_, (.cons (.cellA rfl rfl sz33 rfl) .nil), ?_⟩
 rfl

def clE (g : Grd) (c : Int) : Int := whenI (!inR 0 c (g.co * g.ro - 1)) 6
def ckG (g : Grd) : Int := if grdB g = true then whenI (decide (100000 < (spI g (g.co * g.ro - 1)).1) || decide (100000 < (spI g (g.co * g.ro - 1)).2)) 8 else 2
theorem ckG_ok {g : Grd} (h : ckG g = 0) : GrdOk g ∧ (spI g (g.co * g.ro - 1)).1 ≤ 100000 ∧ (spI g (g.co * g.ro - 1)).2 ≤ 100000 := by
  unfold ckG at h
  by_cases h1 : grdB g = true
  · rw [if_pos h1, when_zero (by decide)] at h
    simp only [Bool.or_eq_false_iff, decide_eq_false_iff_not] at h
    exact ⟨grdB_ok h1, by omega, by omega⟩
  · rw [if_neg h1] at h; cases h
set_option maxRecDepth 100000 in
theorem fcheckGrid_p (g : Grd) : PC Tryz.prog 87 [.agg (grdC g)] (.v (.int .i64 (ckG g))) := by
 refine pc_of_awpN Tryz.func87 rfl Tryz.ntmps87 (rs := [.tmp 2]) Tryz.results87 (by simp) fun w0 hmine hrnd hpn => ?_
 refine awp_seq ?_
 refine awp_region 2 mixed (by kernel_rfl) ?_
 refine rg_q (q_box rfl (by exact .inr ⟨_, rfl⟩)) ?_
 refine rg_q (q_a rfl) ?_
 refine rn ?_
 change Awp _ _ _ _ _
 refine awp_seq ?_
 refine awp_seq ?_
 refine awp_region 30 mixed (by kernel_rfl) ?_
 refine rg_q (q_fieldAddr fld35_0 rfl) (rg_q (q_fieldAddr fld33_0 rfl) (rg_q (q_load sz3 rfl rfl) ?_))
 refine rg_q (q_call en166 (.cons rfl (.cons rfl .nil)) rfl (fsmall_p _ _ (by omega) (by omega))) ?_
 refine rg_q (q_not rfl) (rg_q (q_m rfl) ?_)
 refine rg_g rfl rfl (fun hG => (q_fieldAddr fld35_0 rfl)) ?_
 refine rg_g rfl rfl (fun hG => (q_fieldAddr fld33_1 rfl)) ?_
 refine rg_g rfl rfl (fun hG => (q_load sz3 rfl rfl)) ?_
 refine rg_g rfl rfl (fun hG => (q_call en166 (.cons rfl (.cons rfl .nil)) rfl (fsmall_p _ _ (by omega) (by omega)))) ?_
 refine rg_g rfl rfl (fun hG => (q_not rfl)) ?_
 refine rg_pick rfl rfl rfl rfl rfl rfl ?_
 refine rg_q (q_m rfl) ?_
 refine rg_g rfl rfl (fun hG => (q_fieldAddr fld35_1 rfl)) ?_
 refine rg_g rfl rfl (fun hG => (q_load sz3 rfl rfl)) ?_
 refine rg_g rfl rfl (fun hG => (q_call en89 (.cons rfl (.cons rfl (.cons rfl .nil))) rfl (fwithin_p _ _ _))) ?_
 refine rg_g rfl rfl (fun hG => (q_not rfl)) ?_
 refine rg_pick rfl rfl rfl rfl rfl rfl ?_
 refine rg_q (q_m rfl) ?_
 refine rg_g rfl rfl (fun hG => (q_fieldAddr fld35_2 rfl)) ?_
 refine rg_g rfl rfl (fun hG => (q_load sz3 rfl rfl)) ?_
 refine rg_g rfl rfl (fun hG => (q_call en89 (.cons rfl (.cons rfl (.cons rfl .nil))) rfl (fwithin_p _ _ _))) ?_
 refine rg_g rfl rfl (fun hG => (q_not rfl)) ?_
 refine rg_pick rfl rfl rfl rfl rfl rfl ?_
 refine rg_q (q_m rfl) ?_
 refine rg_g rfl rfl (fun hG => (q_fieldAddr fld35_3 rfl)) ?_
 refine rg_g rfl rfl (fun hG => (q_load sz3 rfl rfl)) ?_
 refine rg_g rfl rfl (fun hG => (q_call en89 (.cons rfl (.cons rfl (.cons rfl .nil))) rfl (fwithin_p _ _ _))) ?_
 refine rg_g rfl rfl (fun hG => (q_not rfl)) ?_
 refine rg_pick rfl rfl rfl rfl rfl rfl ?_
 refine rn ?_
 change Awp _ _ _ _ _
 refine awp_cond rfl (fun hc1 => ?_) (fun hc1 => ?_)
 ·
  (try simp only [nb, ne_eq] at hc1)
  have hb : grdB g = false := by
   cases q : grdB g with
   | false => rfl
   | true => unfold grdB at q; simp_all
  have hz : ckG g = 2 := by unfold ckG; rw [hb]; rfl
  refine awp_seq ?_
  refine awp_region 1 mixed (by kernel_rfl) ?_
  refine rg_q (q_a rfl) ?_
  refine rn ?_
  change Awp _ _ _ _ _
  refine awp_ret ?_
  refine ⟨_, (.cons (.tmp (by exact .d _)) .nil), ?_⟩
  rw [hz]; (try simp only [bif_or]); rfl
 ·
  (try simp only [nb, ne_eq] at hc1)
  have hb : grdB g = true := by unfold grdB; simp_all
  have hg := grdB_ok hb
  have hci := cells_in hg
  have hz : ckG g = whenI (decide (100000 < (spI g (g.co * g.ro - 1)).1) || decide (100000 < (spI g (g.co * g.ro - 1)).2)) 8 := by unfold ckG; rw [if_pos hb]
  refine awp_skip ?_
  change Awp _ _ _ _ _
  refine awp_seq ?_
  refine awp_region 2 mixed (by kernel_rfl) ?_
  refine rg_q (q_loadA (ds := [_, _, _, _, _]) sz35 rfl rfl rfl) ?_
  refine rg_q (q_build (cs := [_, _, _, _, _]) pl150 zr150 rfl (.cons rfl (by exact .inr ⟨_, rfl⟩) .nil) ⟨⟨rfl, by decide⟩, trivial⟩ rfl) ?_
  refine rg_nil ?_
  refine aops_allocD zr150 rfl sz150 rfl rfl (by exact .inr ⟨_, rfl⟩) rfl rfl ?_
  refine aops_nil ?_
  change Awp _ _ _ _ _
  refine awp_seq ?_
  refine awp_regionM 7 [none, none, none, none, none, some 4, some 4] mixed (by kernel_rfl) ?_
  refine rgm_q rfl (q_loadA (ds := [_, _, _, _, _]) sz150 rfl rfl rfl) ?_
  refine rgm_q rfl (q_loadA (ds := [_, _, _, _, _]) sz150 rfl rfl rfl) ?_
  refine rgm_q rfl (q_call en91 (.cons rfl .nil) rfl (fcells_p _ (by assumption))) ?_
  refine rgm_q rfl (q_sub rfl rfl (In64.mk (by omega) (by omega))) ?_
  refine rgm_q rfl (q_call en90 (.cons rfl (.cons rfl .nil)) rfl (fspot_p _ _ (by assumption) (by omega) (by omega))) ?_
  refine rgm_m (k := 4) rfl rfl (by rfl) (m_alloc zr33 rfl rfl) ?_
  refine rgm_m (k := 4) rfl rfl (by rfl) (m_store sz33 rfl rfl (by exact .inr ⟨_, rfl⟩) rfl rfl (by decide) rfl) ?_
  refine rgm_nil (aops_nil ?_)
  change Awp _ _ _ _ _
  refine awp_seq ?_
  refine awp_region 10 mixed (by kernel_rfl) ?_
  refine rg_q (q_fieldAddr_ref fld33_0 rfl) (rg_q (q_load_ref sz3 rfl rfl rfl) (rg_q (q_gtr rfl rfl) (rg_q (q_m rfl) ?_)))
  refine rg_g rfl rfl (fun hG => (q_fieldAddr_ref fld33_1 rfl)) ?_
  refine rg_g rfl rfl (fun hG => (q_load_ref sz3 rfl rfl rfl)) ?_
  refine rg_g rfl rfl (fun hG => (q_gtr rfl rfl)) ?_
  refine rg_pick rfl rfl rfl rfl rfl rfl ?_
  refine rg_q (q_call en88 (.cons rfl (.cons rfl .nil)) rfl (fwhen_p _ _)) ?_
  refine rg_q (q_a rfl) ?_
  refine rn ?_
  change Awp _ _ _ _ _
  refine awp_ret ?_
  refine ⟨_, (.cons (.tmp (by exact .d _)) .nil), ?_⟩
  rw [hz]; (try simp only [bif_or]); rfl
end Go.Proofs.YtphlaicnmmglhaaGreat.Am.M
-- mini
namespace Go.Proofs.YtphlaicnmmglhaaGreat.Am.M
open Go

structure Tsk where
  ar : Arr
  ne : Int
  bf : List Nat
  g : Grd
def mtxC (ne : Int) (bf : List Nat) : List D := [.v (.int .i64 ne), .sl 1 (bf.map fC)]
def tskC (t : Tsk) : List D := arrC t.ar ++ mtxC t.ne t.bf ++ grdC t.g
structure TskOk (t : Tsk) : Prop where
  ck : (ckArr t.ar).2 = 0
  n1 : 1 ≤ t.ne
  n2 : t.ne ≤ 16
  nl : (t.bf.length : Int) = t.ne * t.ne * 64
  wh : WhlL t.bf
  el : (t.ar.el.length : Int) = t.ne
  gr : ckG t.g = 0
  z1 : 1 ≤ t.g.fz
  z2 : t.g.fz ≤ t.ar.ou.t - 1
  z3 : 1 ≤ (spI t.g (t.g.co * t.g.ro - 1)).2
  z4 : (spI t.g (t.g.co * t.g.ro - 1)).2 ≤ t.ar.ou.t - 1
theorem ckArr_zero {a : Arr} (h : (ckArr a).2 = 0) : ckArr a = (0, 0) := by
  unfold ckArr at h ⊢
  by_cases h1 : a.el.length = 0
  · rw [if_pos h1] at h; cases h
  rw [if_neg h1] at h ⊢
  by_cases h2 : 16 < a.el.length
  · rw [if_pos h2] at h; cases h
  rw [if_neg h2] at h ⊢
  by_cases h3 : (ckEls 0 a.el).2 ≠ 0
  · rw [if_pos h3] at h; exact absurd h h3
  rw [if_neg h3] at h ⊢
  have h4 : arrE0 a = 0 := h
  rw [h4]
set_option maxRecDepth 100000 in
theorem checkTask_p (t : Tsk) (h : TskOk t) : PC Tryz.prog 20 [.agg (tskC t)] (.tup [.v (.int .i64 (0)), .v (.int .i64 (0))]) := by
 have hck := ckArr_zero h.ck
 obtain ⟨hao, _⟩ := ckArr_ok h.ck
 have hn1 := h.n1
 have hn2 := h.n2
 have hnl := h.nl
 have hwh := h.wh
 have hel := h.el
 obtain ⟨hg, hg1, hg2⟩ := ckG_ok h.gr
 have hci := cells_in hg
 have hz1 : inR 1 t.g.fz (t.ar.ou.t - 1) = true := inR_iff.2 ⟨h.z1, h.z2⟩
 have hz2 : inR 1 (spI t.g (t.g.co * t.g.ro - 1)).2 (t.ar.ou.t - 1) = true := inR_iff.2 ⟨h.z3, h.z4⟩
 have hgr := h.gr
 have ht1 := hao.ou.t1
 have ht2 := hao.ou.t2
 refine pc_of_awpN Tryz.func20 rfl Tryz.ntmps20 (rs := [.tmp 2, .tmp 3]) Tryz.results20 (by simp) fun w0 hmine hrnd hpn => ?_
 refine awp_seq ?_
 refine awp_region 3 mixed (by kernel_rfl) ?_
 refine rg_q (q_box rfl (by exact .inr ⟨_, rfl⟩)) ?_
 refine rg_q (q_a rfl) (rg_q (q_a rfl) ?_)
 refine rn ?_
 change Awp _ _ _ _ _
 refine awp_seq ?_
 refine awp_seq ?_
 refine awp_region 8 mixed (by kernel_rfl) ?_
 refine rg_q (q_fieldAddr fld37_0 rfl) ?_
 refine rg_q (q_loadA (ds := [_, _, _, _, _, _, _, _, _, _, _]) sz28 rfl rfl rfl) ?_
 refine rg_q (q_call en85 (.cons rfl .nil) rfl ((by have h := checkArray_p t.ar; rw [hck] at h; exact h))) ?_
 refine rg_q (q_move (x := .d (.tup _)) rfl) (rg_q (q_extract rfl rfl) (rg_q (q_extract rfl rfl) (rg_q (q_a rfl) (rg_q (q_a rfl) ?_))))
 refine rs (awp_region 2 mixed (by kernel_rfl) ?_)
 refine rg_q (q_m rfl) (rg_q (q_neq rfl rfl) ?_)
 refine rn ?_
 change Awp _ _ _ _ _
 refine awp_cond rfl (fun hc2 => ?_) (fun hc2 => ?_)
 ·
  simp at hc2
 ·
  (try simp only [nb, ne_eq] at hc2)
  refine awp_skip ?_
  change Awp _ _ _ _ _
  refine awp_seq ?_
  refine awp_seq ?_
  refine awp_region 8 mixed (by kernel_rfl) ?_
  refine rg_q (q_fieldAddr fld37_1 rfl) ?_
  refine rg_q (q_loadA (ds := [_, _]) sz31 rfl rfl rfl) ?_
  refine rg_q (q_call en86 (.cons rfl .nil) rfl (checkMatrix_p t.ne t.bf hn1 hn2 hnl hwh)) ?_
  refine rg_q (q_move (x := .d (.tup _)) rfl) (rg_q (q_extract rfl rfl) (rg_q (q_extract rfl rfl) (rg_q (q_a rfl) (rg_q (q_a rfl) ?_))))
  refine rs (awp_region 2 mixed (by kernel_rfl) ?_)
  refine rg_q (q_m rfl) (rg_q (q_neq rfl rfl) ?_)
  refine rn ?_
  change Awp _ _ _ _ _
  refine awp_cond rfl (fun hc5 => ?_) (fun hc5 => ?_)
  ·
   simp at hc5
  ·
   (try simp only [nb, ne_eq] at hc5)
   refine awp_skip ?_
   change Awp _ _ _ _ _
   refine awp_seq ?_
   refine awp_seq ?_
   refine awp_region 8 mixed (by kernel_rfl) ?_
   refine rg_q (q_fieldAddr fld37_0 rfl) (rg_q (q_fieldAddr fld28_0 rfl) (rg_q (q_load sz22 rfl rfl) ?_))
   refine rg_q (q_len isl22 rfl (by exact len_map _ _)) ?_
   refine rg_q (q_fieldAddr fld37_1 rfl) (rg_q (q_fieldAddr fld31_0 rfl) (rg_q (q_load sz3 rfl rfl) (rg_q (q_neq rfl rfl) ?_)))
   refine rn ?_
   change Awp _ _ _ _ _
   refine awp_len (t := 32) rfl (fun hl32 => ?_)
   (try simp only [List.length_map] at hl32)
   refine awp_cond rfl (fun hc7 => ?_) (fun hc7 => ?_)
   ·
    rw [decide_eq_true_eq] at hc7
    exact absurd hel hc7
   ·
    (try simp only [nb, ne_eq] at hc7)
    refine awp_skip ?_
    change Awp _ _ _ _ _
    refine awp_seq ?_
    refine awp_seq ?_
    refine awp_region 4 mixed (by kernel_rfl) ?_
    refine rg_q (q_fieldAddr fld37_2 rfl) ?_
    refine rg_q (q_loadA (ds := [_, _, _, _, _]) sz35 rfl rfl rfl) ?_
    refine rg_q (q_call en87 (.cons rfl .nil) rfl ((by have h := fcheckGrid_p t.g; rw [hgr] at h; exact h))) ?_
    refine rg_q (q_a rfl) ?_
    refine rs (awp_region 2 mixed (by kernel_rfl) ?_)
    refine rg_q (q_m rfl) (rg_q (q_neq rfl rfl) ?_)
    refine rn ?_
    change Awp _ _ _ _ _
    refine awp_cond rfl (fun hc10 => ?_) (fun hc10 => ?_)
    ·
     simp at hc10
    ·
     (try simp only [nb, ne_eq] at hc10)
     refine awp_skip ?_
     change Awp _ _ _ _ _
     refine awp_seq ?_
     refine awp_region 3 mixed (by kernel_rfl) ?_
     refine rg_q (q_fieldAddr fld37_2 rfl) ?_
     refine rg_q (q_loadA (ds := [_, _, _, _, _]) sz35 rfl rfl rfl) ?_
     refine rg_q (q_build (cs := [_, _, _, _, _]) pl150 zr150 rfl (.cons rfl (by exact .inr ⟨_, rfl⟩) .nil) ⟨⟨rfl, by decide⟩, trivial⟩ rfl) ?_
     refine rg_nil ?_
     refine aops_allocD zr150 rfl sz150 rfl rfl (by exact .inr ⟨_, rfl⟩) rfl rfl ?_
     refine aops_nil ?_
     change Awp _ _ _ _ _
     refine awp_seq ?_
     refine awp_region 5 mixed (by kernel_rfl) ?_
     refine rg_q (q_fieldAddr fld37_0 rfl) (rg_q (q_fieldAddr fld28_1 rfl) (rg_q (q_fieldAddr fld24_3 rfl) (rg_q (q_load sz3 rfl rfl) (rg_q (q_a rfl) ?_))))
     refine rs (awp_region 23 mixed (by kernel_rfl) ?_)
     refine rg_q (q_fieldAddr fld37_2 rfl) (rg_q (q_fieldAddr fld35_0 rfl) (rg_q (q_fieldAddr fld33_1 rfl) (rg_q (q_load sz3 rfl rfl) (rg_q (q_m rfl) ?_))))
     refine rg_q (q_sub rfl rfl (In64.mk (by omega) (by omega))) ?_
     refine rg_q (q_call en89 (.cons rfl (.cons rfl (.cons rfl .nil))) rfl (fwithin_p _ _ _)) ?_
     refine rg_q (q_not rfl) (rg_q (q_m rfl) ?_)
     refine rg_g rfl rfl (fun hG => (q_loadA (ds := [_, _, _, _, _]) sz150 rfl rfl rfl)) ?_
     refine rg_g rfl rfl (fun hG => (q_loadA (ds := [_, _, _, _, _]) sz150 rfl rfl rfl)) ?_
     refine rg_g rfl rfl (fun hG => (q_call en91 (.cons rfl .nil) rfl (fcells_p _ (by assumption)))) ?_
     refine rg_g rfl rfl (fun hG => (q_sub rfl rfl (In64.mk (by (have hg0 := T.bool_inj (a := _) hG.1; (try simp only [nb, ne_eq] at hg0); omega)) (by (have hg0 := T.bool_inj (a := _) hG.1; (try simp only [nb, ne_eq] at hg0); omega))))) ?_
     refine rg_g rfl rfl (fun hG => (q_call en90 (.cons rfl (.cons rfl .nil)) rfl (fspot_p _ _ (by assumption) (by omega) (by omega)))) ?_
     refine rg_g rfl rfl (fun hG => (q_field fd33_1 sz3 rfl rfl)) ?_
     refine rg_g rfl rfl (fun hG => (q_m rfl)) ?_
     refine rg_g rfl rfl (fun hG => (q_sub rfl rfl (In64.mk (by (have hg0 := T.bool_inj (a := _) hG.1; (try simp only [nb, ne_eq] at hg0); omega)) (by (have hg0 := T.bool_inj (a := _) hG.1; (try simp only [nb, ne_eq] at hg0); omega))))) ?_
     refine rg_g rfl rfl (fun hG => (q_call en89 (.cons rfl (.cons rfl (.cons rfl .nil))) rfl (fwithin_p _ _ _))) ?_
     refine rg_g rfl rfl (fun hG => (q_not rfl)) ?_
     refine rg_pick rfl rfl rfl rfl rfl rfl ?_
     refine rg_q (q_call en88 (.cons rfl (.cons rfl .nil)) rfl (fwhen_p _ _)) ?_
     refine rg_q (q_a rfl) (rg_q (q_a rfl) ?_)
     refine rn ?_
     change Awp _ _ _ _ _
     refine awp_ret ?_
     refine ⟨_, (.cons (.tmp (by exact .d _)) (.cons (.tmp (by exact .d _)) .nil)), ?_⟩
     simp [whenI, hz1, hz2, retD]
end Go.Proofs.YtphlaicnmmglhaaGreat.Am.M
-- mini
namespace Go.Proofs.YtphlaicnmmglhaaGreat.Am.M
open Go

def chK (l : List Nat) (i : Nat) : List Nat := (l.take (64 * i + 64)).drop (64 * i)
def chF (l : List Nat) (i : Nat) : List (List Nat) := (List.range i).map (chK l)
def encK (b : List Nat) : List D := [.sl 1 (b.map fC)]
theorem chF_succ (l : List Nat) (i : Nat) : chF l (i + 1) = chF l i ++ [chK l i] := by unfold chF; rw [List.range_succ, List.map_append]; rfl
theorem chF_pre {l : List Nat} {i : Nat} : ∀ {m : Nat}, i ≤ m → chF l i <+: chF l m
  | 0, h => by have : i = 0 := by omega
               subst this; exact List.prefix_rfl
  | m + 1, h => by
    by_cases e : i = m + 1
    · subst e; exact List.prefix_rfl
    · rw [chF_succ]; exact (chF_pre (show i ≤ m by omega)).trans (List.prefix_append _ _)
theorem chK_len {l : List Nat} {i m : Nat} (h : l.length = 64 * m) (hi : i < m) : (chK l i).length = 64 := by
  unfold chK
  rw [List.length_drop, List.length_take]; omega
theorem chK_row (l : List Nat) (i : Nat) : ((l.map fC).take (64 * i + 64)).drop (64 * i) = (chK l i).map fC := by unfold chK; rw [List.map_drop, List.map_take]
theorem chK_wh {l : List Nat} (h : WhlL l) (i : Nat) : WhlL (chK l i) := fun b hb => h b (List.mem_of_mem_take (List.mem_of_mem_drop hb))
set_option maxRecDepth 100000 in
theorem chunk_i (l : List Nat) (m : Nat) (h1 : l.length = 64 * m) (h2 : m ≤ 10000) : PI Tryz.prog 216 [] [.pt [.sl 1 (l.map fC)] 0, .pt [.v (.int .i64 (64))] 0] (encK) (chF l m) true := by
  refine pi_of_iwp Tryz.func216 rfl Tryz.ntmps216 rfl rfl fun J c l0 hJ hy hdat hfin => ?_
  refine iwp_seq ?_
  apply iwp_reg hJ
  ·
    intro c1 hmine hrnd
    refine awp_region 1 mixed (by kernel_rfl) ?_
    refine rg_q (q_a rfl) ?_
    refine rn ?_
    exact ⟨rfl, rfl⟩
  change Iwp _ _ _ _ _ _ _
  refine iwp_block ?_
  refine iwp_loopH [4, 5, 6, 7, 8, 9, 10, 11, 12, 13, 14, 15, 16, 17, 18, 19, 20, 21, 22, 23, 24, 25, 26, 27, 28, 29, 30] [] (β := Nat) (fun i => [(4, T.i ((64 * i : Nat) : Int))]) (fun i => []) (fun i => (true, chF l i)) (fun i => i ≤ m) (fun i => m - i) 0 (Nat.zero_le _) rfl (fun c1 => ?_) ?_
  · exact le_head (ms := []) (by repeat (exact Out.refl _)) ⟨(by rfl), trivial⟩ trivial rfl rfl rfl rfl
  ·
    intro i hi
    refine iwp_seq ?_
    refine iwp_seq ?_
    apply iwp_reg hJ
    ·
      intro c1 hmine hrnd
      refine awp_region 4 mixed (by kernel_rfl) ?_
      refine rg_q (q_m rfl) (rg_q (q_load sz29 rfl rfl) ?_)
      refine rg_q (q_len isl29 rfl (by exact len_map _ _)) ?_
      refine rg_q (q_lss rfl rfl) ?_
      refine rn ?_
      exact ⟨rfl, rfl⟩
    change Iwp _ _ _ _ _ _ _
    refine iwp_len (t := 7) rfl (fun hl7 => ?_)
    (try simp only [List.length_map] at hl7)
    refine iwp_cond rfl (fun hc1 => ?_) (fun hc1 => ?_)
    ·
      (try simp only [nb, ne_eq] at hc1)
      have hlt : i < m := by omega
      have hpre : chF l i ++ [chK l i] <+: chF l m := by rw [← chF_succ]; exact chF_pre hlt
      have hmn : min (64 : Int) ((List.drop (64 * i) (List.take (l.map fC).length l)).length : Int) = 64 := by rw [List.length_map, List.take_length, List.length_drop]; omega
      have hpl : ((64 * i : Nat) : Int) + 64 = ((64 * i + 64 : Nat) : Int) := by omega
      refine iwp_skip ?_
      change Iwp _ _ _ _ _ _ _
      refine iwp_seq ?_
      refine iwp_block ?_
      refine iwp_seq ?_
      apply iwp_reg hJ
      ·
        intro c1 hmine hrnd
        refine awp_region 7 mixed (by kernel_rfl) ?_
        refine rg_q (q_load sz3 rfl rfl) (rg_q (q_load sz29 rfl rfl) (rg_q (q_m rfl) ?_))
        refine rg_q (q_slice sl29 rfl rfl rfl (by rw [List.length_map]; omega) (Nat.le_refl _) (by exact map_slice _ _ _ _)) ?_
        refine rg_q (q_len isl29 rfl (by exact len_map _ _)) ?_
        refine rg_q (q_min rfl rfl) ?_
        refine rg_q (q_a rfl) ?_
        refine rn ?_
        exact ⟨rfl, rfl⟩
      change Iwp _ _ _ _ _ _ _
      refine iwp_len (t := 16) rfl (fun hl16 => ?_)
      (try simp only [List.length_map] at hl16)
      refine iwp_seq ?_
      rw [hmn]
      refine iwp_region ?_
      refine iops_of hJ rfl (fun c1 _ _ _ h => by exact aops_q rfl ((q_move (x := .d (.fn _ _)) rfl)) h) ?_
      refine iops_of hJ rfl (fun c1 _ _ _ h => by exact aops_q rfl ((q_load sz29 rfl rfl)) h) ?_
      refine iops_of hJ rfl (fun c1 _ _ _ h => by exact aops_q rfl ((q_m rfl)) h) ?_
      refine iops_of hJ rfl (fun c1 _ _ _ h => by exact aops_q rfl ((q_m rfl)) h) ?_
      refine iops_of hJ rfl (fun c1 _ _ _ h => by exact aops_q rfl ((q_m rfl)) h) ?_
      refine iops_of hJ rfl (fun c1 _ _ _ h => by exact aops_q rfl ((q_add rfl rfl (In64.mk (by omega) (by omega)))) h) ?_
      refine iops_of hJ rfl (fun c1 _ _ _ h => by exact aops_q rfl ((q_m rfl)) h) ?_
      refine iops_of hJ rfl (fun c1 _ _ _ h => by exact aops_q rfl ((q_m rfl)) h) ?_
      refine iops_of hJ rfl (fun c1 _ _ _ h => by exact aops_q rfl ((q_add rfl rfl (In64.mk (by omega) (by omega)))) h) ?_
      rw [hpl]
      refine iops_of hJ rfl (fun c1 _ _ _ h => by exact aops_q rfl ((q_slice3d (lo := 64 * i) (hi := 64 * i + 64) (es' := (chK l i).map fC) sl29 rfl rfl rfl rfl (by omega) (by rw [List.length_map]; omega) (chK_row l i))) h) ?_
      refine iops_yield (x := (chK l i)) hy hdat rfl (.cons rfl .nil) hpre rfl (fun yb => ?_)
      refine iops_of hJ rfl (fun c1 _ _ _ h => by exact aops_q rfl ((q_not rfl)) h) ?_
      refine iops_nil ?_
      change Iwp _ _ _ _ _ _ _
      refine iwp_cond rfl (fun hc4 => ?_) (fun hc4 => ?_)
      ·
        (try simp only [nb, ne_eq] at hc4)
        have hyb : yb = false := by cases yb <;> first | rfl | (exfalso; simp_all; done)
        refine iwp_ret ?_
        exact ⟨.inl rfl, fun h => by rw [hyb] at h; cases h⟩
      ·
        (try simp only [nb, ne_eq] at hc4)
        have hyb : yb = true := by cases yb <;> first | rfl | (exfalso; simp_all; done)
        refine iwp_skip ?_
        change Iwp _ _ _ _ _ _ _
        apply iwp_reg hJ
        ·
          intro c1 hmine hrnd
          refine awp_region 4 mixed (by kernel_rfl) ?_
          refine rg_q (q_m rfl) (rg_q (q_load sz3 rfl rfl) ?_)
          refine rg_q (q_add rfl rfl (In64.mk (by omega) (by omega))) ?_
          refine rg_q (q_a rfl) ?_
          refine rn ?_
          exact ⟨rfl, rfl⟩
        refine ⟨i + 1, by omega, by omega, by rw [hyb, chF_succ], fun c1 => ?_⟩
        exact le_head (ms := []) (by repeat (first | exact Out.head rfl rfl | (refine Out.put ?_ rfl))) ⟨(by rfl), trivial⟩ trivial rfl rfl rfl rfl
    ·
      (try simp only [nb, ne_eq] at hc1)
      have him : i = m := by omega
      refine iwp_exit ?_
      exact ⟨.inr rfl, fun _ => by rw [him]⟩
end Go.Proofs.YtphlaicnmmglhaaGreat.Am.M
