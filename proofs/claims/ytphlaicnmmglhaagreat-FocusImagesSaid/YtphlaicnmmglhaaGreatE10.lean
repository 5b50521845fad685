/- Contracts over the abstract machine: package focus: powers of a grid, peaks. Conditions: none. -/
import Derived.Test.YtphlaicnmmglhaaGreatE9
set_option linter.unusedVariables false
set_option linter.unusedSimpArgs false
-- mini
namespace Go.Proofs.YtphlaicnmmglhaaGreat.Am.M
open Go

def pwB (n : Int) : Bool := !inR 0 n 1000000000000000
def fdC (g : Grd) (pw : List Int) : List D := grdC g ++ [.sl 1 (pw.map iC)]
def ofE (g : Grd) (pw : List Int) : Int := if ckG g ≠ 0 then ckG g else if (pw.length : Int) ≠ g.co * g.ro then 10 else whenI (pw.any pwB) 2
def z6 : List D := [.v (.int .i64 0), .v (.int .i64 0), .v (.int .i64 0), .v (.int .i64 0), .v (.int .i64 0), .v (.slice none 0 0)]
def ofD (g : Grd) (pw : List Int) : List D := if ckG g ≠ 0 then z6 else if (pw.length : Int) ≠ g.co * g.ro then z6 else fdC g pw
set_option maxRecDepth 100000 in
theorem openField1_p (n : Int) : PC Tryz.prog 182 [.v (.int .i64 (n))] (.v (.bool (pwB n))) := by
 refine pc_of_awp Tryz.func182 rfl Tryz.ntmps182 (rs := [.tmp 2]) Tryz.results182 (by simp) fun w0 => ?_
 refine awp_seq ?_
 refine awp_region 1 mixed (by kernel_rfl) ?_
 refine rg_q (q_assign (x := .d (.v _)) rfl) ?_
 refine rg_nil (aops_nil ?_)
 change Awp _ _ _ _ _
 refine awp_seq ?_
 refine awp_region 4 mixed (by kernel_rfl) ?_
 refine rg_q (q_move (x := .d (.v _)) rfl) ?_
 refine rg_q (q_call en89 (.cons rfl (.cons rfl (.cons rfl .nil))) rfl (fwithin_p _ _ _)) ?_
 refine rg_q (q_not rfl) (rg_q (q_assign (x := .d (.v _)) rfl) ?_)
 refine rg_nil (aops_nil ?_)
 change Awp _ _ _ _ _
 refine awp_ret ?_
 refine ⟨_, (.cons (.tmp (by exact .d _)) .nil), ?_⟩
 rfl
set_option maxRecDepth 100000 in
theorem openField_p (g : Grd) (pw : List Int) : PC Tryz.prog 116 [.agg (grdC g), .sl 1 (pw.map iC)] (.tup [.agg (ofD g pw), .v (.int .i64 (ofE g pw))]) := by
 refine pc_of_awpN Tryz.func116 rfl Tryz.ntmps116 (rs := [.cell 4 193, .tmp 5]) Tryz.results116 (by simp) fun w0 hmine hrnd hpn => ?_
 refine awp_seq ?_
 refine awp_region 1 mixed (by kernel_rfl) ?_
 refine rg_q (q_box rfl (by exact .inr ⟨_, rfl⟩)) ?_
 refine rg_nil ?_
 refine aops_alloc zr193 rfl rfl rfl ?_
 refine aops_q rfl (q_assign (x := .d (.v _)) rfl) ?_
 refine aops_nil ?_
 change Awp _ _ _ _ _
 refine awp_seq ?_
 refine awp_seq ?_
 refine awp_region 3 mixed (by kernel_rfl) ?_
 refine rg_q (q_loadA (ds := [_, _, _, _, _]) sz35 rfl rfl rfl) ?_
 refine rg_q (q_call en87 (.cons rfl .nil) rfl (fcheckGrid_p _)) ?_
 refine rg_q (q_assign (x := .d (.v _)) rfl) ?_
 refine rg_nil (aops_nil ?_)
 change Awp _ _ _ _ _
 refine awp_seq ?_
 refine awp_region 2 mixed (by kernel_rfl) ?_
 refine rg_q (q_move (x := .d (.v _)) rfl) (rg_q (q_neq rfl rfl) ?_)
 refine rg_nil (aops_nil ?_)
 change Awp _ _ _ _ _
 refine awp_cond rfl (fun hc2 => ?_) (fun hc2 => ?_)
 ·
  (try simp only [nb, ne_eq] at hc2)
  have hz1 : ofE g pw = ckG g := by unfold ofE; rw [if_pos hc2]
  have hz2 : ofD g pw = z6 := by unfold ofD; rw [if_pos hc2]
  refine awp_seq ?_
  refine awp_region 2 mixed (by kernel_rfl) ?_
  refine rg_q (q_build (cs := [_, _, _, _, _, _]) pl193 zr193 rfl .nil trivial rfl) ?_
  refine rg_q (q_move (x := .d (.v _)) rfl) ?_
  refine rg_nil ?_
  refine aops_store sz193 rfl rfl (by exact .inr ⟨_, rfl⟩) rfl rfl (by decide) rfl ?_
  refine aops_q rfl (q_assign (x := .d (.v _)) rfl) ?_
  refine aops_nil ?_
  change Awp _ _ _ _ _
  refine awp_ret ?_
  refine ⟨_, (.cons (.cellA rfl rfl sz193 rfl) (.cons (.tmp (by exact .d _)) .nil)), ?_⟩
  rw [hz1, hz2]; rfl
 ·
  (try simp only [nb, ne_eq] at hc2)
  have hg0 : ckG g = 0 := hc2
  obtain ⟨hg, _, _⟩ := ckG_ok hg0
  have hci := cells_in hg
  refine awp_skip ?_
  change Awp _ _ _ _ _
  refine awp_seq ?_
  refine awp_region 4 mixed (by kernel_rfl) ?_
  refine rg_q (q_loadA (ds := [_, _, _, _, _]) sz35 rfl rfl rfl) ?_
  refine rg_q (q_build (cs := [_, _, _, _, _]) pl150 zr150 rfl (.cons rfl (by exact .inr ⟨_, rfl⟩) .nil) ⟨⟨rfl, by decide⟩, trivial⟩ rfl) ?_
  refine rg_q (q_move (x := .d (.sl _ _)) rfl) ?_
  refine rg_q (q_build (cs := [_, _, _, _, _, _]) pl193 zr193 rfl (.cons rfl (by exact .inr ⟨_, rfl⟩) (.cons rfl (by exact .inl rfl) .nil)) ⟨⟨rfl, by decide⟩, ⟨rfl, by decide⟩, trivial⟩ rfl) ?_
  refine rg_nil ?_
  refine aops_allocD zr193 rfl sz193 rfl rfl (by exact .inr ⟨_, rfl⟩) rfl rfl ?_
  refine aops_nil ?_
  change Awp _ _ _ _ _
  refine awp_seq ?_
  refine awp_seq ?_
  refine awp_region 6 mixed (by kernel_rfl) ?_
  refine rg_q (q_move (x := .d (.sl _ _)) rfl) ?_
  refine rg_q (q_len isl77 rfl (by exact len_map _ _)) ?_
  refine rg_q (q_fieldAddr fld193_0 rfl) ?_
  refine rg_q (q_loadA (ds := [_, _, _, _, _]) sz150 rfl rfl rfl) ?_
  refine rg_q (q_call en91 (.cons rfl .nil) rfl (fcells_p _ (by assumption))) ?_
  refine rg_q (q_neq rfl rfl) ?_
  refine rg_nil (aops_nil ?_)
  change Awp _ _ _ _ _
  refine awp_len (t := 18) rfl (fun hl18 => ?_)
  (try simp only [List.length_map] at hl18)
  refine awp_cond rfl (fun hc5 => ?_) (fun hc5 => ?_)
  ·
   (try simp only [nb, ne_eq] at hc5)
   have hz1 : ofE g pw = 10 := by unfold ofE; rw [if_neg (fun q => q hg0), if_pos (by simpa using hc5)]
   have hz2 : ofD g pw = z6 := by unfold ofD; rw [if_neg (fun q => q hg0), if_pos (by simpa using hc5)]
   refine awp_seq ?_
   refine awp_region 1 mixed (by kernel_rfl) ?_
   refine rg_q (q_build (cs := [_, _, _, _, _, _]) pl193 zr193 rfl .nil trivial rfl) ?_
   refine rg_nil ?_
   refine aops_store sz193 rfl rfl (by exact .inr ⟨_, rfl⟩) rfl rfl (by decide) rfl ?_
   refine aops_q rfl (q_assign (x := .d (.v _)) rfl) ?_
   refine aops_nil ?_
   change Awp _ _ _ _ _
   refine awp_ret ?_
   refine ⟨_, (.cons (.cellA rfl rfl sz193 rfl) (.cons (.tmp (by exact .d _)) .nil)), ?_⟩
   rw [hz1, hz2]; rfl
  ·
   (try simp only [nb, ne_eq] at hc5)
   have hz1 : ofE g pw = whenI (pw.any pwB) 2 := by unfold ofE; rw [if_neg (fun q => q hg0), if_neg (by simpa using hc5)]
   have hz2 : ofD g pw = fdC g pw := by unfold ofD; rw [if_neg (fun q => q hg0), if_neg (by simpa using hc5)]
   refine awp_skip ?_
   change Awp _ _ _ _ _
   refine awp_seq ?_
   refine awp_regionM 6 [none, none, none, none, some 4, none] mixed (by kernel_rfl) ?_
   refine rgm_q rfl (q_loadA (ds := [_, _, _, _, _, _]) sz193 rfl rfl rfl) ?_
   refine rgm_q rfl (q_move (x := .d (.sl _ _)) rfl) ?_
   refine rgm_q rfl (q_call en181 (.cons rfl (.cons rfl .nil)) rfl (containsInt_p pwB 182 [] en182 pw (fun a _ => openField1_p a))) ?_
   refine rgm_q rfl (q_call en88 (.cons rfl (.cons rfl .nil)) rfl (fwhen_p _ _)) ?_
   refine rgm_m (k := 4) rfl rfl (by rfl) (m_store sz193 rfl rfl (by exact .inr ⟨_, rfl⟩) rfl rfl (by decide) rfl) ?_
   refine rgm_q rfl (q_assign (x := .d (.v _)) rfl) ?_
   refine rgm_nil (aops_nil ?_)
   change Awp _ _ _ _ _
   refine awp_ret ?_
   refine ⟨_, (.cons (.cellA rfl rfl sz193 rfl) (.cons (.tmp (by exact .d _)) .nil)), ?_⟩
   rw [hz1, hz2]; rfl

structure FldOk (g : Grd) (pw : List Int) : Prop where
  gr : GrdOk g
  len : (pw.length : Int) = g.co * g.ro
  pw : ∀ p ∈ pw, 0 ≤ p ∧ p ≤ 1000000000000000
theorem of_ok {g : Grd} {pw : List Int} (h : ofE g pw = 0) : FldOk g pw ∧ ofD g pw = fdC g pw := by
  unfold ofE at h
  by_cases h1 : ckG g ≠ 0
  · rw [if_pos h1] at h; exact absurd h h1
  rw [if_neg h1] at h
  by_cases h2 : (pw.length : Int) ≠ g.co * g.ro
  · rw [if_pos h2] at h; cases h
  rw [if_neg h2, when_zero (by decide)] at h
  refine ⟨⟨(ckG_ok (Decidable.not_not.1 h1)).1, Decidable.not_not.1 h2, fun p hp => ?_⟩, ?_⟩
  · have := List.any_eq_false.1 h p hp
    unfold pwB at this
    simp [inR] at this
    omega
  · unfold ofD
    rw [if_neg h1, if_neg h2]
set_option maxRecDepth 100000 in
theorem around_p (g : Grd) (pw : List Int) (c : Int) : PC Tryz.prog 233 [.agg (fdC g pw), .v (.int .i64 (c))] (.fn (.func 266) [.pt [.v (.int .i64 (c))] 0, .pt (fdC g pw) 0]) := by
 refine pc_of_awp Tryz.func233 rfl Tryz.ntmps233 (rs := [.tmp 4]) Tryz.results233 (by simp) fun w0 => ?_
 refine awp_seq ?_
 refine awp_region 3 mixed (by kernel_rfl) ?_
 refine rg_q (q_box rfl (by exact .inr ⟨_, rfl⟩)) ?_
 refine rg_q (q_box rfl (by exact .inl rfl)) ?_
 refine rg_q (q_assign (x := .d (.v .nilFunc)) rfl) ?_
 refine rg_nil (aops_nil ?_)
 change Awp _ _ _ _ _
 refine awp_seq ?_
 refine awp_region 2 mixed (by kernel_rfl) ?_
 refine rg_q (q_makeFunc (.cons rfl (.cons rfl .nil))) ?_
 refine rg_q (q_assign (x := .d (.fn _ _)) rfl) ?_
 refine rg_nil (aops_nil ?_)
 change Awp _ _ _ _ _
 refine awp_ret ?_
 refine ⟨_, (.cons (.tmp (by exact .d _)) .nil), ?_⟩
 rfl

def arR (g : Grd) (c r : Int) (j : Nat) : List Int := ((List.range j).map fun q : Nat => r * g.co + (max 0 (c.tmod g.co - 1) + (q : Int))).filter fun n => decide (n ≠ c)
def arN (g : Grd) (c : Int) : Nat := (min (g.co - 1) (c.tmod g.co + 1) - max 0 (c.tmod g.co - 1) + 1).toNat
def arM (g : Grd) (c : Int) : Nat := (min (g.ro - 1) (c.tdiv g.co + 1) - max 0 (c.tdiv g.co - 1) + 1).toNat
def arF (g : Grd) (c : Int) (i : Nat) : List Int := (List.range i).flatMap fun p : Nat => arR g c (max 0 (c.tdiv g.co - 1) + (p : Int)) (arN g c)
theorem arR_succ {g : Grd} {c r : Int} {j : Nat} : arR g c r (j + 1) = arR g c r j ++ (if decide (r * g.co + (max 0 (c.tmod g.co - 1) + (j : Int)) ≠ c) = true then [r * g.co + (max 0 (c.tmod g.co - 1) + (j : Int))] else []) := by
  unfold arR
  rw [List.range_succ, List.map_append, List.filter_append]
  congr 1
  by_cases h : decide (r * g.co + (max 0 (c.tmod g.co - 1) + (j : Int)) ≠ c) = true
  · rw [if_pos h, List.map_singleton]; simp at h; simp [h]
  · rw [if_neg h, List.map_singleton]; simp at h; simp [h]
theorem arF_succ {g : Grd} {c : Int} {i : Nat} : arF g c (i + 1) = arF g c i ++ arR g c (max 0 (c.tdiv g.co - 1) + (i : Int)) (arN g c) := by unfold arF; rw [List.range_succ, List.flatMap_append]; simp
theorem arR_pre {g : Grd} {c r : Int} {j : Nat} : ∀ {n : Nat}, j ≤ n → arR g c r j <+: arR g c r n
  | 0, h => by have : j = 0 := by omega
               subst this; exact List.prefix_rfl
  | n + 1, h => by
    by_cases e : j = n + 1
    · subst e; exact List.prefix_rfl
    · rw [arR_succ]; exact (arR_pre (show j ≤ n by omega)).trans (List.prefix_append _ _)
theorem arF_pre {g : Grd} {c : Int} {i : Nat} : ∀ {m : Nat}, i ≤ m → arF g c i <+: arF g c m
  | 0, h => by have : i = 0 := by omega
               subst this; exact List.prefix_rfl
  | m + 1, h => by
    by_cases e : i = m + 1
    · subst e; exact List.prefix_rfl
    · rw [arF_succ]; exact (arF_pre (show i ≤ m by omega)).trans (List.prefix_append _ _)

theorem ar_pre {g : Grd} {c : Int} {i j : Nat} (hi : i < arM g c) (hj : j < arN g c) (hb : decide ((max 0 (c.tdiv g.co - 1) + (i : Int)) * g.co + (max 0 (c.tmod g.co - 1) + (j : Int)) ≠ c) = true) :
    arF g c i ++ arR g c (max 0 (c.tdiv g.co - 1) + (i : Int)) j ++ [(max 0 (c.tdiv g.co - 1) + (i : Int)) * g.co + (max 0 (c.tmod g.co - 1) + (j : Int))] <+: arF g c (arM g c) := by
  have e : arR g c (max 0 (c.tdiv g.co - 1) + (i : Int)) (j + 1) = arR g c (max 0 (c.tdiv g.co - 1) + (i : Int)) j ++ [(max 0 (c.tdiv g.co - 1) + (i : Int)) * g.co + (max 0 (c.tmod g.co - 1) + (j : Int))] := by rw [arR_succ, if_pos hb]
  rw [List.append_assoc, ← e]
  obtain ⟨t, ht⟩ := arR_pre (g := g) (c := c) (r := max 0 (c.tdiv g.co - 1) + (i : Int)) (show j + 1 ≤ arN g c by omega)
  refine List.IsPrefix.trans ?_ (arF_pre (show i + 1 ≤ arM g c by omega))
  rw [arF_succ, ← ht, ← List.append_assoc]
  exact List.prefix_append _ _
def encA (n : Int) : List D := [.v (.int .i64 n)]
theorem ar_bnd {g : Grd} (hg : GrdOk g) {c : Int} (h1 : 0 ≤ c) {i : Nat} (hi : (max 0 (c.tdiv g.co - 1) + (i : Int)) ≤ g.ro - 1) : 0 ≤ (max 0 (c.tdiv g.co - 1) + (i : Int)) * g.co ∧ (max 0 (c.tdiv g.co - 1) + (i : Int)) * g.co ≤ 1600 := by
  have c1 := hg.c1
  have c2 := hg.c2
  have r2 := hg.r2
  have h := mulb (a := max 0 (c.tdiv g.co - 1) + (i : Int)) (b := g.co) (A := 40) (B := 40) (by omega) (by omega) (by omega) (by omega)
  have := Int.mul_nonneg (show 0 ≤ max 0 (c.tdiv g.co - 1) + (i : Int) by omega) (show 0 ≤ g.co by omega)
  omega
set_option maxRecDepth 100000 in
theorem around_i (g : Grd) (pw : List Int) (ce : Int) (h : FldOk g pw) (h1 : 0 ≤ ce) (h2 : ce ≤ 10000) : PI Tryz.prog 266 [] [.pt [.v (.int .i64 (ce))] 0, .pt (fdC g pw) 0] (encA) (arF g ce (arM g ce)) true := by
  have hg := h.gr
  have hgg := hg
  obtain ⟨x1, x2, z1, z2, c1, c2, r1, r2, s1, s2⟩ := hgg
  obtain ⟨m1, m2⟩ := tmodP_in h1 c1
  obtain ⟨d1, d2⟩ := tdivP_in h1 c1
  have hM : arM g ce = (min (g.ro - 1) (ce.tdiv g.co + 1) - max 0 (ce.tdiv g.co - 1) + 1).toNat := rfl
  have hN : arN g ce = (min (g.co - 1) (ce.tmod g.co + 1) - max 0 (ce.tmod g.co - 1) + 1).toNat := rfl
  refine pi_of_iwp Tryz.func266 rfl Tryz.ntmps266 rfl rfl fun J c l0 hJ hy hdat hfin => ?_
  refine iwp_seq ?_
  apply iwp_reg hJ
  ·
    intro c1 hmine hrnd
    refine awp_region 14 mixed (by kernel_rfl) ?_
    refine rg_q (q_load sz3 rfl rfl) (rg_q (q_fieldAddr fld193_0 rfl) (rg_q (q_fieldAddr fld150_0 rfl) (rg_q (q_fieldAddr fld35_1 rfl) (rg_q (q_load sz3 rfl rfl) ?_))))
    refine rg_q (q_rem rfl rfl (by omega)) ?_
    refine rg_q (q_load sz3 rfl rfl) (rg_q (q_fieldAddr fld193_0 rfl) (rg_q (q_fieldAddr fld150_0 rfl) (rg_q (q_fieldAddr fld35_1 rfl) (rg_q (q_load sz3 rfl rfl) ?_))))
    refine rg_q (q_quo rfl rfl (by omega) (In64.mk (by omega) (by omega))) ?_
    refine rg_q (q_assign (x := .d (.v _)) rfl) (rg_q (q_assign (x := .d (.v _)) rfl) ?_)
    refine rg_nil (aops_nil ?_)
    exact ⟨rfl, rfl⟩
  change Iwp _ _ _ _ _ _ _
  refine iwp_seq ?_
  apply iwp_reg hJ
  ·
    intro c1 hmine hrnd
    refine awp_region 4 mixed (by kernel_rfl) ?_
    refine rg_q (q_move (x := .d (.v _)) rfl) ?_
    refine rg_q (q_sub rfl rfl (In64.mk (by omega) (by omega))) ?_
    refine rg_q (q_max rfl rfl) ?_
    refine rg_q (q_assign (x := .d (.v _)) rfl) ?_
    refine rg_nil (aops_nil ?_)
    exact ⟨rfl, rfl⟩
  change Iwp _ _ _ _ _ _ _
  refine iwp_block ?_
  refine iwp_loopH [6, 7, 8, 24, 25, 26, 27, 28, 29, 30, 31, 32, 33, 34, 35, 36, 37, 38, 39, 40, 41, 42, 43, 44, 45, 46, 47, 48, 49, 50, 51, 52, 53, 54, 55, 56, 57, 58, 59, 60, 61, 62, 63, 64, 65, 66, 67] [] (β := Nat) (fun i => [(6, T.i (max 0 (ce.tdiv g.co - 1) + (i : Int)))]) (fun i => []) (fun i => (true, arF g ce i)) (fun i => i ≤ arM g ce) (fun i => arM g ce - i) 0 (Nat.zero_le _) rfl (fun c1 => ?_) ?_
  · exact le_head (ms := []) (by repeat (exact Out.refl _)) ⟨(by (show T.i _ = T.i _; congr 1; omega)), trivial⟩ trivial rfl rfl rfl rfl
  ·
    intro i hi
    refine iwp_seq ?_
    refine iwp_seq ?_
    apply iwp_reg hJ
    ·
      intro c1 hmine hrnd
      refine awp_region 10 mixed (by kernel_rfl) ?_
      refine rg_q (q_move (x := .d (.v _)) rfl) (rg_q (q_fieldAddr fld193_0 rfl) (rg_q (q_fieldAddr fld150_0 rfl) (rg_q (q_fieldAddr fld35_2 rfl) (rg_q (q_load sz3 rfl rfl) ?_))))
      refine rg_q (q_sub rfl rfl (In64.mk (by omega) (by omega))) ?_
      refine rg_q (q_move (x := .d (.v _)) rfl) ?_
      refine rg_q (q_add rfl rfl (In64.mk (by omega) (by omega))) ?_
      refine rg_q (q_min rfl rfl) ?_
      refine rg_q (q_leq rfl rfl) ?_
      refine rg_nil (aops_nil ?_)
      exact ⟨rfl, rfl⟩
    change Iwp _ _ _ _ _ _ _
    refine iwp_cond rfl (fun hc2 => ?_) (fun hc2 => ?_)
    ·
      (try simp only [nb, ne_eq] at hc2)
      have hlt : i < arM g ce := by omega
      obtain ⟨hp1, hp2⟩ := ar_bnd hg h1 (i := i) (by omega)
      refine iwp_skip ?_
      change Iwp _ _ _ _ _ _ _
      refine iwp_seq ?_
      refine iwp_block ?_
      refine iwp_seq ?_
      apply iwp_reg hJ
      ·
        intro c1 hmine hrnd
        refine awp_region 4 mixed (by kernel_rfl) ?_
        refine rg_q (q_move (x := .d (.v _)) rfl) ?_
        refine rg_q (q_sub rfl rfl (In64.mk (by omega) (by omega))) ?_
        refine rg_q (q_max rfl rfl) ?_
        refine rg_q (q_assign (x := .d (.v _)) rfl) ?_
        refine rg_nil (aops_nil ?_)
        exact ⟨rfl, rfl⟩
      change Iwp _ _ _ _ _ _ _
      refine iwp_block ?_
      refine iwp_loopH [7, 8, 39, 40, 41, 42, 43, 44, 45, 46, 47, 48, 49, 50, 51, 52, 53, 54, 55, 56, 57, 58, 59, 60, 61, 62, 63, 64, 65, 66, 67] [] (β := Nat) (fun j => [(7, T.i (max 0 (ce.tmod g.co - 1) + (j : Int)))]) (fun j => []) (fun j => (true, arF g ce i ++ arR g ce (max 0 (ce.tdiv g.co - 1) + (i : Int)) j)) (fun j => j ≤ arN g ce) (fun j => arN g ce - j) 0 (Nat.zero_le _) (by show (true, _ ++ arR g ce _ 0) = (true, _); simp [arR]) (fun c1 => ?_) ?_
      · exact le_head (ms := []) (by repeat (exact Out.refl _)) ⟨(by (show T.i _ = T.i _; congr 1; omega)), trivial⟩ trivial rfl rfl rfl rfl
      ·
        intro j hj
        refine iwp_seq ?_
        refine iwp_seq ?_
        apply iwp_reg hJ
        ·
          intro c1 hmine hrnd
          refine awp_region 10 mixed (by kernel_rfl) ?_
          refine rg_q (q_move (x := .d (.v _)) rfl) (rg_q (q_fieldAddr fld193_0 rfl) (rg_q (q_fieldAddr fld150_0 rfl) (rg_q (q_fieldAddr fld35_1 rfl) (rg_q (q_load sz3 rfl rfl) ?_))))
          refine rg_q (q_sub rfl rfl (In64.mk (by omega) (by omega))) ?_
          refine rg_q (q_move (x := .d (.v _)) rfl) ?_
          refine rg_q (q_add rfl rfl (In64.mk (by omega) (by omega))) ?_
          refine rg_q (q_min rfl rfl) ?_
          refine rg_q (q_leq rfl rfl) ?_
          refine rg_nil (aops_nil ?_)
          exact ⟨rfl, rfl⟩
        change Iwp _ _ _ _ _ _ _
        refine iwp_cond rfl (fun hc5 => ?_) (fun hc5 => ?_)
        ·
          (try simp only [nb, ne_eq] at hc5)
          have hlj : j < arN g ce := by omega
          refine iwp_skip ?_
          change Iwp _ _ _ _ _ _ _
          refine iwp_seq ?_
          refine iwp_block ?_
          refine iwp_seq ?_
          apply iwp_reg hJ
          ·
            intro c1 hmine hrnd
            refine awp_region 9 mixed (by kernel_rfl) ?_
            refine rg_q (q_move (x := .d (.v _)) rfl) (rg_q (q_fieldAddr fld193_0 rfl) (rg_q (q_fieldAddr fld150_0 rfl) (rg_q (q_fieldAddr fld35_1 rfl) (rg_q (q_load sz3 rfl rfl) ?_))))
            refine rg_q (q_mul rfl rfl (In64.mk (by omega) (by omega))) ?_
            refine rg_q (q_move (x := .d (.v _)) rfl) ?_
            refine rg_q (q_add rfl rfl (In64.mk (by omega) (by omega))) ?_
            refine rg_q (q_assign (x := .d (.v _)) rfl) ?_
            refine rg_nil (aops_nil ?_)
            exact ⟨rfl, rfl⟩
          change Iwp _ _ _ _ _ _ _
          refine iwp_seq ?_
          refine iwp_region ?_
          refine iops_of hJ rfl (fun c1 _ _ _ h => by exact aops_q rfl ((q_move (x := .d (.v _)) rfl)) h) ?_
          refine iops_of hJ rfl (fun c1 _ _ _ h => by exact aops_q rfl ((q_load sz3 rfl rfl)) h) ?_
          refine iops_of hJ rfl (fun c1 _ _ _ h => by exact aops_q rfl ((q_neq rfl rfl)) h) ?_
          refine iops_of hJ rfl (fun c1 _ _ _ h => by exact aops_q rfl ((q_move (x := .d (.v _)) rfl)) h) ?_
          rcases Bool.eq_false_or_eq_true (decide ((max 0 (ce.tdiv g.co - 1) + (i : Int)) * g.co + (max 0 (ce.tmod g.co - 1) + (j : Int)) ≠ ce)) with hb | hb
          ·
            refine iops_g hJ rfl (congrArg T.bool hb) rfl (by intro d hd; cases hd; exact (by decide : (63 : Nat) < 68)) (fun c1 => ((q_move (x := .d (.fn _ _)) rfl))) ?_
            refine iops_g hJ rfl (congrArg T.bool hb) rfl (by intro d hd; cases hd; exact (by decide : (64 : Nat) < 68)) (fun c1 => ((q_move (x := .d (.v _)) rfl))) ?_
            refine iops_yieldG (x := (max 0 (ce.tdiv g.co - 1) + (i : Int)) * g.co + (max 0 (ce.tmod g.co - 1) + (j : Int))) rfl (congrArg T.bool hb) rfl hy hdat rfl (.cons rfl .nil) (ar_pre hlt hlj hb) rfl (fun yb => ?_)
            refine iops_g hJ rfl (congrArg T.bool hb) rfl (by intro d hd; cases hd; exact (by decide : (66 : Nat) < 68)) (fun c1 => ((q_not rfl))) ?_
            refine iops_of hJ rfl (fun c1 _ _ _ h => by exact aops_q rfl ((q_pick rfl rfl rfl)) h) ?_
            refine iops_nil ?_
            change Iwp _ _ _ _ _ _ _
            refine iwp_cond rfl (fun hc8 => ?_) (fun hc8 => ?_)
            ·
              (try simp only [nb, ne_eq] at hc8)
              have hyb : yb = false := by cases yb <;> first | rfl | (exfalso; simp_all; done)
              refine iwp_ret ?_
              exact ⟨.inl rfl, fun h => by rw [hyb] at h; cases h⟩
            ·
              (try simp only [nb, ne_eq] at hc8)
              have hyb : yb = true := by cases yb <;> first | rfl | (exfalso; simp_all; done)
              refine iwp_skip ?_
              change Iwp _ _ _ _ _ _ _
              apply iwp_reg hJ
              ·
                intro c1 hmine hrnd
                refine awp_region 3 mixed (by kernel_rfl) ?_
                refine rg_q (q_move (x := .d (.v _)) rfl) ?_
                refine rg_q (q_add rfl rfl (In64.mk (by omega) (by omega))) ?_
                refine rg_q (q_assign (x := .d (.v _)) rfl) ?_
                refine rg_nil (aops_nil ?_)
                exact ⟨rfl, rfl⟩
              refine ⟨j + 1, by omega, by omega, by rw [hyb, arR_succ, if_pos hb, List.append_assoc], fun c1 => ?_⟩
              exact le_head (ms := []) (by repeat (first | exact Out.head rfl rfl | (refine Out.put ?_ rfl))) ⟨(by (show T.i _ = T.i _; congr 1; omega)), trivial⟩ trivial rfl rfl rfl rfl
          ·
            refine iops_skip (g := false) (b := true) rfl rfl (congrArg T.bool hb) rfl rfl (by intro d hd; cases hd; exact (by decide : (63 : Nat) < 68)) ?_
            refine iops_skip (g := false) (b := true) rfl rfl (congrArg T.bool hb) rfl rfl (by intro d hd; cases hd; exact (by decide : (64 : Nat) < 68)) ?_
            refine iops_skip (g := false) (b := true) rfl rfl (congrArg T.bool hb) rfl rfl (by intro d hd; cases hd; exact (by decide : (65 : Nat) < 68)) ?_
            refine iops_skip (g := false) (b := true) rfl rfl (congrArg T.bool hb) rfl rfl (by intro d hd; cases hd; exact (by decide : (66 : Nat) < 68)) ?_
            refine iops_of hJ rfl (fun c1 _ _ _ h => by exact aops_q rfl (q_pickF (congrArg T.bool hb) rfl) h) ?_
            refine iops_nil ?_
            change Iwp _ _ _ _ _ _ _
            refine iwp_cond rfl (fun hc8 => ?_) (fun hc8 => ?_)
            ·
              exfalso; (try simp only [nb, ne_eq] at hc8); simp_all
            ·
              (try simp only [nb, ne_eq] at hc8)
              refine iwp_skip ?_
              change Iwp _ _ _ _ _ _ _
              apply iwp_reg hJ
              ·
                intro c1 hmine hrnd
                refine awp_region 3 mixed (by kernel_rfl) ?_
                refine rg_q (q_move (x := .d (.v _)) rfl) ?_
                refine rg_q (q_add rfl rfl (In64.mk (by omega) (by omega))) ?_
                refine rg_q (q_assign (x := .d (.v _)) rfl) ?_
                refine rg_nil (aops_nil ?_)
                exact ⟨rfl, rfl⟩
              refine ⟨j + 1, by omega, by omega, by rw [arR_succ, if_neg (by rw [hb]; decide), List.append_nil], fun c1 => ?_⟩
              exact le_head (ms := []) (by repeat (first | exact Out.head rfl rfl | (refine Out.put ?_ rfl))) ⟨(by (show T.i _ = T.i _; congr 1; omega)), trivial⟩ trivial rfl rfl rfl rfl
        ·
          (try simp only [nb, ne_eq] at hc5)
          have hjn : j = arN g ce := by omega
          refine iwp_exit ?_
          change Iwp _ _ _ _ _ _ _
          apply iwp_reg hJ
          ·
            intro c1 hmine hrnd
            refine awp_region 3 mixed (by kernel_rfl) ?_
            refine rg_q (q_move (x := .d (.v _)) rfl) ?_
            refine rg_q (q_add rfl rfl (In64.mk (by omega) (by omega))) ?_
            refine rg_q (q_assign (x := .d (.v _)) rfl) ?_
            refine rg_nil (aops_nil ?_)
            exact ⟨rfl, rfl⟩
          refine ⟨i + 1, by omega, by omega, by rw [hjn, arF_succ], fun c1 => ?_⟩
          exact le_head (ms := []) (by repeat (first | exact Out.head rfl rfl | (refine Out.put ?_ rfl) | (refine Out.headIn ?_ rfl rfl rfl))) ⟨(by (show T.i _ = T.i _; congr 1; omega)), trivial⟩ trivial rfl rfl rfl rfl
    ·
      (try simp only [nb, ne_eq] at hc2)
      have him : i = arM g ce := by omega
      refine iwp_exit ?_
      exact ⟨.inr rfl, fun _ => by rw [him]⟩
end Go.Proofs.YtphlaicnmmglhaaGreat.Am.M
