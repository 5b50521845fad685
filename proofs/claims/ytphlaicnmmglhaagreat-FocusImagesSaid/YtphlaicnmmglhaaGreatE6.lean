/- Contracts over the abstract machine: package focus: cells and pairs of an open task. Conditions: none. -/
import Derived.Test.YtphlaicnmmglhaaGreatE5
set_option linter.unusedVariables false
set_option linter.unusedSimpArgs false
-- mini
namespace Go.Proofs.YtphlaicnmmglhaaGreat.Am.M
open Go

def oprE (t : Tsk) (c : Int) (pr : Int × Int) : Int := firstE [clE t.g c, whenI (!inR 0 pr.1 (t.ne - 1) || !inR 0 pr.2 (t.ne - 1)) 6]
theorem oprE_zero {t : Tsk} {c : Int} (h : 1 ≤ t.ne) : oprE t c (0, 0) = clE t.g c := by
  have e : inR 0 (0 : Int) (t.ne - 1) = true := inR_iff.2 ⟨by omega, by omega⟩
  unfold oprE
  rw [e]
  show (if clE t.g c = 0 then firstE [0] else clE t.g c) = _
  split
  · rename_i q; rw [q]; rfl
  · rfl
theorem clE_ok {g : Grd} {c : Int} (h : clE g c = 0) : 0 ≤ c ∧ c ≤ g.co * g.ro - 1 := by
  unfold clE at h
  rw [when_zero (by decide), Bool.not_eq_false'] at h
  exact inR_iff.1 h
theorem sp_last {g : Grd} (hg : GrdOk g) : spI g (g.co * g.ro - 1) = (g.fx + (g.co - 1) * g.st, g.fz + (g.ro - 1) * g.st) := by
  have hc := hg.c1
  have hr := hg.r1
  have hci := (cells_in hg).1
  have e : g.co * g.ro - 1 = (g.co - 1) + (g.ro - 1) * g.co := by grind
  unfold spI
  rw [Int.tmod_eq_emod_of_nonneg (by omega), Int.tdiv_eq_ediv_of_nonneg (by omega), e, Int.add_mul_emod_self_right, Int.emod_eq_of_lt (by omega) (by omega), Int.add_mul_ediv_right _ _ (by omega), Int.ediv_eq_zero_of_lt (by omega) (by omega), Int.zero_add]
theorem sp_in {t : Tsk} (h : TskOk t) {c : Int} (h1 : 0 ≤ c) (h2 : c ≤ t.g.co * t.g.ro - 1) : (-100000 ≤ (spI t.g c).1 ∧ (spI t.g c).1 ≤ 100000) ∧ (-100000 ≤ (spI t.g c).2 ∧ (spI t.g c).2 ≤ 100000) ∧ 1 ≤ (spI t.g c).2 ∧ (spI t.g c).2 ≤ t.ar.ou.t - 1 := by
  obtain ⟨hg, hg1, hg2⟩ := ckG_ok h.gr
  have z1 := h.z1
  have z4 := h.z4
  rw [sp_last hg] at hg1 hg2 z4
  simp only at hg1 hg2 z4
  obtain ⟨x1, x2, w1, w2, c1, c2, r1, r2, s1, s2⟩ := hg
  obtain ⟨m1, m2⟩ := tmodP_in h1 c1
  obtain ⟨d1, d2⟩ := tdivP_in h1 c1
  have d3 : c.tdiv t.g.co ≤ t.g.ro - 1 := by
    rw [Int.tdiv_eq_ediv_of_nonneg h1]
    have := Int.ediv_lt_of_lt_mul (a := c) (b := t.g.ro) (c := t.g.co) (by omega) (by rw [Int.mul_comm]; omega)
    omega
  have a1 := Int.mul_le_mul_of_nonneg_right (show c.tmod t.g.co ≤ t.g.co - 1 by omega) (show 0 ≤ t.g.st by omega)
  have a2 := Int.mul_le_mul_of_nonneg_right d3 (show 0 ≤ t.g.st by omega)
  have a3 := Int.mul_nonneg m1 (show 0 ≤ t.g.st by omega)
  have a4 := Int.mul_nonneg d1 (show 0 ≤ t.g.st by omega)
  unfold spI
  simp only
  omega
theorem op_zero {t : Tsk} (h : TskOk t) {c : Int} {pr : Int × Int} (hc : clE t.g c = 0) (hp : (0 ≤ pr.1 ∧ pr.1 < t.ne) ∧ 0 ≤ pr.2 ∧ pr.2 < t.ne) : opE t.ar (spI t.g c) pr = 0 := by
  obtain ⟨c1, c2⟩ := clE_ok hc
  obtain ⟨i1, i2, i3, i4⟩ := sp_in h c1 c2
  have hel := h.el
  unfold opE
  rw [if_neg (fun q => q h.ck)]
  refine first_zero.2 ?_
  simp only [List.mem_cons, List.not_mem_nil, or_false, forall_eq_or_imp, forall_eq]
  refine ⟨spot_ok.2 ⟨i1, i2⟩, (must_zero (by decide)).2 (inR_iff.2 ⟨i3, i4⟩), ?_⟩
  unfold pairE
  rw [hel, when_zero (by decide), inR_iff.2 ⟨hp.1.1, by omega⟩, inR_iff.2 ⟨hp.2.1, by omega⟩]; rfl
set_option maxRecDepth 100000 in
theorem openPair_p (t : Tsk) (c : Int) (pr : Int × Int) (h : TskOk t) : PC Tryz.prog 108 [.agg (tskC t), .v (.int .i64 (c)), .agg (shC pr)] (.tup [.pt (tkC t) 0, .v (.int .i64 (oprE t c pr))]) := by
 have hn1 := h.n1
 have hn2 := h.n2
 obtain ⟨hg, _, _⟩ := ckG_ok h.gr
 refine pc_of_awpN Tryz.func108 rfl Tryz.ntmps108 (rs := [.tmp 6, .tmp 7]) Tryz.results108 (by simp) fun w0 hmine hrnd hpn => ?_
 refine awp_seq ?_
 refine awp_region 4 mixed (by kernel_rfl) ?_
 refine rg_q (q_box rfl (by exact .inr ⟨_, rfl⟩)) ?_
 refine rg_q (q_box rfl (by exact .inr ⟨_, rfl⟩)) ?_
 refine rg_q (q_assign (x := .d (.v _)) rfl) (rg_q (q_assign (x := .d (.v _)) rfl) ?_)
 refine rg_nil (aops_nil ?_)
 change Awp _ _ _ _ _
 refine awp_seq ?_
 refine awp_region 7 mixed (by kernel_rfl) ?_
 refine rg_q (q_loadA sz37 rfl rfl rfl) ?_
 refine rg_q (q_call en112 (.cons rfl .nil) rfl (open_p t h)) ?_
 refine rg_q (q_move (x := .d (.tup _)) rfl) (rg_q (q_extract rfl rfl) (rg_q (q_extract rfl rfl) (rg_q (q_assign (x := .d (.pt _ _)) rfl) (rg_q (q_assign (x := .d (.v _)) rfl) ?_))))
 refine rg_nil (aops_nil ?_)
 change Awp _ _ _ _ _
 refine awp_seq ?_
 refine awp_seq ?_
 refine awp_region 2 mixed (by kernel_rfl) ?_
 refine rg_q (q_move (x := .d (.v _)) rfl) (rg_q (q_neq rfl rfl) ?_)
 refine rg_nil (aops_nil ?_)
 change Awp _ _ _ _ _
 refine awp_cond rfl (fun hc2 => ?_) (fun hc2 => ?_)
 ·
  simp at hc2
 ·
  (try simp only [nb, ne_eq] at hc2)
  refine awp_skip ?_
  change Awp _ _ _ _ _
  refine awp_seq ?_
  refine awp_region 6 mixed (by kernel_rfl) ?_
  refine rg_q (q_move (x := .d (.pt _ _)) rfl) (rg_q (q_nilCheck rfl) (rg_q (q_fieldAddr fld202_2 rfl) (rg_q (q_load sz3 rfl rfl) ?_)))
  refine rg_q (q_sub rfl rfl (In64.mk (by omega) (by omega))) ?_
  refine rg_q (q_assign (x := .d (.v _)) rfl) ?_
  refine rg_nil (aops_nil ?_)
  change Awp _ _ _ _ _
  refine awp_seq ?_
  refine awp_region 24 mixed (by kernel_rfl) ?_
  refine rg_q (q_move (x := .d (.pt _ _)) rfl) (rg_q (q_move (x := .d (.pt _ _)) rfl) (rg_q (q_nilCheck rfl) (rg_q (q_fieldAddr fld202_0 rfl) ?_)))
  refine rg_q (q_loadA (ds := [_, _, _, _, _]) sz150 rfl rfl rfl) ?_
  refine rg_q (q_move (x := .d (.v _)) rfl) ?_
  refine rg_q (q_call en118 (.cons rfl (.cons rfl .nil)) rfl (fcellErr_p t.g c hg)) ?_
  refine rg_q (q_indexAddr_ar ar63 rfl rfl (by omega) (by omega)) ?_
  refine rg_q (q_load sz3 rfl rfl) (rg_q (q_move (x := .d (.v _)) rfl) ?_)
  refine rg_q (q_call en89 (.cons rfl (.cons rfl (.cons rfl .nil))) rfl (fwithin_p _ _ _)) ?_
  refine rg_q (q_not rfl) (rg_q (q_move (x := .d (.v _)) rfl) ?_)
  refine rg_g rfl rfl (fun hG => (q_indexAddr_ar ar63 rfl rfl (by (have hg0 := T.bool_inj (a := _) hG.1; (try simp only [nb, ne_eq] at hg0); omega)) (by (have hg0 := T.bool_inj (a := _) hG.1; (try simp only [nb, ne_eq] at hg0); omega)))) ?_
  refine rg_g rfl rfl (fun hG => (q_load sz3 rfl rfl)) ?_
  refine rg_g rfl rfl (fun hG => (q_move (x := .d (.v _)) rfl)) ?_
  refine rg_g rfl rfl (fun hG => (q_call en89 (.cons rfl (.cons rfl (.cons rfl .nil))) rfl (fwithin_p _ _ _))) ?_
  refine rg_g rfl rfl (fun hG => (q_not rfl)) ?_
  refine rg_pick rfl rfl rfl rfl rfl rfl ?_
  refine rg_q (q_call en88 (.cons rfl (.cons rfl .nil)) rfl (fwhen_p _ _)) ?_
  refine rg_q (q_buildSlice sl282 zr40 rfl rfl (by decide) (.cons rfl (by exact .inl rfl) (.cons rfl (by exact .inl rfl) .nil)) ⟨rfl, rfl, rfl, rfl, trivial⟩ rfl (by decide) rfl) ?_
  refine rg_q (q_call en117 (.cons rfl .nil) rfl (ffirst_p [_, _])) ?_
  refine rg_q (q_assign (x := .d (.pt _ _)) rfl) (rg_q (q_assign (x := .d (.v _)) rfl) ?_)
  refine rg_nil (aops_nil ?_)
  change Awp _ _ _ _ _
  refine awp_ret ?_
  refine ⟨_, (.cons (.tmp (by exact .d _)) (.cons (.tmp (by exact .d _)) .nil)), ?_⟩
  unfold oprE; (try simp only [bif_or]); rfl
set_option maxRecDepth 100000 in
theorem openCell_p (t : Tsk) (c : Int) (h : TskOk t) : PC Tryz.prog 94 [.agg (tskC t), .v (.int .i64 (c))] (.tup [.pt (tkC t) 0, .v (.int .i64 (clE t.g c))]) := by
 have hz := oprE_zero (t := t) (c := c) h.n1
 refine pc_of_awpN Tryz.func94 rfl Tryz.ntmps94 (rs := [.tmp 4, .tmp 5]) Tryz.results94 (by simp) fun w0 hmine hrnd hpn => ?_
 refine awp_seq ?_
 refine awp_region 3 mixed (by kernel_rfl) ?_
 refine rg_q (q_box rfl (by exact .inr ⟨_, rfl⟩)) ?_
 refine rg_q (q_assign (x := .d (.v _)) rfl) (rg_q (q_assign (x := .d (.v _)) rfl) ?_)
 refine rg_nil (aops_nil ?_)
 change Awp _ _ _ _ _
 refine awp_seq ?_
 refine awp_region 8 mixed (by kernel_rfl) ?_
 refine rg_q (q_loadA sz37 rfl rfl rfl) ?_
 refine rg_q (q_move (x := .d (.v _)) rfl) ?_
 refine rg_q (q_buildA (cs := [_, _]) ar63 zr63 rfl .nil trivial rfl) ?_
 refine rg_q (q_call en108 (.cons rfl (.cons rfl (.cons rfl .nil))) rfl ((by have h := openPair_p t c (0, 0) h; rw [hz] at h; exact h))) ?_
 refine rg_q (q_extract rfl rfl) (rg_q (q_extract rfl rfl) (rg_q (q_assign (x := .d (.pt _ _)) rfl) (rg_q (q_assign (x := .d (.v _)) rfl) ?_)))
 refine rg_nil (aops_nil ?_)
 change Awp _ _ _ _ _
 refine awp_ret ?_
 refine ⟨_, (.cons (.tmp (by exact .d _)) (.cons (.tmp (by exact .d _)) .nil)), ?_⟩
 rfl

def allL (n : Nat) : List Int := (List.range n).map fun i : Nat => (i : Int)
theorem allL_succ (n : Nat) : allL (n + 1) = allL n ++ [(n : Int)] := by unfold allL; rw [List.range_succ, List.map_append]; rfl
theorem allL_len (n : Nat) : (allL n).length = n := by unfold allL; rw [List.length_map, List.length_range]
theorem allL_in {n : Nat} {i : Int} (h : i ∈ allL n) : 0 ≤ i ∧ i < n := by
  unfold allL at h
  obtain ⟨k, hk, rfl⟩ := List.mem_map.1 h
  have := List.mem_range.1 hk
  omega
set_option maxRecDepth 100000 in
theorem all_p (t : Tsk) (h1 : 1 ≤ t.ne) (h2 : t.ne ≤ 16) : PC Tryz.prog 96 [.pt (tkC t) 0] (.sl 1 ((allL t.ne.toNat).map iC)) := by
 refine pc_of_awpN Tryz.func96 rfl Tryz.ntmps96 (rs := [.tmp 2]) Tryz.results96 (by simp) fun w0 hmine hrnd hpn => ?_
 refine awp_seq ?_
 refine awp_region 1 mixed (by kernel_rfl) ?_
 refine rg_q (q_assign (x := .d (.sl _ _)) rfl) ?_
 refine rg_nil (aops_nil ?_)
 change Awp _ _ _ _ _
 refine awp_seq ?_
 refine awp_region 1 mixed (by kernel_rfl) ?_
 refine rg_q (q_assign_nil) ?_
 refine rg_nil (aops_nil ?_)
 change Awp _ _ _ _ _
 refine Awp.le (le_own (k := 3) (e := 3) (sz := 1) rfl rfl) ?_
 refine awp_seq ?_
 refine awp_seq ?_
 refine awp_region 5 mixed (by kernel_rfl) ?_
 refine rg_q (q_move (x := .d (.pt _ _)) rfl) (rg_q (q_nilCheck rfl) (rg_q (q_fieldAddr fld202_2 rfl) (rg_q (q_load sz3 rfl rfl) (rg_q (q_move (x := .d (.v _)) rfl) ?_))))
 refine rg_nil (aops_nil ?_)
 change Awp _ _ _ _ _
 refine awp_block ?_
 refine awp_loopH [3, 4, 9, 10, 11, 12, 13, 14, 15, 16] [3] (α := Nat) (fun k => [(9, T.i (k : Int)), (3, .rs 3)]) (fun k => [(3, .row 3 1 ((allL k).map iC))]) (fun k => k ≤ t.ne.toNat) (fun k => t.ne.toNat - k) 0 (Nat.zero_le _) ?_ ?_
 · exact le_head (ms := [3]) (by repeat (exact Out.refl _)) ⟨(by rfl), (by rfl), trivial⟩ ⟨(by rfl), trivial⟩ rfl rfl rfl rfl
 ·
  intro k hk
  have hal := allL_len k
  refine awp_seq ?_
  refine awp_region 1 mixed (by kernel_rfl) ?_
  refine rg_q (q_lss rfl rfl) ?_
  refine rg_nil (aops_nil ?_)
  change Awp _ _ _ _ _
  refine awp_seq ?_
  refine awp_cond rfl (fun hc3 => ?_) (fun hc3 => ?_)
  ·
   (try simp only [nb, ne_eq] at hc3)
   have hsk : (allL (k + 1)).map iC = (allL k).map iC ++ [[.v (.int .i64 (k : Int))]] := by rw [allL_succ, List.map_append]; rfl
   refine awp_skip ?_
   change Awp _ _ _ _ _
   refine awp_seq ?_
   refine awp_block ?_
   refine awp_seq ?_
   refine awp_region 2 mixed (by kernel_rfl) ?_
   refine rg_q (q_move (x := .d (.v _)) rfl) (rg_q (q_assign (x := .d (.v _)) rfl) ?_)
   refine rg_nil (aops_nil ?_)
   change Awp _ _ _ _ _
   refine awp_region 3 mixed (by kernel_rfl) ?_
   refine rg_q (q_move (x := .rs _) rfl) (rg_q (q_move (x := .d (.v _)) rfl) ?_)
   refine rg_q (q_buildSlice sl77 zr3 rfl rfl (by decide) (.cons rfl (by exact .inl rfl) .nil) ⟨rfl, rfl, trivial⟩ rfl (by decide) rfl) ?_
   refine rg_nil ?_
   refine aops_append sl77 zr3 by3 rfl (by decide) rfl rfl rfl rfl (by (try simp only [List.length_map, List.length_append, List.length_cons, List.length_nil]); omega) (by (try simp only [List.length_map, List.length_append, List.length_cons, List.length_nil]); omega) rfl rfl ?_
   refine aops_q rfl (q_assign (x := .rs _) rfl) ?_
   refine aops_nil ?_
   change Awp _ _ _ _ _
   refine awp_region 2 mixed (by kernel_rfl) ?_
   refine rg_q (q_add rfl rfl (In64.mk (by omega) (by omega))) ?_
   refine rg_q (q_move (x := .d (.v _)) rfl) ?_
   refine rg_nil (aops_nil ?_)
   refine ⟨k + 1, by omega, by omega, ?_⟩
   exact le_head (ms := [3]) (by repeat (first | exact Out.head rfl rfl | (refine Out.put ?_ rfl) | (refine Out.site ?_ rfl) | (refine Out.killS ?_ rfl))) ⟨(by rfl), (by rfl), trivial⟩ ⟨(by ((show Site.row 3 1 _ = Site.row 3 1 _; rw [hsk]; rfl))), trivial⟩ rfl rfl rfl rfl
  ·
   (try simp only [nb, ne_eq] at hc3)
   have hkn : k = t.ne.toNat := by omega
   subst hkn
   refine awp_exit ?_
   change Awp _ _ _ _ _
   refine awp_seq ?_
   refine awp_region 2 mixed (by kernel_rfl) ?_
   refine rg_q (q_move (x := .rs _) rfl) (rg_q (q_assign (x := .rs _) rfl) ?_)
   refine rg_nil (aops_nil ?_)
   change Awp _ _ _ _ _
   refine awp_ret ?_
   refine ⟨_, (.cons (.tmp (by exact .rs rfl)) .nil), ?_⟩
   rfl
set_option maxRecDepth 100000 in
theorem nearest_p (t : Tsk) (tm : Int) (h : ArrOk t.ar) (h1 : -1000000000000 ≤ tm) (h2 : tm ≤ 1000000000000) : PC Tryz.prog 173 [.pt (tkC t) 0, .v (.int .i64 (tm))] (.v (.int .i64 (rndI (tm - t.ar.ts.1) t.ar.ts.2))) := by
 obtain ⟨_, _, _, _, _, _, t1, t2, t3, t4⟩ := h
 have hq := tdiv_sm (a := 2 * (tm - t.ar.ts.1) + t.ar.ts.2) (b := 2 * t.ar.ts.2) ⟨by omega, by omega⟩ (by omega)
 obtain ⟨h5, h6⟩ := hq
 have hl := floor_law (n := 2 * (tm - t.ar.ts.1) + t.ar.ts.2) (b := 2 * t.ar.ts.2) (by omega)
 refine pc_of_awp Tryz.func173 rfl Tryz.ntmps173 (rs := [.tmp 4]) Tryz.results173 (by simp) fun w0 => ?_
 refine awp_seq ?_
 refine awp_region 1 mixed (by kernel_rfl) ?_
 refine rg_q (q_assign (x := .d (.v _)) rfl) ?_
 refine rg_nil (aops_nil ?_)
 change Awp _ _ _ _ _
 refine awp_seq ?_
 refine awp_region 25 mixed (by kernel_rfl) ?_
 refine rg_q (q_move (x := .d (.v _)) rfl) (rg_q (q_move (x := .d (.pt _ _)) rfl) (rg_q (q_nilCheck rfl) (rg_q (q_fieldAddr fld202_1 rfl) (rg_q (q_fieldAddr fld28_3 rfl) (rg_q (q_fieldAddr fld26_0 rfl) ?_)))))
 refine rg_q (q_load sz3 rfl rfl) ?_
 refine rg_q (q_sub rfl rfl (In64.mk (by omega) (by omega))) ?_
 refine rg_q (q_mul rfl rfl (In64.mk (by omega) (by omega))) ?_
 refine rg_q (q_move (x := .d (.pt _ _)) rfl) (rg_q (q_nilCheck rfl) (rg_q (q_fieldAddr fld202_1 rfl) (rg_q (q_fieldAddr fld28_3 rfl) (rg_q (q_fieldAddr fld26_1 rfl) (rg_q (q_load sz3 rfl rfl) ?_)))))
 refine rg_q (q_add rfl rfl (In64.mk (by omega) (by omega))) ?_
 refine rg_q (q_move (x := .d (.pt _ _)) rfl) (rg_q (q_nilCheck rfl) (rg_q (q_fieldAddr fld202_1 rfl) (rg_q (q_fieldAddr fld28_3 rfl) (rg_q (q_fieldAddr fld26_1 rfl) (rg_q (q_load sz3 rfl rfl) ?_)))))
 refine rg_q (q_mul rfl rfl (In64.mk (by omega) (by omega))) ?_
 refine rg_q (q_assign (x := .d (.v _)) rfl) (rg_q (q_assign (x := .d (.v _)) rfl) ?_)
 refine rg_nil (aops_nil ?_)
 change Awp _ _ _ _ _
 refine awp_seq ?_
 refine awp_region 4 mixed (by kernel_rfl) ?_
 refine rg_q (q_move (x := .d (.v _)) rfl) (rg_q (q_move (x := .d (.v _)) rfl) ?_)
 refine rg_q (q_quo rfl rfl (by omega) (In64.mk (by omega) (by omega))) ?_
 refine rg_q (q_assign (x := .d (.v _)) rfl) ?_
 refine rg_nil (aops_nil ?_)
 change Awp _ _ _ _ _
 refine awp_seq ?_
 refine awp_seq ?_
 refine awp_region 4 mixed (by kernel_rfl) ?_
 refine rg_q (q_move (x := .d (.v _)) rfl) (rg_q (q_move (x := .d (.v _)) rfl) ?_)
 refine rg_q (q_rem rfl rfl (by omega)) ?_
 refine rg_q (q_lss rfl rfl) ?_
 refine rg_nil (aops_nil ?_)
 change Awp _ _ _ _ _
 refine awp_cond rfl (fun hc3 => ?_) (fun hc3 => ?_)
 ·
  (try simp only [nb, ne_eq] at hc3)
  rw [if_pos hc3] at hl
  refine awp_region 3 mixed (by kernel_rfl) ?_
  refine rg_q (q_move (x := .d (.v _)) rfl) ?_
  refine rg_q (q_sub rfl rfl (In64.mk (by omega) (by omega))) ?_
  refine rg_q (q_assign (x := .d (.v _)) rfl) ?_
  refine rg_nil (aops_nil ?_)
  change Awp _ _ _ _ _
  refine awp_seq ?_
  refine awp_region 2 mixed (by kernel_rfl) ?_
  refine rg_q (q_move (x := .d (.v _)) rfl) (rg_q (q_assign (x := .d (.v _)) rfl) ?_)
  refine rg_nil (aops_nil ?_)
  change Awp _ _ _ _ _
  refine awp_ret ?_
  refine ⟨_, (.cons (.tmp (by exact .d _)) .nil), ?_⟩
  unfold rndI; rw [← hl]; rfl
 ·
  (try simp only [nb, ne_eq] at hc3)
  rw [if_neg (by omega)] at hl
  refine awp_skip ?_
  change Awp _ _ _ _ _
  refine awp_seq ?_
  refine awp_region 2 mixed (by kernel_rfl) ?_
  refine rg_q (q_move (x := .d (.v _)) rfl) (rg_q (q_assign (x := .d (.v _)) rfl) ?_)
  refine rg_nil (aops_nil ?_)
  change Awp _ _ _ _ _
  refine awp_ret ?_
  refine ⟨_, (.cons (.tmp (by exact .d _)) .nil), ?_⟩
  unfold rndI; rw [← hl]; rfl
set_option maxRecDepth 100000 in
theorem number_p (t : Tsk) (c : Int) (pr : Int × Int) (h : TskOk t) (hc : clE t.g c = 0) (hp : (0 ≤ pr.1 ∧ pr.1 < t.ne) ∧ 0 ≤ pr.2 ∧ pr.2 < t.ne) : PC Tryz.prog 109 [.pt (tkC t) 0, .v (.int .i64 (c)), .agg (shC pr)] (.tup [.v (.int .i64 (smpI t.ar (spI t.g c) pr)), .v (.bool (inR 0 (smpI t.ar (spI t.g c) pr) 60))]) := by
 obtain ⟨hg, _, _⟩ := ckG_ok h.gr
 obtain ⟨c1, c2⟩ := clE_ok hc
 have hci := cells_in hg
 obtain ⟨hao, _⟩ := ckArr_ok h.ck
 have ho := op_zero h hc hp
 have he : echR t.ar (spI t.g c) pr = (echI t.ar (spI t.g c) pr, 0) := by unfold echR; rw [if_neg (fun q => q ho)]
 have hei := ech_in t.ar (spI t.g c) pr
 refine pc_of_awpN Tryz.func109 rfl Tryz.ntmps109 (rs := [.tmp 6, .tmp 7]) Tryz.results109 (by simp) fun w0 hmine hrnd hpn => ?_
 refine awp_seq ?_
 refine awp_region 3 mixed (by kernel_rfl) ?_
 refine rg_q (q_box rfl (by exact .inr ⟨_, rfl⟩)) ?_
 refine rg_q (q_assign (x := .d (.v _)) rfl) (rg_q (q_assign (x := .d (.v _)) rfl) ?_)
 refine rg_nil (aops_nil ?_)
 change Awp _ _ _ _ _
 refine awp_seq ?_
 refine awp_region 17 mixed (by kernel_rfl) ?_
 refine rg_q (q_move (x := .d (.pt _ _)) rfl) (rg_q (q_nilCheck rfl) (rg_q (q_fieldAddr fld202_1 rfl) ?_))
 refine rg_q (q_loadA (ds := [_, _, _, _, _, _, _, _, _, _, _]) sz28 rfl rfl rfl) ?_
 refine rg_q (q_move (x := .d (.pt _ _)) rfl) (rg_q (q_nilCheck rfl) (rg_q (q_fieldAddr fld202_0 rfl) ?_))
 refine rg_q (q_loadA (ds := [_, _, _, _, _]) sz150 rfl rfl rfl) ?_
 refine rg_q (q_move (x := .d (.v _)) rfl) ?_
 refine rg_q (q_call en90 (.cons rfl (.cons rfl .nil)) rfl (fspot_p t.g c hg c1 (by omega))) ?_
 refine rg_q (q_loadA (ds := [_, _]) sz63 rfl rfl rfl) ?_
 refine rg_q (q_call en178 (.cons rfl (.cons rfl (.cons rfl .nil))) rfl ((by have h := echoAt_p t.ar (spI t.g c) pr; rw [he] at h; exact h))) ?_
 refine rg_q (q_move (x := .d (.tup _)) rfl) (rg_q (q_extract rfl rfl) (rg_q (q_extract rfl rfl) (rg_q (q_assign (x := .d (.v _)) rfl) (rg_q (q_assign (x := .d (.v _)) rfl) ?_))))
 refine rg_nil (aops_nil ?_)
 change Awp _ _ _ _ _
 refine awp_seq ?_
 refine awp_region 4 mixed (by kernel_rfl) ?_
 refine rg_q (q_move (x := .d (.pt _ _)) rfl) (rg_q (q_move (x := .d (.v _)) rfl) ?_)
 refine rg_q (q_call en173 (.cons rfl (.cons rfl .nil)) rfl (nearest_p t _ hao (by omega) (by omega))) ?_
 refine rg_q (q_assign (x := .d (.v _)) rfl) ?_
 refine rg_nil (aops_nil ?_)
 change Awp _ _ _ _ _
 refine awp_seq ?_
 refine awp_region 5 mixed (by kernel_rfl) ?_
 refine rg_q (q_move (x := .d (.v _)) rfl) (rg_q (q_move (x := .d (.v _)) rfl) ?_)
 refine rg_q (q_call en89 (.cons rfl (.cons rfl (.cons rfl .nil))) rfl (fwithin_p _ _ _)) ?_
 refine rg_q (q_assign (x := .d (.v _)) rfl) (rg_q (q_assign (x := .d (.v _)) rfl) ?_)
 refine rg_nil (aops_nil ?_)
 change Awp _ _ _ _ _
 refine awp_ret ?_
 refine ⟨_, (.cons (.tmp (by exact .d _)) (.cons (.tmp (by exact .d _)) .nil)), ?_⟩
 rfl
end Go.Proofs.YtphlaicnmmglhaaGreat.Am.M
