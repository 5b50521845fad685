/- Contracts over the abstract machine, joined. Conditions: none. -/
import Derived.Test.YtphlaicnmmglhaaGreatJ3
import Derived.Test.YtphlaicnmmglhaaGreatJ1
import Derived.Test.YtphlaicnmmglhaaGreatAmF
set_option linter.unusedVariables false
set_option linter.unusedSimpArgs false
-- mini
namespace Go.Proofs.YtphlaicnmmglhaaGreat.Am.M
open Go
set_option maxRecDepth 100000 in
theorem chunk_p (l : List Nat) : PC Tryz.prog 141 [.sl 1 (l.map fC), .v (.int .i64 (64))] (.fn (.func 216) [.pt [.sl 1 (l.map fC)] 0, .pt [.v (.int .i64 (64))] 0]) := by
 refine pc_of_awp Tryz.func141 rfl Tryz.ntmps141 (rs := [.tmp 4]) Tryz.results141 (by simp) fun w0 => ?_
 refine awp_seq ?_
 refine awp_region 3 mixed (by kernel_rfl) ?_
 refine rg_q (q_box rfl (by exact .inl rfl)) ?_
 refine rg_q (q_box rfl (by exact .inl rfl)) ?_
 refine rg_q (q_assign (x := .d (.v .nilFunc)) rfl) ?_
 refine rn ?_
 change Awp _ _ _ _ _
 refine awp_seq ?_
 refine awp_seq ?_
 refine awp_region 2 mixed (by kernel_rfl) ?_
 refine rg_q (q_load sz3 rfl rfl) (rg_q (q_lss rfl rfl) ?_)
 refine rn ?_
 change Awp _ _ _ _ _
 refine awp_cond rfl (fun hc1 => ?_) (fun hc1 => ?_)
 ·
  cases hc1
 ·
  (try simp only [nb, ne_eq] at hc1)
  refine awp_skip ?_
  change Awp _ _ _ _ _
  refine awp_seq ?_
  refine awp_region 2 mixed (by kernel_rfl) ?_
  refine rg_q (q_makeFunc (.cons rfl (.cons rfl .nil))) ?_
  refine rg_q (q_assign (x := .d (.fn _ _)) rfl) ?_
  refine rn ?_
  change Awp _ _ _ _ _
  refine awp_ret ?_
  refine ⟨_, (.cons (.tmp (by exact .d _)) .nil), ?_⟩
  rfl

def tkM (t : Tsk) : Nat := (t.ne * t.ne).toNat
def smR (l : List Nat) (i : Nat) : List (List D) := (chF l i).map fun b => anL (b.map vI)
def tkC (t : Tsk) : List D := grdC t.g ++ arrC t.ar ++ [.v (.int .i64 t.ne), .sl 61 (smR t.bf (tkM t))]
theorem smR_succ (l : List Nat) (i : Nat) : smR l (i + 1) = smR l i ++ [anL ((chK l i).map vI)] := by unfold smR; rw [chF_succ, List.map_append]; rfl
theorem smR_len (l : List Nat) (i : Nat) : (smR l i).length = i := by unfold smR chF; rw [List.length_map, List.length_map, List.length_range]
theorem anL_flat (S : List Int) : ∀ d ∈ anL S, D.Flat d := by
  intro d hd
  unfold anL at hd
  obtain ⟨k, _, rfl⟩ := List.mem_map.1 hd
  exact .v _
theorem smR_flat (l : List Nat) (i : Nat) : ∀ x ∈ smR l i, ∀ d ∈ x, D.Flat d := by
  intro x hx d hd
  unfold smR at hx
  obtain ⟨b, _, rfl⟩ := List.mem_map.1 hx
  exact anL_flat _ d hd
theorem tsk_len {t : Tsk} (h : TskOk t) : t.bf.length = 64 * tkM t ∧ tkM t ≤ 256 ∧ ((tkM t : Nat) : Int) = t.ne * t.ne := by
  have h1 := h.n1
  have h2 := h.n2
  have h3 := h.nl
  have hm := mulb (a := t.ne) (b := t.ne) (A := 16) (B := 16) (by omega) (by omega) (by omega) (by omega)
  have hp := Int.mul_nonneg (show 0 ≤ t.ne by omega) (show 0 ≤ t.ne by omega)
  unfold tkM
  omega
theorem chF_at {l : List Nat} {m k : Nat} {y : List Nat} (h : (chF l m)[k]? = some y) : k < m ∧ y = chK l k := by
  unfold chF at h
  rw [List.getElem?_map] at h
  cases hr : (List.range m)[k]? with
  | none => rw [hr] at h; cases h
  | some j =>
    rw [hr] at h
    obtain ⟨h1, h2⟩ := List.getElem?_eq_some_iff.1 hr
    rw [List.length_range] at h1
    rw [List.getElem_range] at h2
    subst h2
    cases h
    exact ⟨h1, rfl⟩
set_option maxRecDepth 100000 in
theorem open_p (t : Tsk) (h : TskOk t) : PC Tryz.prog 112 [.agg (tskC t)] (.tup [.pt (tkC t) 0, .v (.int .i64 (0))]) := by
  have hck := ckArr_zero h.ck
  obtain ⟨hao, _⟩ := ckArr_ok h.ck
  have hn1 := h.n1
  have hn2 := h.n2
  have hnl := h.nl
  have hwh := h.wh
  have hel := h.el
  obtain ⟨hg, hg1, hg2⟩ := ckG_ok h.gr
  have hci := cells_in hg
  have hz1 : inR 1 t.g.fz (t.ar.ou.t - 1) = true := inR_iff.2 ⟨h.z1, h.z2⟩
  have hz2 : inR 1 (spI t.g (t.g.co * t.g.ro - 1)).2 (t.ar.ou.t - 1) = true := inR_iff.2 ⟨h.z3, h.z4⟩
  have hgr := h.gr
  have ht1 := hao.ou.t1
  have ht2 := hao.ou.t2
  obtain ⟨hb1, hb2, hb3⟩ := tsk_len h
  refine pc_of_awpN Tryz.func112 rfl Tryz.ntmps112 (rs := [.tmp 2, .tmp 3]) Tryz.results112 (by simp) fun w0 hmine hrnd hpn => ?_
  refine awp_seq ?_
  refine awp_region 3 mixed (by kernel_rfl) ?_
  refine rg_q (q_box rfl (by exact .inr ⟨_, rfl⟩)) ?_
  refine rg_q (q_a rfl) (rg_q (q_a rfl) ?_)
  refine rn ?_
  change Awp _ _ _ _ _
  refine awp_seq ?_
  refine awp_seq ?_
  refine awp_region 7 mixed (by kernel_rfl) ?_
  refine rg_q (q_loadA sz37 rfl rfl rfl) ?_
  refine rg_q (q_call en20 (.cons rfl .nil) rfl (checkTask_p t h)) ?_
  refine rg_q (q_move (x := .d (.tup _)) rfl) (rg_q (q_extract rfl rfl) (rg_q (q_extract rfl rfl) (rg_q (q_a rfl) (rg_q (q_a rfl) ?_))))
  refine rs (awp_region 2 mixed (by kernel_rfl) ?_)
  refine rg_q (q_m rfl) (rg_q (q_neq rfl rfl) ?_)
  refine rn ?_
  change Awp _ _ _ _ _
  refine awp_cond rfl (fun hc2 => ?_) (fun hc2 => ?_)
  ·
    simp at hc2
  ·
    (try simp only [nb, ne_eq] at hc2)
    refine awp_skip ?_
    change Awp _ _ _ _ _
    refine awp_seq ?_
    refine awp_region 9 mixed (by kernel_rfl) ?_
    refine rg_q (q_fieldAddr fld37_2 rfl) ?_
    refine rg_q (q_loadA (ds := [_, _, _, _, _]) sz35 rfl rfl rfl) ?_
    refine rg_q (q_build (cs := [_, _, _, _, _]) pl150 zr150 rfl (.cons rfl (by exact .inr ⟨_, rfl⟩) .nil) ⟨⟨rfl, by decide⟩, trivial⟩ rfl) ?_
    refine rg_q (q_fieldAddr fld37_0 rfl) ?_
    refine rg_q (q_loadA (ds := [_, _, _, _, _, _, _, _, _, _, _]) sz28 rfl rfl rfl) ?_
    refine rg_q (q_fieldAddr fld37_1 rfl) (rg_q (q_fieldAddr fld31_0 rfl) (rg_q (q_load sz3 rfl rfl) ?_))
    refine rg_q (q_build pl202 zr202 rfl (.cons rfl (by exact .inr ⟨_, rfl⟩) (.cons rfl (by exact .inr ⟨_, rfl⟩) (.cons rfl (by exact .inl rfl) .nil))) ⟨⟨rfl, by decide⟩, ⟨rfl, by decide⟩, ⟨rfl, by decide⟩, trivial⟩ rfl) ?_
    refine rg_nil ?_
    refine aops_box rfl (by exact .inr ⟨_, rfl⟩) rfl rfl rfl ?_
    refine aops_alloc zr156 rfl rfl rfl ?_
    refine aops_le (le_tbox (k := 6) (ts := [_]) rfl rfl) ?_
    refine aops_storeT (z := .ref _ _) sz156 rfl rfl rfl rfl (by decide) rfl ?_
    refine aops_nil ?_
    change Awp _ _ _ _ _
    refine awp_seq ?_
    refine awp_seq ?_
    refine awp_region 4 mixed (by kernel_rfl) ?_
    refine rg_q (q_fieldAddr fld37_1 rfl) (rg_q (q_fieldAddr fld31_1 rfl) (rg_q (q_load sz29 rfl rfl) ?_))
    refine rg_q (q_call en141 (.cons rfl (.cons rfl .nil)) rfl (chunk_p t.bf)) ?_
    refine rn ?_
    change Awp _ _ _ _ _
    refine awp_block ?_
    refine Awp.le (le_ownB 27 47 17 273 61 rfl rfl rfl) ?_
    refine awp_rangeHC (α := List Nat) (β := Nat) (n := 51) (enc := encK) (items := chF t.bf (tkM t)) 1000 [(6, .ref 6 0), (31, .d (.fn (.func 216) [.pt [.sl 1 (t.bf.map fC)] 0, .pt [.v (.int .i64 (64))] 0]))] (fun x => [(6, .tbox [.ref 27 0]), (27, .tbox [.d (.v (.int .i64 (t.g.fx))), .d (.v (.int .i64 (t.g.fz))), .d (.v (.int .i64 (t.g.co))), .d (.v (.int .i64 (t.g.ro))), .d (.v (.int .i64 (t.g.st))), .d (.sl 2 (t.ar.el.map shC)), .d (.v (.int .i64 (t.ar.ou.w))), .d (.v (.int .i64 (t.ar.ou.m))), .d (.v (.int .i64 (t.ar.ou.k))), .d (.v (.int .i64 (t.ar.ou.t))), .d (.v (.int .i64 (t.ar.ba.w))), .d (.v (.int .i64 (t.ar.ba.m))), .d (.v (.int .i64 (t.ar.ba.k))), .d (.v (.int .i64 (t.ar.ba.t))), .d (.v (.int .i64 (t.ar.ts.1))), .d (.v (.int .i64 (t.ar.ts.2))), .d (.v (.int .i64 (t.ne))), .rs 47]), (47, .row 273 61 (smR t.bf x))]) (fun k x => x = k) (fun e x => False) 0 27 5 (.sl 2 (t.ar.el.map shC)) hrnd ?_ (.inr ⟨rfl, rfl⟩) en216 (chunk_i t.bf (tkM t) hb1 (by omega)) rfl (fun _ => rfl) rfl (fun u x => fsl_mem (fsl_cons (fst_tbox (by repeat (first | exact ftl_nil | refine ftl_cons (by trivial) ?_))) (fsl_cons (fst_tbox (by repeat (first | exact ftl_nil | refine ftl_cons (by first | exact D.Flat.v _ | trivial) ?_))) (fsl_cons (smR_flat _ _) fsl_nil)))) (fun x => ⟨_, rfl, rfl⟩) (fun _ => rfl) rfl (fun h => by cases h) ?_ ?_ ?_
    · exact le_cst (fun k => k) _ _ rfl ⟨(by first | rfl), (by first | rfl), trivial⟩ ⟨(by first | rfl), (by first | rfl), (by first | rfl), trivial⟩ rfl (fun k b h => by rw [hpn k] at h; cases h)
    ·
      intro u w1 hw1 k x y hI hy
      subst hI
      obtain ⟨hlt, rfl⟩ := chF_at hy
      have hlk := chK_len hb1 hlt
      have hwk := chK_wh hwh x
      have hsl := smR_len t.bf x
      have hs1 : smR t.bf x ++ [anL ((chK t.bf x).map vI)] = smR t.bf (x + 1) := (smR_succ _ _).symm
      refine awp_region 1 mixed (by kernel_rfl) ?_
      refine rg_q (q_assign (x := .d (.sl _ _)) rfl) ?_
      refine rn ?_
      refine ⟨rfl, fun w2 hw2 => ?_⟩
      refine awp_block ?_
      refine awp_seq ?_
      refine awp_region 7 mixed (by kernel_rfl) ?_
      refine rg_q (q_move (x := .d (.sl _ _)) rfl) ?_
      refine rg_q (q_toArr (cs := (chK t.bf x).map fd) ar236 rfl (fd_row _).symm (by rw [List.length_map]; exact hlk) (by decide)) ?_
      refine rg_q (q_loadA (ds := (chK t.bf x).map fd) sz236 rfl (by rw [List.drop_zero]; exact List.take_of_length_le (by rw [List.length_map, hlk]; exact Nat.le_refl _)) (by rw [List.length_map]; exact hlk)) ?_
      refine rg_q (q_call en180 (.cons rfl .nil) rfl (analytic_p (chK t.bf x) hlk hwk)) ?_
      refine rg_q (q_move (x := .d (.tup _)) rfl) (rg_q (q_extract rfl rfl) (rg_q (q_extract rfl rfl) ?_))
      refine rg_nil ?_
      refine aops_allocD zr272 rfl sz272 rfl rfl (by exact .inr ⟨_, rfl⟩) (anL_len _) rfl ?_
      refine aops_q rfl (q_a rfl) ?_
      refine aops_nil ?_
      change Awp _ _ _ _ _
      refine awp_regionL 7 1 [0] mixed (by kernel_rfl) ?_
      refine rg_q (q_load_tb (x := .ref _ _) sz156 rfl rfl rfl) ?_
      refine rg_q (q_load_tb (x := .ref _ _) sz156 rfl rfl rfl) ?_
      refine rg_q (q_nilCheck_ref rfl) (rg_q (q_fieldAddr_ref fld202_3 rfl) ?_)
      refine rg_q (q_load_tb (x := .rs _) sz200 rfl rfl rfl) ?_
      refine rg_q (q_loadA sz272 rfl rfl rfl) ?_
      refine rg_q (q_buildSlice sl200 zr273 rfl rfl (by decide) (.cons rfl (by exact .inr ⟨_, rfl⟩) .nil) ⟨rfl, rfl, trivial⟩ rfl (by decide) rfl) ?_
      refine rg_nil ?_
      refine late_grow (c_append sl200 zr273 by273 rfl (by decide) rfl rfl rfl rfl (by (try simp only [List.length_map, List.length_append, List.length_cons, List.length_nil]); omega) (by (try simp only [List.length_map, List.length_append, List.length_cons, List.length_nil]); omega) rfl) ?_ ?_
      · refine fl_cons rfl rfl rfl (c_q (q_load_tb (x := .ref _ _) sz156 rfl rfl rfl)) ?_
        exact fl_nil
      refine late_nil ?_
      refine aops_q rfl (q_nilCheck_ref rfl) ?_
      refine aops_q rfl (q_fieldAddr_ref fld202_3 rfl) ?_
      refine aops_storeT (z := .rs _) sz200 rfl rfl rfl rfl (by simp) rfl ?_
      refine aops_nil ?_
      refine .inl ⟨rfl, x + 1, rfl, ?_⟩
      exact le_round [] _ hw2 rfl ⟨(by rfl), (by rfl), (by (show Site.row _ _ _ = Site.row _ _ _; rw [← hs1]; rfl)), trivial⟩ rfl
    ·
      intro x hI
      have hI2 : x = tkM t := by rw [hI]; unfold chF; rw [List.length_map, List.length_range]
      subst hI2
      change Awp _ _ _ _ _
      refine awp_seq ?_
      refine Awp.le (le_freezeTB 27 47 17 rfl rfl rfl rfl hmine) ?_
      refine Awp.le (le_boxT 27 (tkC t) rfl rfl (by intro j d h; match j, h with | 0, h | 1, h | 2, h | 3, h | 4, h | 5, h | 6, h | 7, h | 8, h | 9, h | 10, h | 11, h | 12, h | 13, h | 14, h | 15, h | 16, h | 17, h => cases h; rfl)) ?_
      refine awp_region 3 mixed (by kernel_rfl) ?_
      refine rg_q (q_load_tb (x := .ref _ _) sz156 rfl rfl rfl) ?_
      refine rg_q (q_assign (x := .ref _ _) rfl) (rg_q (q_a rfl) ?_)
      refine rn ?_
      change Awp _ _ _ _ _
      refine Awp.le (le_freeze 27 2 0 (cs := tkC t) rfl rfl rfl rfl hmine) ?_
      refine awp_ret ?_
      refine ⟨_, (.cons (.tmp (by exact .d _)) (.cons (.tmp (by exact .d _)) .nil)), ?_⟩
      rfl
    ·
      exact fun e x h => h.elim
end Go.Proofs.YtphlaicnmmglhaaGreat.Am.M
-- mini
namespace Go.Proofs.YtphlaicnmmglhaaGreat.Am.M
open Go

theorem clE_ok {g : Grd} {c : Int} (h : clE g c = 0) : 0 ≤ c ∧ c ≤ g.co * g.ro - 1 := by
  unfold clE at h
  rw [when_zero (by decide), Bool.not_eq_false'] at h
  exact inR_iff.1 h
theorem sp_last {g : Grd} (hg : GrdOk g) : spI g (g.co * g.ro - 1) = (g.fx + (g.co - 1) * g.st, g.fz + (g.ro - 1) * g.st) := by
  have hc := hg.c1
  have hr := hg.r1
  have hci := (cells_in hg).1
  have e : g.co * g.ro - 1 = (g.co - 1) + (g.ro - 1) * g.co := by grind
  unfold spI
  rw [Int.tmod_eq_emod_of_nonneg (by omega), Int.tdiv_eq_ediv_of_nonneg (by omega), e, Int.add_mul_emod_self_right, Int.emod_eq_of_lt (by omega) (by omega), Int.add_mul_ediv_right _ _ (by omega), Int.ediv_eq_zero_of_lt (by omega) (by omega), Int.zero_add]
theorem sp_in {t : Tsk} (h : TskOk t) {c : Int} (h1 : 0 ≤ c) (h2 : c ≤ t.g.co * t.g.ro - 1) : (-100000 ≤ (spI t.g c).1 ∧ (spI t.g c).1 ≤ 100000) ∧ (-100000 ≤ (spI t.g c).2 ∧ (spI t.g c).2 ≤ 100000) ∧ 1 ≤ (spI t.g c).2 ∧ (spI t.g c).2 ≤ t.ar.ou.t - 1 := by
  obtain ⟨hg, hg1, hg2⟩ := ckG_ok h.gr
  have z1 := h.z1
  have z4 := h.z4
  rw [sp_last hg] at hg1 hg2 z4
  simp only at hg1 hg2 z4
  obtain ⟨x1, x2, w1, w2, c1, c2, r1, r2, s1, s2⟩ := hg
  obtain ⟨m1, m2⟩ := tmodP_in h1 c1
  obtain ⟨d1, d2⟩ := tdivP_in h1 c1
  have d3 : c.tdiv t.g.co ≤ t.g.ro - 1 := by
    rw [Int.tdiv_eq_ediv_of_nonneg h1]
    have := Int.ediv_lt_of_lt_mul (a := c) (b := t.g.ro) (c := t.g.co) (by omega) (by rw [Int.mul_comm]; omega)
    omega
  have a1 := Int.mul_le_mul_of_nonneg_right (show c.tmod t.g.co ≤ t.g.co - 1 by omega) (show 0 ≤ t.g.st by omega)
  have a2 := Int.mul_le_mul_of_nonneg_right d3 (show 0 ≤ t.g.st by omega)
  have a3 := Int.mul_nonneg m1 (show 0 ≤ t.g.st by omega)
  have a4 := Int.mul_nonneg d1 (show 0 ≤ t.g.st by omega)
  unfold spI
  simp only
  omega
theorem op_zero {t : Tsk} (h : TskOk t) {c : Int} {pr : Int × Int} (hc : clE t.g c = 0) (hp : (0 ≤ pr.1 ∧ pr.1 < t.ne) ∧ 0 ≤ pr.2 ∧ pr.2 < t.ne) : opE t.ar (spI t.g c) pr = 0 := by
  obtain ⟨c1, c2⟩ := clE_ok hc
  obtain ⟨i1, i2, i3, i4⟩ := sp_in h c1 c2
  have hel := h.el
  unfold opE
  rw [if_neg (fun q => q h.ck)]
  refine first_zero.2 ?_
  simp only [List.mem_cons, List.not_mem_nil, or_false, forall_eq_or_imp, forall_eq]
  refine ⟨spot_ok.2 ⟨i1, i2⟩, (must_zero (by decide)).2 (inR_iff.2 ⟨i3, i4⟩), ?_⟩
  unfold pairE
  rw [hel, when_zero (by decide), inR_iff.2 ⟨hp.1.1, by omega⟩, inR_iff.2 ⟨hp.2.1, by omega⟩]; rfl
def allL (n : Nat) : List Int := (List.range n).map fun i : Nat => (i : Int)
theorem allL_succ (n : Nat) : allL (n + 1) = allL n ++ [(n : Int)] := by unfold allL; rw [List.range_succ, List.map_append]; rfl
theorem allL_len (n : Nat) : (allL n).length = n := by unfold allL; rw [List.length_map, List.length_range]
theorem allL_in {n : Nat} {i : Int} (h : i ∈ allL n) : 0 ≤ i ∧ i < n := by
  unfold allL at h
  obtain ⟨k, hk, rfl⟩ := List.mem_map.1 h
  have := List.mem_range.1 hk
  omega
set_option maxRecDepth 100000 in
theorem all_p (t : Tsk) (h1 : 1 ≤ t.ne) (h2 : t.ne ≤ 16) : PC Tryz.prog 96 [.pt (tkC t) 0] (.sl 1 ((allL t.ne.toNat).map iC)) := by
 refine pc_of_awpN Tryz.func96 rfl Tryz.ntmps96 (rs := [.tmp 2]) Tryz.results96 (by simp) fun w0 hmine hrnd hpn => ?_
 refine awp_seq ?_
 refine awp_region 1 mixed (by kernel_rfl) ?_
 refine rg_q (q_assign (x := .d (.sl _ _)) rfl) ?_
 refine rs (awp_region 1 mixed (by kernel_rfl) ?_)
 refine rg_q (q_assign_nil) ?_
 refine rn ?_
 change Awp _ _ _ _ _
 refine Awp.le (le_own (k := 3) (e := 3) (sz := 1) rfl rfl) ?_
 refine awp_seq ?_
 refine awp_seq ?_
 refine awp_region 5 mixed (by kernel_rfl) ?_
 refine rg_q (q_move (x := .d (.pt _ _)) rfl) (rg_q (q_nilCheck rfl) (rg_q (q_fieldAddr fld202_2 rfl) (rg_q (q_load sz3 rfl rfl) (rg_q (q_m rfl) ?_))))
 refine rn ?_
 change Awp _ _ _ _ _
 refine awp_block ?_
 refine awp_loopH [3, 4, 9, 10, 11, 12, 13, 14, 15, 16] [3] (α := Nat) (fun k => [(9, T.i (k : Int)), (3, .rs 3)]) (fun k => [(3, .row 3 1 ((allL k).map iC))]) (fun k => k ≤ t.ne.toNat) (fun k => t.ne.toNat - k) 0 (Nat.zero_le _) ?_ ?_
 · exact le_head (ms := [3]) (by repeat (exact Out.refl _)) ⟨(by rfl), (by rfl), trivial⟩ ⟨(by rfl), trivial⟩ rfl rfl rfl rfl
 ·
  intro k hk
  have hal := allL_len k
  refine awp_seq ?_
  refine awp_region 1 mixed (by kernel_rfl) ?_
  refine rg_q (q_lss rfl rfl) ?_
  refine rn ?_
  change Awp _ _ _ _ _
  refine awp_seq ?_
  refine awp_cond rfl (fun hc3 => ?_) (fun hc3 => ?_)
  ·
   (try simp only [nb, ne_eq] at hc3)
   have hsk : (allL (k + 1)).map iC = (allL k).map iC ++ [[.v (.int .i64 (k : Int))]] := by rw [allL_succ, List.map_append]; rfl
   refine awp_skip ?_
   change Awp _ _ _ _ _
   refine awp_seq ?_
   refine awp_block ?_
   refine awp_seq ?_
   refine awp_region 2 mixed (by kernel_rfl) ?_
   refine rg_q (q_m rfl) (rg_q (q_a rfl) ?_)
   refine rn ?_
   change Awp _ _ _ _ _
   refine awp_region 3 mixed (by kernel_rfl) ?_
   refine rg_q (q_move (x := .rs _) rfl) (rg_q (q_m rfl) ?_)
   refine rg_q (q_buildSlice sl77 zr3 rfl rfl (by decide) (.cons rfl (by exact .inl rfl) .nil) ⟨rfl, rfl, trivial⟩ rfl (by decide) rfl) ?_
   refine rg_nil ?_
   refine aops_append sl77 zr3 by3 rfl (by decide) rfl rfl rfl rfl (by (try simp only [List.length_map, List.length_append, List.length_cons, List.length_nil]); omega) (by (try simp only [List.length_map, List.length_append, List.length_cons, List.length_nil]); omega) rfl rfl ?_
   refine aops_q rfl (q_assign (x := .rs _) rfl) ?_
   refine aops_nil ?_
   change Awp _ _ _ _ _
   refine awp_region 2 mixed (by kernel_rfl) ?_
   refine rg_q (q_add rfl rfl (In64.mk (by omega) (by omega))) ?_
   refine rg_q (q_m rfl) ?_
   refine rn ?_
   refine ⟨k + 1, by omega, by omega, ?_⟩
   exact le_head (ms := [3]) (by repeat (first | exact Out.head rfl rfl | (refine Out.put ?_ rfl) | (refine Out.site ?_ rfl) | (refine Out.killS ?_ rfl))) ⟨(by rfl), (by rfl), trivial⟩ ⟨(by ((show Site.row 3 1 _ = Site.row 3 1 _; rw [hsk]; rfl))), trivial⟩ rfl rfl rfl rfl
  ·
   (try simp only [nb, ne_eq] at hc3)
   have hkn : k = t.ne.toNat := by omega
   subst hkn
   refine awp_exit ?_
   change Awp _ _ _ _ _
   refine awp_seq ?_
   refine awp_region 2 mixed (by kernel_rfl) ?_
   refine rg_q (q_move (x := .rs _) rfl) (rg_q (q_assign (x := .rs _) rfl) ?_)
   refine rn ?_
   change Awp _ _ _ _ _
   refine awp_ret ?_
   refine ⟨_, (.cons (.tmp (by exact .rs rfl)) .nil), ?_⟩
   rfl
set_option maxRecDepth 100000 in
theorem nearest_p (t : Tsk) (tm : Int) (h : ArrOk t.ar) (h1 : -1000000000000 ≤ tm) (h2 : tm ≤ 1000000000000) : PC Tryz.prog 173 [.pt (tkC t) 0, .v (.int .i64 (tm))] (.v (.int .i64 (rndI (tm - t.ar.ts.1) t.ar.ts.2))) := by
 obtain ⟨_, _, _, _, _, _, t1, t2, t3, t4⟩ := h
 have hq := tdiv_sm (a := 2 * (tm - t.ar.ts.1) + t.ar.ts.2) (b := 2 * t.ar.ts.2) ⟨by omega, by omega⟩ (by omega)
 obtain ⟨h5, h6⟩ := hq
 have hl := floor_law (n := 2 * (tm - t.ar.ts.1) + t.ar.ts.2) (b := 2 * t.ar.ts.2) (by omega)
 refine pc_of_awp Tryz.func173 rfl Tryz.ntmps173 (rs := [.tmp 4]) Tryz.results173 (by simp) fun w0 => ?_
 refine awp_seq ?_
 refine awp_region 1 mixed (by kernel_rfl) ?_
 refine rg_q (q_a rfl) ?_
 refine rs (awp_region 25 mixed (by kernel_rfl) ?_)
 refine rg_q (q_m rfl) (rg_q (q_move (x := .d (.pt _ _)) rfl) (rg_q (q_nilCheck rfl) (rg_q (q_fieldAddr fld202_1 rfl) (rg_q (q_fieldAddr fld28_3 rfl) (rg_q (q_fieldAddr fld26_0 rfl) ?_)))))
 refine rg_q (q_load sz3 rfl rfl) ?_
 refine rg_q (q_sub rfl rfl (In64.mk (by omega) (by omega))) ?_
 refine rg_q (q_mul rfl rfl (In64.mk (by omega) (by omega))) ?_
 refine rg_q (q_move (x := .d (.pt _ _)) rfl) (rg_q (q_nilCheck rfl) (rg_q (q_fieldAddr fld202_1 rfl) (rg_q (q_fieldAddr fld28_3 rfl) (rg_q (q_fieldAddr fld26_1 rfl) (rg_q (q_load sz3 rfl rfl) ?_)))))
 refine rg_q (q_add rfl rfl (In64.mk (by omega) (by omega))) ?_
 refine rg_q (q_move (x := .d (.pt _ _)) rfl) (rg_q (q_nilCheck rfl) (rg_q (q_fieldAddr fld202_1 rfl) (rg_q (q_fieldAddr fld28_3 rfl) (rg_q (q_fieldAddr fld26_1 rfl) (rg_q (q_load sz3 rfl rfl) ?_)))))
 refine rg_q (q_mul rfl rfl (In64.mk (by omega) (by omega))) ?_
 refine rg_q (q_a rfl) (rg_q (q_a rfl) ?_)
 refine rs (awp_region 4 mixed (by kernel_rfl) ?_)
 refine rg_q (q_m rfl) (rg_q (q_m rfl) ?_)
 refine rg_q (q_quo rfl rfl (by omega) (In64.mk (by omega) (by omega))) ?_
 refine rg_q (q_a rfl) ?_
 refine rn ?_
 change Awp _ _ _ _ _
 refine awp_seq ?_
 refine awp_seq ?_
 refine awp_region 4 mixed (by kernel_rfl) ?_
 refine rg_q (q_m rfl) (rg_q (q_m rfl) ?_)
 refine rg_q (q_rem rfl rfl (by omega)) ?_
 refine rg_q (q_lss rfl rfl) ?_
 refine rn ?_
 change Awp _ _ _ _ _
 refine awp_cond rfl (fun hc3 => ?_) (fun hc3 => ?_)
 ·
  (try simp only [nb, ne_eq] at hc3)
  rw [if_pos hc3] at hl
  refine awp_region 3 mixed (by kernel_rfl) ?_
  refine rg_q (q_m rfl) ?_
  refine rg_q (q_sub rfl rfl (In64.mk (by omega) (by omega))) ?_
  refine rg_q (q_a rfl) ?_
  refine rs (awp_region 2 mixed (by kernel_rfl) ?_)
  refine rg_q (q_m rfl) (rg_q (q_a rfl) ?_)
  refine rn ?_
  change Awp _ _ _ _ _
  refine awp_ret ?_
  refine ⟨_, (.cons (.tmp (by exact .d _)) .nil), ?_⟩
  unfold rndI; rw [← hl]; rfl
 ·
  (try simp only [nb, ne_eq] at hc3)
  rw [if_neg (by omega)] at hl
  refine awp_skip ?_
  change Awp _ _ _ _ _
  refine awp_seq ?_
  refine awp_region 2 mixed (by kernel_rfl) ?_
  refine rg_q (q_m rfl) (rg_q (q_a rfl) ?_)
  refine rn ?_
  change Awp _ _ _ _ _
  refine awp_ret ?_
  refine ⟨_, (.cons (.tmp (by exact .d _)) .nil), ?_⟩
  unfold rndI; rw [← hl]; rfl
set_option maxRecDepth 100000 in
theorem number_p (t : Tsk) (c : Int) (pr : Int × Int) (h : TskOk t) (hc : clE t.g c = 0) (hp : (0 ≤ pr.1 ∧ pr.1 < t.ne) ∧ 0 ≤ pr.2 ∧ pr.2 < t.ne) : PC Tryz.prog 109 [.pt (tkC t) 0, .v (.int .i64 (c)), .agg (shC pr)] (.tup [.v (.int .i64 (smpI t.ar (spI t.g c) pr)), .v (.bool (inR 0 (smpI t.ar (spI t.g c) pr) 60))]) := by
 obtain ⟨hg, _, _⟩ := ckG_ok h.gr
 obtain ⟨c1, c2⟩ := clE_ok hc
 have hci := cells_in hg
 obtain ⟨hao, _⟩ := ckArr_ok h.ck
 have ho := op_zero h hc hp
 have he : echR t.ar (spI t.g c) pr = (echI t.ar (spI t.g c) pr, 0) := by unfold echR; rw [if_neg (fun q => q ho)]
 have hei := ech_in t.ar (spI t.g c) pr
 refine pc_of_awpN Tryz.func109 rfl Tryz.ntmps109 (rs := [.tmp 6, .tmp 7]) Tryz.results109 (by simp) fun w0 hmine hrnd hpn => ?_
 refine awp_seq ?_
 refine awp_region 3 mixed (by kernel_rfl) ?_
 refine rg_q (q_box rfl (by exact .inr ⟨_, rfl⟩)) ?_
 refine rg_q (q_a rfl) (rg_q (q_a rfl) ?_)
 refine rs (awp_region 17 mixed (by kernel_rfl) ?_)
 refine rg_q (q_move (x := .d (.pt _ _)) rfl) (rg_q (q_nilCheck rfl) (rg_q (q_fieldAddr fld202_1 rfl) ?_))
 refine rg_q (q_loadA (ds := [_, _, _, _, _, _, _, _, _, _, _]) sz28 rfl rfl rfl) ?_
 refine rg_q (q_move (x := .d (.pt _ _)) rfl) (rg_q (q_nilCheck rfl) (rg_q (q_fieldAddr fld202_0 rfl) ?_))
 refine rg_q (q_loadA (ds := [_, _, _, _, _]) sz150 rfl rfl rfl) ?_
 refine rg_q (q_m rfl) ?_
 refine rg_q (q_call en90 (.cons rfl (.cons rfl .nil)) rfl (fspot_p t.g c hg c1 (by omega))) ?_
 refine rg_q (q_loadA (ds := [_, _]) sz63 rfl rfl rfl) ?_
 refine rg_q (q_call en178 (.cons rfl (.cons rfl (.cons rfl .nil))) rfl ((by have h := echoAt_p t.ar (spI t.g c) pr; rw [he] at h; exact h))) ?_
 refine rg_q (q_move (x := .d (.tup _)) rfl) (rg_q (q_extract rfl rfl) (rg_q (q_extract rfl rfl) (rg_q (q_a rfl) (rg_q (q_a rfl) ?_))))
 refine rs (awp_region 4 mixed (by kernel_rfl) ?_)
 refine rg_q (q_move (x := .d (.pt _ _)) rfl) (rg_q (q_m rfl) ?_)
 refine rg_q (q_call en173 (.cons rfl (.cons rfl .nil)) rfl (nearest_p t _ hao (by omega) (by omega))) ?_
 refine rg_q (q_a rfl) ?_
 refine rs (awp_region 5 mixed (by kernel_rfl) ?_)
 refine rg_q (q_m rfl) (rg_q (q_m rfl) ?_)
 refine rg_q (q_call en89 (.cons rfl (.cons rfl (.cons rfl .nil))) rfl (fwithin_p _ _ _)) ?_
 refine rg_q (q_a rfl) (rg_q (q_a rfl) ?_)
 refine rn ?_
 change Awp _ _ _ _ _
 refine awp_ret ?_
 refine ⟨_, (.cons (.tmp (by exact .d _)) (.cons (.tmp (by exact .d _)) .nil)), ?_⟩
 rfl
end Go.Proofs.YtphlaicnmmglhaaGreat.Am.M
-- mini
namespace Go.Proofs.YtphlaicnmmglhaaGreat.Am.M
open Go
set_option maxRecDepth 100000 in
theorem index5_p (l : List Int) (n : Int) : PC Tryz.prog 236 [.sl 1 (l.map iC), .v (.int .i64 (n))] (.v (.int .i64 (idxOf (fun x => decide (n = x)) 0 l))) := by
 refine pc_of_awp Tryz.func236 rfl Tryz.ntmps236 (rs := [.tmp 4]) Tryz.results236 (by simp) fun w0 => ?_
 refine awp_seq ?_
 refine awp_region 1 mixed (by kernel_rfl) ?_
 refine rg_q (q_a rfl) ?_
 refine rn ?_
 change Awp _ _ _ _ _
 refine awp_seq ?_
 refine awp_seq ?_
 refine awp_region 3 mixed (by kernel_rfl) ?_
 refine rg_q (q_move (x := .d (.sl _ _)) rfl) ?_
 refine rg_q (q_len isl77 rfl (by exact len_map _ _)) ?_
 refine rg_q (q_m rfl) ?_
 refine rn ?_
 change Awp _ _ _ _ _
 refine awp_len (t := 6) rfl (fun hl6 => ?_)
 (try simp only [List.length_map] at hl6)
 refine awp_block ?_
 refine awp_loopH [4, 5, 8, 9, 10, 11, 12, 13, 14, 15, 16, 17, 18] [] (α := Nat) (fun k => [(8, T.i (k : Int))]) (fun k => []) (fun k => k ≤ l.length ∧ idxOf (fun x => decide (n = x)) 0 l = idxOf (fun x => decide (n = x)) k (l.drop k)) (fun k => l.length - k) 0 ⟨Nat.zero_le _, rfl⟩ ?_ ?_
 · exact le_head (ms := []) (by repeat (exact Out.refl _)) ⟨(by rfl), trivial⟩ trivial rfl rfl rfl rfl
 ·
  intro k ⟨hk, hh⟩
  refine awp_seq ?_
  refine awp_region 1 mixed (by kernel_rfl) ?_
  refine rg_q (q_lss rfl rfl) ?_
  refine rn ?_
  change Awp _ _ _ _ _
  refine awp_seq ?_
  refine awp_cond rfl (fun hc2 => ?_) (fun hc2 => ?_)
  ·
   (try simp only [nb, ne_eq] at hc2)
   have hlt : k < l.length := by omega
   have hx := List.getElem?_eq_getElem hlt
   have hd : idxOf (fun x => decide (n = x)) k (l.drop k) = if decide (n = l[k]) = true then (k : Int) else idxOf (fun x => decide (n = x)) (k + 1) (l.drop (k + 1)) := by rw [List.drop_eq_getElem_cons hlt]; rfl
   generalize l[k] = x at *
   refine awp_skip ?_
   change Awp _ _ _ _ _
   refine awp_seq ?_
   refine awp_block ?_
   refine awp_seq ?_
   refine awp_region 2 mixed (by kernel_rfl) ?_
   refine rg_q (q_m rfl) (rg_q (q_a rfl) ?_)
   refine rs (awp_region 6 mixed (by kernel_rfl) ?_)
   refine rg_q (q_m rfl) (rg_q (q_move (x := .d (.sl _ _)) rfl) (rg_q (q_m rfl) ?_))
   refine rg_q (q_indexAddr sl77 rfl rfl (by omega) (map_at (by omega) hx)) ?_
   refine rg_q (q_load sz3 rfl rfl) (rg_q (q_eql rfl rfl) ?_)
   refine rn ?_
   change Awp _ _ _ _ _
   refine awp_cond rfl (fun hc4 => ?_) (fun hc4 => ?_)
   ·
    (try simp only [nb, ne_eq] at hc4)
    refine awp_seq ?_
    refine awp_region 2 mixed (by kernel_rfl) ?_
    refine rg_q (q_m rfl) (rg_q (q_a rfl) ?_)
    refine rn ?_
    change Awp _ _ _ _ _
    refine awp_ret ?_
    refine ⟨_, (.cons (.tmp (by exact .d _)) .nil), ?_⟩
    rw [hh, hd, if_pos (by simpa using hc4)]; rfl
   ·
    (try simp only [nb, ne_eq] at hc4)
    refine awp_skip ?_
    change Awp _ _ _ _ _
    refine awp_region 2 mixed (by kernel_rfl) ?_
    refine rg_q (q_add rfl rfl (In64.mk (by omega) (by omega))) ?_
    refine rg_q (q_m rfl) ?_
    refine rn ?_
    refine ⟨k + 1, ⟨by omega, by rw [hh, hd, if_neg (by simpa using hc4)]⟩, by omega, ?_⟩
    exact le_head (ms := []) (by repeat (first | exact Out.head rfl rfl | (refine Out.put ?_ rfl))) ⟨(by rfl), trivial⟩ trivial rfl rfl rfl rfl
  ·
   (try simp only [nb, ne_eq] at hc2)
   refine awp_exit ?_
   change Awp _ _ _ _ _
   refine awp_seq ?_
   refine awp_region 1 mixed (by kernel_rfl) ?_
   refine rg_q (q_a rfl) ?_
   refine rn ?_
   change Awp _ _ _ _ _
   refine awp_ret ?_
   refine ⟨_, (.cons (.tmp (by exact .d _)) .nil), ?_⟩
   rw [hh, List.drop_of_length_le (by omega)]; rfl
set_option maxRecDepth 100000 in
theorem contains5_p (l : List Int) (n : Int) : PC Tryz.prog 170 [.sl 1 (l.map iC), .v (.int .i64 (n))] (.v (.bool (l.any fun x => decide (n = x)))) := by
 refine pc_of_awp Tryz.func170 rfl Tryz.ntmps170 (rs := [.tmp 4]) Tryz.results170 (by simp) fun w0 => ?_
 refine awp_seq ?_
 refine awp_region 1 mixed (by kernel_rfl) ?_
 refine rg_q (q_a rfl) ?_
 refine rs (awp_region 5 mixed (by kernel_rfl) ?_)
 refine rg_q (q_move (x := .d (.sl _ _)) rfl) (rg_q (q_m rfl) ?_)
 refine rg_q (q_call en236 (.cons rfl (.cons rfl .nil)) rfl (index5_p _ _)) ?_
 refine rg_q (q_geq rfl rfl) (rg_q (q_a rfl) ?_)
 refine rn ?_
 change Awp _ _ _ _ _
 refine awp_ret ?_
 refine ⟨_, (.cons (.tmp (by exact .d _)) .nil), ?_⟩
 rw [← idxOf_mem]; rfl
set_option maxRecDepth 100000 in
theorem fpairs_p (t : Tsk) (l : List Int) : PC Tryz.prog 102 [.pt (tkC t) 0, .sl 1 (l.map iC)] (.fn (.func 171) [.pt [.sl 1 (l.map iC)] 0, .pt [.pt (tkC t) 0] 0]) := by
 refine pc_of_awp Tryz.func102 rfl Tryz.ntmps102 (rs := [.tmp 4]) Tryz.results102 (by simp) fun w0 => ?_
 refine awp_seq ?_
 refine awp_region 3 mixed (by kernel_rfl) ?_
 refine rg_q (q_box rfl (by exact .inl rfl)) ?_
 refine rg_q (q_box rfl (by exact .inl rfl)) ?_
 refine rg_q (q_assign (x := .d (.v .nilFunc)) rfl) ?_
 refine rs (awp_region 2 mixed (by kernel_rfl) ?_)
 refine rg_q (q_makeFunc (.cons rfl (.cons rfl .nil))) ?_
 refine rg_q (q_assign (x := .d (.fn _ _)) rfl) ?_
 refine rn ?_
 change Awp _ _ _ _ _
 refine awp_ret ?_
 refine ⟨_, (.cons (.tmp (by exact .d _)) .nil), ?_⟩
 rfl

def pqR (x : Int) (j : Nat) : List (Int × Int) := (List.range j).map fun r : Nat => (x, (r : Int))
def pqF (l : List Int) (n i : Nat) : List (Int × Int) := (l.take i).flatMap fun x => pqR x n
def pqL (l : List Int) (n : Nat) : List (Int × Int) := l.flatMap fun x => pqR x n
theorem pqR_succ (x : Int) (j : Nat) : pqR x (j + 1) = pqR x j ++ [(x, (j : Int))] := by unfold pqR; rw [List.range_succ, List.map_append]; rfl
theorem pqF_succ {l : List Int} {n i : Nat} {x : Int} (h : l[i]? = some x) : pqF l n (i + 1) = pqF l n i ++ pqR x n := by
  obtain ⟨hlt, hx⟩ := List.getElem?_eq_some_iff.1 h
  unfold pqF
  rw [List.take_succ_eq_append_getElem hlt, hx, List.flatMap_append]; simp
theorem pqF_all (l : List Int) (n : Nat) : pqF l n l.length = pqL l n := by unfold pqF pqL; rw [List.take_length]
theorem pqR_pre (x : Int) {j : Nat} : ∀ {n : Nat}, j ≤ n → pqR x j <+: pqR x n
  | 0, h => by have : j = 0 := by omega
               subst this; exact List.prefix_rfl
  | n + 1, h => by
    by_cases e : j = n + 1
    · subst e; exact List.prefix_rfl
    · rw [pqR_succ]; exact (pqR_pre x (show j ≤ n by omega)).trans (List.prefix_append _ _)
theorem pqF_pre {l : List Int} {n i : Nat} {x : Int} (h : l[i]? = some x) : pqF l n i ++ pqR x n <+: pqL l n := by
  obtain ⟨hlt, hx⟩ := List.getElem?_eq_some_iff.1 h
  rw [← pqF_succ h]
  unfold pqF pqL
  conv => rhs; rw [← List.take_append_drop (i + 1) l]
  rw [List.flatMap_append]
  exact List.prefix_append _ _
theorem pq_pre {l : List Int} {n i j : Nat} {x : Int} (h : l[i]? = some x) (hj : j < n) : pqF l n i ++ pqR x j ++ [(x, (j : Int))] <+: pqL l n := by
  rw [List.append_assoc, ← pqR_succ]
  have h1 := pqR_pre x (show j + 1 ≤ n by omega)
  obtain ⟨t, ht⟩ := h1
  refine List.IsPrefix.trans ?_ (pqF_pre (n := n) h)
  rw [← ht, ← List.append_assoc]
  exact List.prefix_append _ _
theorem pqL_in {l : List Int} {n : Nat} {y : Int × Int} (h : y ∈ pqL l n) : y.1 ∈ l ∧ 0 ≤ y.2 ∧ y.2 < n := by
  unfold pqL at h
  obtain ⟨x, hx, h⟩ := List.mem_flatMap.1 h
  unfold pqR at h
  obtain ⟨r, hr, rfl⟩ := List.mem_map.1 h
  have := List.mem_range.1 hr
  exact ⟨hx, by simp only; omega, by simp only; omega⟩
theorem pqL_len (l : List Int) (n : Nat) : (pqL l n).length = l.length * n := by
  unfold pqL
  induction l with
  | nil => simp
  | cons x l ih =>
    rw [List.flatMap_cons, List.length_append, ih, List.length_cons, Nat.succ_mul]
    unfold pqR
    rw [List.length_map, List.length_range]; omega
def smpS (t : Tsk) (y : Int × Int) : List Int := (chK t.bf (y.1 * t.ne + y.2).toNat).map vI
def encQ (t : Tsk) (y : Int × Int) : List D := [.agg (shC y), .pt (anL (smpS t y)) 0]
theorem smR_at {l : List Nat} {m i : Nat} (h : i < m) : (smR l m)[i]? = some (anL ((chK l i).map vI)) := by
  unfold smR chF
  rw [List.getElem?_map, List.getElem?_map, List.getElem?_range h]; rfl
theorem pr_idx {t : Tsk} (h : TskOk t) {x : Int} {j : Nat} (h1 : 0 ≤ x) (h2 : x < t.ne) (hj : (j : Int) < t.ne) : (0 ≤ x * t.ne ∧ x * t.ne ≤ 256) ∧ x * t.ne + (j : Int) < t.ne * t.ne := by
  have a1 := h.n1
  have a2 := h.n2
  have m := mulb (a := x) (b := t.ne) (A := 16) (B := 16) (by omega) (by omega) (by omega) (by omega)
  have p := Int.mul_nonneg h1 (show 0 ≤ t.ne by omega)
  have q := Int.mul_le_mul_of_nonneg_right (show x ≤ t.ne - 1 by omega) (show 0 ≤ t.ne by omega)
  rw [Int.sub_mul] at q
  omega
set_option maxRecDepth 100000 in
theorem fpairs_i (t : Tsk) (l : List Int) (h : TskOk t) (hl : ∀ x ∈ l, 0 ≤ x ∧ x < t.ne) (hll : l.length ≤ 10000) : PI Tryz.prog 171 [] [.pt [.sl 1 (l.map iC)] 0, .pt [.pt (tkC t) 0] 0] ((encQ t)) (pqL l t.ne.toNat) true := by
  have hn1 := h.n1
  have hn2 := h.n2
  obtain ⟨_, _, hm3⟩ := tsk_len h
  refine pi_of_iwp Tryz.func171 rfl Tryz.ntmps171 rfl rfl fun J c l0 hJ hy hdat hfin => ?_
  refine iwp_seq ?_
  apply iwp_reg hJ
  ·
    intro c1 hmine hrnd
    refine awp_region 3 mixed (by kernel_rfl) ?_
    refine rg_q (q_load sz77 rfl rfl) ?_
    refine rg_q (q_len isl77 rfl (by exact len_map _ _)) ?_
    refine rg_q (q_m rfl) ?_
    refine rn ?_
    exact ⟨rfl, rfl⟩
  change Iwp _ _ _ _ _ _ _
  refine iwp_len (t := 7) rfl (fun hl7 => ?_)
  (try simp only [List.length_map] at hl7)
  refine iwp_block ?_
  refine iwp_loopH [5, 6, 9, 10, 11, 12, 13, 14, 15, 16, 17, 18, 19, 20, 21, 22, 23, 24, 25, 26, 27, 28, 29, 30, 31, 32, 33, 34, 35, 36, 37, 38, 39, 40] [] (β := Nat) (fun i => [(9, T.i (i : Int))]) (fun i => []) (fun i => (true, pqF l t.ne.toNat i)) (fun i => i ≤ l.length) (fun i => l.length - i) 0 (Nat.zero_le _) rfl (fun c1 => ?_) ?_
  · exact le_head (ms := []) (by repeat (exact Out.refl _)) ⟨(by rfl), trivial⟩ trivial rfl rfl rfl rfl
  ·
    intro i hi
    refine iwp_seq ?_
    apply iwp_reg hJ
    ·
      intro c1 hmine hrnd
      refine awp_region 1 mixed (by kernel_rfl) ?_
      refine rg_q (q_lss rfl rfl) ?_
      refine rn ?_
      exact ⟨rfl, rfl⟩
    change Iwp _ _ _ _ _ _ _
    refine iwp_seq ?_
    refine iwp_cond rfl (fun hc1 => ?_) (fun hc1 => ?_)
    ·
      (try simp only [nb, ne_eq] at hc1)
      have hlt : i < l.length := by omega
      obtain ⟨x, hx⟩ : ∃ x, l[i]? = some x := ⟨_, List.getElem?_eq_getElem hlt⟩
      obtain ⟨hx1, hx2⟩ := hl x (List.mem_of_getElem? hx)
      refine iwp_skip ?_
      change Iwp _ _ _ _ _ _ _
      refine iwp_seq ?_
      refine iwp_block ?_
      refine iwp_seq ?_
      apply iwp_reg hJ
      ·
        intro c1 hmine hrnd
        refine awp_region 3 mixed (by kernel_rfl) ?_
        refine rg_q (q_indexAddr sl77 rfl rfl (by omega) (map_at (by omega) hx)) ?_
        refine rg_q (q_load sz3 rfl rfl) (rg_q (q_a rfl) ?_)
        refine rn ?_
        exact ⟨rfl, rfl⟩
      change Iwp _ _ _ _ _ _ _
      refine iwp_seq ?_
      apply iwp_reg hJ
      ·
        intro c1 hmine hrnd
        refine awp_region 5 mixed (by kernel_rfl) ?_
        refine rg_q (q_load sz156 rfl rfl) (rg_q (q_nilCheck rfl) (rg_q (q_fieldAddr fld202_2 rfl) (rg_q (q_load sz3 rfl rfl) (rg_q (q_m rfl) ?_))))
        refine rn ?_
        exact ⟨rfl, rfl⟩
      change Iwp _ _ _ _ _ _ _
      refine iwp_block ?_
      refine iwp_loopH [6, 17, 18, 19, 20, 21, 22, 23, 24, 25, 26, 27, 28, 29, 30, 31, 32, 33, 34, 35, 36, 37, 38, 39] [] (β := Nat) (fun j => [(17, T.i (j : Int))]) (fun j => []) (fun j => (true, pqF l t.ne.toNat i ++ pqR x j)) (fun j => j ≤ t.ne.toNat) (fun j => t.ne.toNat - j) 0 (Nat.zero_le _) (by show (true, _ ++ pqR x 0) = (true, _); simp [pqR]) (fun c1 => ?_) ?_
      · exact le_head (ms := []) (by repeat (exact Out.refl _)) ⟨(by rfl), trivial⟩ trivial rfl rfl rfl rfl
      ·
        intro j hj
        refine iwp_seq ?_
        apply iwp_reg hJ
        ·
          intro c1 hmine hrnd
          refine awp_region 1 mixed (by kernel_rfl) ?_
          refine rg_q (q_lss rfl rfl) ?_
          refine rn ?_
          exact ⟨rfl, rfl⟩
        change Iwp _ _ _ _ _ _ _
        refine iwp_seq ?_
        refine iwp_cond rfl (fun hc4 => ?_) (fun hc4 => ?_)
        ·
          (try simp only [nb, ne_eq] at hc4)
          have hlj : j < t.ne.toNat := by omega
          have hpre := pq_pre (n := t.ne.toNat) hx hlj
          obtain ⟨⟨hq1, hq2⟩, hq3⟩ := pr_idx h (j := j) hx1 hx2 (by omega)
          have hsm : (smR t.bf (tkM t))[(x * t.ne + (j : Int)).toNat]? = some (anL (smpS t (x, (j : Int)))) := smR_at (by omega)
          refine iwp_skip ?_
          change Iwp _ _ _ _ _ _ _
          refine iwp_seq ?_
          refine iwp_block ?_
          refine iwp_seq ?_
          apply iwp_reg hJ
          ·
            intro c1 hmine hrnd
            refine awp_region 2 mixed (by kernel_rfl) ?_
            refine rg_q (q_m rfl) (rg_q (q_a rfl) ?_)
            refine rn ?_
            exact ⟨rfl, rfl⟩
          change Iwp _ _ _ _ _ _ _
          refine iwp_seq ?_
          refine iwp_regionD 17 mixed hJ (by kernel_rfl) (fun c1 hmine => ?_)
          refine rg_q (q_move (x := .d (.fn _ _)) rfl) (rg_q (q_m rfl) (rg_q (q_m rfl) ?_))
          refine rg_q (q_buildA (cs := [_, _]) ar63 zr63 rfl (.cons rfl (by exact .inl rfl) (.cons rfl (by exact .inl rfl) .nil)) ⟨⟨rfl, by decide⟩, ⟨rfl, by decide⟩, trivial⟩ rfl) ?_
          refine rg_q (q_load sz156 rfl rfl) (rg_q (q_nilCheck rfl) (rg_q (q_fieldAddr fld202_3 rfl) (rg_q (q_load sz200 rfl rfl) (rg_q (q_m rfl) (rg_q (q_load sz156 rfl rfl) ?_)))))
          refine rg_q (q_nilCheck rfl) (rg_q (q_fieldAddr fld202_2 rfl) (rg_q (q_load sz3 rfl rfl) ?_))
          refine rg_q (q_mul rfl rfl (In64.mk (by omega) (by omega))) ?_
          refine rg_q (q_m rfl) ?_
          refine rg_q (q_add rfl rfl (In64.mk (by omega) (by omega))) ?_
          refine rg_q (q_indexAddr sl200 rfl rfl (by omega) (hsm)) ?_
          refine rg_nil ?_
          refine iops_yield (x := (x, (j : Int))) hy hdat rfl (.cons rfl (.cons rfl .nil)) hpre rfl (fun yb => ?_)
          refine iops_of hJ rfl (fun c1 _ _ _ h => by exact aops_q rfl ((q_not rfl)) h) ?_
          refine iops_nil ?_
          change Iwp _ _ _ _ _ _ _
          refine iwp_cond rfl (fun hc6 => ?_) (fun hc6 => ?_)
          ·
            (try simp only [nb, ne_eq] at hc6)
            have hyb : yb = false := by cases yb <;> first | rfl | (exfalso; simp_all; done)
            refine iwp_ret ?_
            exact ⟨.inl rfl, fun h => by rw [hyb] at h; cases h⟩
          ·
            (try simp only [nb, ne_eq] at hc6)
            have hyb : yb = true := by cases yb <;> first | rfl | (exfalso; simp_all; done)
            refine iwp_skip ?_
            change Iwp _ _ _ _ _ _ _
            apply iwp_reg hJ
            ·
              intro c1 hmine hrnd
              refine awp_region 2 mixed (by kernel_rfl) ?_
              refine rg_q (q_add rfl rfl (In64.mk (by omega) (by omega))) ?_
              refine rg_q (q_m rfl) ?_
              refine rn ?_
              exact ⟨rfl, rfl⟩
            refine ⟨j + 1, by omega, by omega, by rw [hyb, pqR_succ, List.append_assoc], fun c1 => ?_⟩
            exact le_head (ms := []) (by repeat (first | exact Out.head rfl rfl | (refine Out.put ?_ rfl))) ⟨(by rfl), trivial⟩ trivial rfl rfl rfl rfl
        ·
          (try simp only [nb, ne_eq] at hc4)
          have hjn : j = t.ne.toNat := by omega
          refine iwp_exit ?_
          change Iwp _ _ _ _ _ _ _
          apply iwp_reg hJ
          ·
            intro c1 hmine hrnd
            refine awp_region 2 mixed (by kernel_rfl) ?_
            refine rg_q (q_add rfl rfl (In64.mk (by omega) (by omega))) ?_
            refine rg_q (q_m rfl) ?_
            refine rn ?_
            exact ⟨rfl, rfl⟩
          refine ⟨i + 1, by omega, by omega, by rw [hjn, pqF_succ hx], fun c1 => ?_⟩
          exact le_head (ms := []) (by repeat (first | exact Out.head rfl rfl | (refine Out.put ?_ rfl) | (refine Out.headIn ?_ rfl rfl rfl))) ⟨(by rfl), trivial⟩ trivial rfl rfl rfl rfl
    ·
      (try simp only [nb, ne_eq] at hc1)
      have hin : i = l.length := by omega
      refine iwp_exit ?_
      exact ⟨.inr rfl, fun _ => by rw [hin, pqF_all]⟩
set_option maxRecDepth 100000 in
theorem fplus_p (a b c d : Int) (h1 : -1000000000000 ≤ a ∧ a ≤ 1000000000000) (h2 : -1000000000000 ≤ b ∧ b ≤ 1000000000000) (h3 : -1000000000000 ≤ c ∧ c ≤ 1000000000000) (h4 : -1000000000000 ≤ d ∧ d ≤ 1000000000000) : PC Tryz.prog 132 [.agg [.v (.int .i64 (a)), .v (.int .i64 (b))], .agg [.v (.int .i64 (c)), .v (.int .i64 (d))]] (.agg [.v (.int .i64 (a + c)), .v (.int .i64 (b + d))]) := by
 refine pc_of_awp Tryz.func132 rfl Tryz.ntmps132 (rs := [.cell 4 160]) Tryz.results132 (by simp) fun w0 => ?_
 refine awp_seq ?_
 refine awp_region 2 mixed (by kernel_rfl) ?_
 refine rg_q (q_box rfl (by exact .inr ⟨_, rfl⟩)) ?_
 refine rg_q (q_box rfl (by exact .inr ⟨_, rfl⟩)) ?_
 refine rg_nil ?_
 refine aops_alloc zr160 rfl rfl rfl ?_
 refine aops_nil ?_
 change Awp _ _ _ _ _
 refine awp_seq ?_
 refine awp_region 11 mixed (by kernel_rfl) ?_
 refine rg_q (q_fieldAddr fld160_0 rfl) (rg_q (q_load sz3 rfl rfl) (rg_q (q_fieldAddr fld160_0 rfl) (rg_q (q_load sz3 rfl rfl) ?_)))
 refine rg_q (q_add rfl rfl (In64.mk (by omega) (by omega))) ?_
 refine rg_q (q_fieldAddr fld160_1 rfl) (rg_q (q_load sz3 rfl rfl) (rg_q (q_fieldAddr fld160_1 rfl) (rg_q (q_load sz3 rfl rfl) ?_)))
 refine rg_q (q_add rfl rfl (In64.mk (by omega) (by omega))) ?_
 refine rg_q (q_build (cs := [_, _]) pl160 zr160 rfl (.cons rfl (by exact .inl rfl) (.cons rfl (by exact .inl rfl) .nil)) ⟨⟨rfl, by decide⟩, ⟨rfl, by decide⟩, trivial⟩ rfl) ?_
 refine rg_nil ?_
 refine aops_store sz160 rfl rfl (by exact .inr ⟨_, rfl⟩) rfl rfl (by decide) rfl ?_
 refine aops_nil ?_
 change Awp _ _ _ _ _
 refine awp_ret ?_
 refine ⟨_, (.cons (.cellA rfl rfl sz160 rfl) .nil), ?_⟩
 rfl
set_option maxRecDepth 100000 in
theorem fsample_p (re im : Int) (h1 : -4094 ≤ re ∧ re ≤ 4094) (h2 : -4094 ≤ im ∧ im ≤ 4094) : PC Tryz.prog 104 [cx re im] (.agg [.v (.int .i64 (re)), .v (.int .i64 (im))]) := by
 refine pc_of_awp Tryz.func104 rfl Tryz.ntmps104 (rs := [.cell 2 160]) Tryz.results104 (by simp) fun w0 => ?_
 refine awp_seq ?_
 refine awp_region 0 mixed (by kernel_rfl) ?_
 refine rg_nil ?_
 refine aops_alloc zr160 rfl rfl rfl ?_
 refine aops_nil ?_
 change Awp _ _ _ _ _
 refine awp_seq ?_
 refine awp_region 7 mixed (by kernel_rfl) ?_
 refine rg_q (q_m rfl) ?_
 refine rg_q (q_real rfl) ?_
 refine rg_q (q_convfi flt117 int3 rfl (f32_int (f32_of (by omega) (by omega)))) ?_
 refine rg_q (q_m rfl) ?_
 refine rg_q (q_imag rfl) ?_
 refine rg_q (q_convfi flt117 int3 rfl (f32_int (f32_of (by omega) (by omega)))) ?_
 refine rg_q (q_build (cs := [_, _]) pl160 zr160 rfl (.cons rfl (by exact .inl rfl) (.cons rfl (by exact .inl rfl) .nil)) ⟨⟨rfl, by decide⟩, ⟨rfl, by decide⟩, trivial⟩ rfl) ?_
 refine rg_nil ?_
 refine aops_store sz160 rfl rfl (by exact .inr ⟨_, rfl⟩) rfl rfl (by decide) rfl ?_
 refine aops_nil ?_
 change Awp _ _ _ _ _
 refine awp_ret ?_
 refine ⟨_, (.cons (.cellA rfl rfl sz160 rfl) .nil), ?_⟩
 rfl

def cz (re im : Int) : D := .v (.complex .f64 (FloatKind.f64.nearest re) (FloatKind.f64.nearest im))
set_option maxRecDepth 100000 in
theorem fnumber_p (re im : Int) : PC Tryz.prog 97 [.agg [.v (.int .i64 (re)), .v (.int .i64 (im))]] (cz re im) := by
 refine pc_of_awp Tryz.func97 rfl Tryz.ntmps97 (rs := [.tmp 2]) Tryz.results97 (by simp) fun w0 => ?_
 refine awp_seq ?_
 refine awp_region 2 mixed (by kernel_rfl) ?_
 refine rg_q (q_box rfl (by exact .inr ⟨_, rfl⟩)) ?_
 refine rg_q (q_a rfl) ?_
 refine rs (awp_region 8 mixed (by kernel_rfl) ?_)
 refine rg_q (q_fieldAddr fld160_0 rfl) (rg_q (q_load sz3 rfl rfl) ?_)
 refine rg_q (q_convf int3 flt167 rfl) ?_
 refine rg_q (q_fieldAddr fld160_1 rfl) (rg_q (q_load sz3 rfl rfl) ?_)
 refine rg_q (q_convf int3 flt167 rfl) ?_
 refine rg_q (q_complex rfl rfl) ?_
 refine rg_q (q_a rfl) ?_
 refine rn ?_
 change Awp _ _ _ _ _
 refine awp_ret ?_
 refine ⟨_, (.cons (.tmp (by exact .d _)) .nil), ?_⟩
 rfl
end Go.Proofs.YtphlaicnmmglhaaGreat.Am.M
-- mini
namespace Go.Proofs.YtphlaicnmmglhaaGreat.Am.M
open Go

def hasI (l : List Int) (n : Int) : Bool := l.any fun x => decide (n = x)
theorem reim_in {t : Tsk} (h : TskOk t) (y : Int × Int) (k : Nat) : (-4094 ≤ reI (smpS t y) k ∧ reI (smpS t y) k ≤ 4094) ∧ (-4094 ≤ imI (smpS t y) k ∧ imI (smpS t y) k ≤ 4094) := sq_bnd (vI_in (chK_wh h.wh _)) k
theorem anL_at {S : List Int} {k : Nat} (hk : k < 61) : (anL S)[k]? = some (cx (reI S k) (imI S k)) := by unfold anL; rw [List.getElem?_map, List.getElem?_range hk]; rfl
def vlF (t : Tsk) (c : Int) (dd : List Int) (s : (Int × Int) × Int) (y : Int × Int) : (Int × Int) × Int :=
  if (hasI dd y.1 || hasI dd y.2) = true then s
  else if inR 0 (smpI t.ar (spI t.g c) y) 60 = true then ((s.1.1 + reI (smpS t y) (smpI t.ar (spI t.g c) y).toNat, s.1.2 + imI (smpS t y) (smpI t.ar (spI t.g c) y).toNat), s.2 + 1)
  else s
def vlA (t : Tsk) (c : Int) (dd : List Int) (l : List (Int × Int)) : (Int × Int) × Int := l.foldl (vlF t c dd) ((0, 0), 0)
theorem vlA_snoc {t : Tsk} {c : Int} {dd : List Int} {l : List (Int × Int)} {k : Nat} {y : Int × Int} (h : l[k]? = some y) : vlA t c dd (l.take (k + 1)) = vlF t c dd (vlA t c dd (l.take k)) y := by
  obtain ⟨hlt, hx⟩ := List.getElem?_eq_some_iff.1 h
  unfold vlA
  rw [List.take_succ_eq_append_getElem hlt, hx, List.foldl_append]; rfl
theorem vlA_in {t : Tsk} (h : TskOk t) {c : Int} {dd : List Int} {l : List (Int × Int)} : ∀ k : Nat, k ≤ l.length → (-(4094 * (k : Int)) ≤ (vlA t c dd (l.take k)).1.1 ∧ (vlA t c dd (l.take k)).1.1 ≤ 4094 * (k : Int)) ∧ (-(4094 * (k : Int)) ≤ (vlA t c dd (l.take k)).1.2 ∧ (vlA t c dd (l.take k)).1.2 ≤ 4094 * (k : Int)) ∧ 0 ≤ (vlA t c dd (l.take k)).2 ∧ (vlA t c dd (l.take k)).2 ≤ (k : Int)
  | 0, _ => by
    have e : vlA t c dd (l.take 0) = ((0, 0), 0) := rfl
    rw [e]
    simp only; omega
  | k + 1, hk => by
    have ih := vlA_in h (c := c) (dd := dd) (l := l) k (by omega)
    have hy : l[k]? = some l[k] := List.getElem?_eq_getElem (by omega)
    have hb := reim_in h l[k] (smpI t.ar (spI t.g c) l[k]).toNat
    rw [vlA_snoc hy]
    unfold vlF
    split
    · omega
    · split
      · simp only; omega
      · omega
set_option maxRecDepth 100000 in
theorem value_p (t : Tsk) (c : Int) (fs dd : List Int) (h : TskOk t) (hc : clE t.g c = 0) (hf : ∀ x ∈ fs, 0 ≤ x ∧ x < t.ne) (hfl : fs.length ≤ 100) : PC Tryz.prog 95 [.pt (tkC t) 0, .v (.int .i64 (c)), .sl 1 (fs.map iC), .sl 1 (dd.map iC)] (.tup [.agg [.v (.int .i64 ((vlA t c dd (pqL fs t.ne.toNat)).1.1)), .v (.int .i64 ((vlA t c dd (pqL fs t.ne.toNat)).1.2))], .v (.int .i64 ((vlA t c dd (pqL fs t.ne.toNat)).2))]) := by
  have hn1 := h.n1
  have hn2 := h.n2
  have hlen : (pqL fs t.ne.toNat).length ≤ 1600 := by
    rw [pqL_len]
    have := Nat.mul_le_mul hfl (show t.ne.toNat ≤ 16 by omega)
    omega
  refine pc_of_awpN Tryz.func95 rfl Tryz.ntmps95 (rs := [.cell 8 160, .tmp 9]) Tryz.results95 (by simp) fun w0 hmine hrnd hpn => ?_
  refine awp_seq ?_
  refine awp_region 3 mixed (by kernel_rfl) ?_
  refine rg_q (q_box rfl (by exact .inl rfl)) ?_
  refine rg_q (q_box rfl (by exact .inl rfl)) ?_
  refine rg_q (q_box rfl (by exact .inl rfl)) ?_
  refine rg_nil ?_
  refine aops_alloc zr160 rfl rfl rfl ?_
  refine aops_q rfl (q_a rfl) ?_
  refine aops_nil ?_
  change Awp _ _ _ _ _
  refine awp_seq ?_
  refine awp_region 0 mixed (by kernel_rfl) ?_
  refine rg_nil ?_
  refine aops_alloc zr160 rfl rfl rfl ?_
  refine aops_nil ?_
  change Awp _ _ _ _ _
  refine awp_seq ?_
  refine awp_region 0 mixed (by kernel_rfl) ?_
  refine rg_nil ?_
  refine aops_alloc zr3 rfl rfl rfl ?_
  refine aops_store sz3 rfl rfl (by exact .inl rfl) rfl rfl (by decide) rfl ?_
  refine aops_nil ?_
  change Awp _ _ _ _ _
  refine awp_seq ?_
  refine awp_seq ?_
  refine awp_region 3 mixed (by kernel_rfl) ?_
  refine rg_q (q_load sz156 rfl rfl) (rg_q (q_move (x := .d (.sl _ _)) rfl) ?_)
  refine rg_q (q_call en102 (.cons rfl (.cons rfl .nil)) rfl (fpairs_p t fs)) ?_
  refine rn ?_
  change Awp _ _ _ _ _
  refine awp_block ?_
  refine awp_rangeFC (α := Int × Int) (β := Nat) (n := 51) (enc := (encQ t)) (items := pqL fs t.ne.toNat) 1000 [(4, .d (.pt [.pt (tkC t) 0] 0)), (5, .d (.pt [.v (.int .i64 (c))] 0)), (7, .d (.pt [.sl 1 (dd.map iC)] 0)), (8, .ref 8 0), (10, .ref 10 0), (11, .ref 11 0), (18, .d (.fn (.func 171) [.pt [.sl 1 (fs.map iC)] 0, .pt [.pt (tkC t) 0] 0]))] (fun x => [(8, .box [.v (.int .i64 (0)), .v (.int .i64 (0))]), (10, .box [.v (.int .i64 ((vlA t c dd ((pqL fs t.ne.toNat).take x)).1.1)), .v (.int .i64 ((vlA t c dd ((pqL fs t.ne.toNat).take x)).1.2))]), (11, .box [.v (.int .i64 ((vlA t c dd ((pqL fs t.ne.toNat).take x)).2))])]) (fun k x => x = k) (fun e x => False) 0 hrnd ?_ (.inr ⟨rfl, rfl⟩) en171 (fpairs_i t fs h hf (by omega)) rfl (fun _ => rfl) rfl (fun x => fsl_mem (fsl_cons (fst_box (by repeat (first | exact trivial | refine ⟨.v _, ?_⟩))) (fsl_cons (fst_box (by repeat (first | exact trivial | refine ⟨.v _, ?_⟩))) (fsl_cons (fst_box (by repeat (first | exact trivial | refine ⟨.v _, ?_⟩))) fsl_nil)))) (fun _ => rfl) rfl (fun h => by cases h) ?_ ?_ ?_
  · exact le_cst (fun k => k) _ _ rfl ⟨rfl, rfl, rfl, rfl, rfl, rfl, rfl, trivial⟩ ⟨rfl, rfl, rfl, trivial⟩ rfl (fun k b h => by rw [hpn k] at h; cases h)
  ·
    intro w1 hw1 k x y hI hy
    subst hI
    have hmy := pqL_in (List.mem_of_getElem? hy)
    obtain ⟨hy0, hy3, hy4⟩ := hmy
    obtain ⟨hy1, hy2⟩ := hf _ hy0
    have hxl : x < (pqL fs t.ne.toNat).length := (List.getElem?_eq_some_iff.1 hy).1
    obtain ⟨⟨b1, b2⟩, ⟨b3, b4⟩, b5, b6⟩ := vlA_in h (c := c) (dd := dd) (l := pqL fs t.ne.toNat) x (by omega)
    obtain ⟨hre, him⟩ := reim_in h y (smpI t.ar (spI t.g c) y).toNat
    have hst := vlA_snoc (t := t) (c := c) (dd := dd) hy
    unfold vlF at hst
    refine awp_seq ?_
    refine awp_region 0 mixed (by kernel_rfl) ?_
    refine rg_nil ?_
    refine aops_allocD zr63 rfl sz63 rfl rfl (by exact .inr ⟨_, rfl⟩) rfl rfl ?_
    refine aops_nil ?_
    change Awp _ _ _ _ _
    refine awp_region 1 mixed (by kernel_rfl) ?_
    refine rg_q (q_assign (x := .d (.pt _ _)) rfl) ?_
    refine rn ?_
    refine ⟨rfl, fun w2 hw2 => ?_⟩
    refine awp_block ?_
    refine awp_seq ?_
    refine awp_seq ?_
    refine awp_region 10 mixed (by kernel_rfl) ?_
    refine rg_q (q_load sz77 rfl rfl) ?_
    refine rg_q (q_indexAddr_ar ar63 rfl rfl (by omega) (by omega)) ?_
    refine rg_q (q_load sz3 rfl rfl) ?_
    refine rg_q (q_call en170 (.cons rfl (.cons rfl .nil)) rfl (contains5_p dd y.1)) ?_
    refine rg_q (q_m rfl) ?_
    refine rg_g rfl rfl (fun hG => (q_load sz77 rfl rfl)) ?_
    refine rg_g rfl rfl (fun hG => (q_indexAddr_ar ar63 rfl rfl (by (have hg0 := T.bool_inj (a := _) hG.1; (try simp only [nb, ne_eq] at hg0); omega)) (by (have hg0 := T.bool_inj (a := _) hG.1; (try simp only [nb, ne_eq] at hg0); omega)))) ?_
    refine rg_g rfl rfl (fun hG => (q_load sz3 rfl rfl)) ?_
    refine rg_g rfl rfl (fun hG => (q_call en170 (.cons rfl (.cons rfl .nil)) rfl (contains5_p dd y.2))) ?_
    refine rg_pick rfl rfl rfl rfl rfl rfl ?_
    refine rn ?_
    change Awp _ _ _ _ _
    refine awp_cond rfl (fun hc6 => ?_) (fun hc6 => ?_)
    ·
      (try simp only [nb, ne_eq] at hc6)
      have hd : (hasI dd y.1 || hasI dd y.2) = true := by unfold hasI; simpa using hc6
      rw [if_pos hd] at hst
      refine awp_exit ?_
      refine .inl ⟨rfl, x + 1, rfl, ?_⟩
      exact le_round [] _ hw2 rfl ⟨(by rfl), (by (show Site.box _ = Site.box _; (rw [hst]; done))), (by (show Site.box _ = Site.box _; (rw [hst]; done))), trivial⟩ rfl
    ·
      (try simp only [nb, ne_eq] at hc6)
      have hd : ¬ (hasI dd y.1 || hasI dd y.2) = true := by
        intro q
        rw [Bool.or_eq_true] at q
        unfold hasI at q
        rcases q with q | q
        · rw [hc6.1] at q; cases q
        · rw [hc6.2] at q; cases q
      rw [if_neg hd] at hst
      refine awp_skip ?_
      change Awp _ _ _ _ _
      refine awp_seq ?_
      refine awp_region 9 mixed (by kernel_rfl) ?_
      refine rg_q (q_load sz156 rfl rfl) (rg_q (q_load sz3 rfl rfl) ?_)
      refine rg_q (q_loadA (ds := [_, _]) sz63 rfl rfl rfl) ?_
      refine rg_q (q_call en109 (.cons rfl (.cons rfl (.cons rfl .nil))) rfl (number_p t c y h hc ⟨⟨hy1, hy2⟩, hy3, by omega⟩)) ?_
      refine rg_q (q_move (x := .d (.tup _)) rfl) (rg_q (q_extract rfl rfl) (rg_q (q_extract rfl rfl) (rg_q (q_a rfl) (rg_q (q_a rfl) ?_))))
      refine rs (awp_region 1 mixed (by kernel_rfl) ?_)
      refine rg_q (q_m rfl) ?_
      refine rn ?_
      change Awp _ _ _ _ _
      refine awp_cond rfl (fun hc8 => ?_) (fun hc8 => ?_)
      ·
        (try simp only [nb, ne_eq] at hc8)
        rw [if_pos hc8] at hst
        have hin := inR_iff.1 hc8
        refine awp_regionL 10 1 [8, 9] mixed (by kernel_rfl) ?_
        refine rg_q (q_load_refA (ds := [_, _]) sz160 rfl rfl rfl rfl) ?_
        refine rg_q (q_move (x := .d (.pt _ _)) rfl) (rg_q (q_m rfl) (rg_q (q_nilCheck rfl) ?_))
        refine rg_q (q_indexAddr_ar ar273 rfl rfl (by omega) (by omega)) ?_
        refine rg_q (q_load sz178 rfl (by rw [Nat.zero_add, Nat.mul_one]; exact anL_at (S := smpS t y) (by omega))) ?_
        refine rg_q (q_call en104 (.cons rfl .nil) rfl (fsample_p _ _ hre him)) ?_
        refine rg_q (q_call en132 (.cons rfl (.cons rfl .nil)) rfl (fplus_p _ _ _ _ (by omega) (by omega) (by omega) (by omega))) ?_
        refine rg_q (q_load_ref sz3 rfl rfl rfl) ?_
        refine rg_q (q_add rfl rfl (In64.mk (by omega) (by omega))) ?_
        refine rg_nil ?_
        refine late_set (c_store sz160 rfl rfl (by exact .inr ⟨_, rfl⟩) rfl rfl (by simp) rfl) ?_ ?_
        · refine fl_cons rfl rfl rfl (c_q (q_load_ref sz3 rfl rfl rfl)) ?_
          first | refine fl_cons rfl rfl rfl (c_q (q_add rfl rfl (In64.mk (by omega) (by omega)))) ?_
          exact fl_nil
        refine late_nil ?_
        refine aops_store sz3 rfl rfl (by exact .inl rfl) rfl rfl (by simp; done) rfl ?_
        refine aops_nil ?_
        refine .inl ⟨rfl, x + 1, rfl, ?_⟩
        exact le_round [] _ hw2 rfl ⟨(by rfl), (by (show Site.box _ = Site.box _; (rw [hst]; rfl))), (by (show Site.box _ = Site.box _; (rw [hst]; rfl))), trivial⟩ rfl
      ·
        (try simp only [nb, ne_eq] at hc8)
        rw [if_neg (by rw [hc8]; decide)] at hst
        refine awp_skip ?_
        refine .inl ⟨rfl, x + 1, rfl, ?_⟩
        exact le_round [] _ hw2 rfl ⟨(by rfl), (by (show Site.box _ = Site.box _; (rw [hst]; done))), (by (show Site.box _ = Site.box _; (rw [hst]; done))), trivial⟩ rfl
  ·
    intro x hI
    have hI2 : x = (pqL fs t.ne.toNat).length := hI
    subst hI2
    rw [List.take_length] at *
    change Awp _ _ _ _ _
    refine awp_seq ?_
    refine awp_regionM 4 [none, none, some 8, none] mixed (by kernel_rfl) ?_
    refine rgm_q rfl (q_load_refA (ds := [_, _]) sz160 rfl rfl rfl rfl) ?_
    refine rgm_q rfl (q_load_ref sz3 rfl rfl rfl) ?_
    refine rgm_m (k := 8) rfl rfl (by rfl) (m_store sz160 rfl rfl (by exact .inr ⟨_, rfl⟩) rfl rfl (by decide) rfl) ?_
    refine rgm_q rfl (q_a rfl) ?_
    refine rgm_nil (aops_nil ?_)
    change Awp _ _ _ _ _
    refine awp_ret ?_
    refine ⟨_, (.cons (.cellA rfl rfl sz160 rfl) (.cons (.tmp (by exact .d _)) .nil)), ?_⟩
    rfl
  ·
    exact fun e x h => h.elim

def evL (t : Tsk) : List (Int × Int) := pqL (allL t.ne.toNat) t.ne.toNat
theorem allL_ok {t : Tsk} (h : TskOk t) : (∀ x ∈ allL t.ne.toNat, 0 ≤ x ∧ x < t.ne) ∧ (allL t.ne.toNat).length ≤ 16 := by
  have h1 := h.n1
  have h2 := h.n2
  refine ⟨fun x hx => ?_, by rw [allL_len]; omega⟩
  have := allL_in hx
  omega
end Go.Proofs.YtphlaicnmmglhaaGreat.Am.M
-- mini
namespace Go.Proofs.YtphlaicnmmglhaaGreat.Am.M
open Go

def lC (l : List Int) : List D := [.sl 1 (l.map iC)]
end Go.Proofs.YtphlaicnmmglhaaGreat.Am.M
-- mini
namespace Go.Proofs.YtphlaicnmmglhaaGreat.Am.M
open Go

end Go.Proofs.YtphlaicnmmglhaaGreat.Am.M
-- mini
namespace Go.Proofs.YtphlaicnmmglhaaGreat.Am.M
open Go

theorem takeSnoc {α : Type} {l : List α} {k : Nat} {y : α} (h : l[k]? = some y) : l.take (k + 1) = l.take k ++ [y] := by
  obtain ⟨hlt, rfl⟩ := List.getElem?_eq_some_iff.1 h
  rw [List.take_succ_eq_append_getElem hlt]
end Go.Proofs.YtphlaicnmmglhaaGreat.Am.M
-- mini
namespace Go.Proofs.YtphlaicnmmglhaaGreat.Am.M
open Go

theorem two (i : Nat) (h : i < 2) : i = 0 ∨ i = 1 := by omega
end Go.Proofs.YtphlaicnmmglhaaGreat.Am.M
-- mini
namespace Go.Proofs.YtphlaicnmmglhaaGreat.Am.M
open Go

def sbB (a b c d : Nat) : Bool := bif decide ((a : Int) = (c : Int)) then decide ((b : Int) = (d : Int)) else false
set_option maxRecDepth 100000 in
theorem sameBits_p (a b c d : Nat) : PC Tryz.prog 26 [.v (.complex .f64 a b), .v (.complex .f64 c d)] (.v (.bool (sbB a b c d))) := by
 refine pc_of_awp Tryz.func26 rfl Tryz.ntmps26 (rs := [.tmp 4]) Tryz.results26 (by simp) fun w0 => ?_
 refine awp_seq ?_
 refine awp_region 1 mixed (by kernel_rfl) ?_
 refine rg_q (q_a rfl) ?_
 refine rs (awp_region 17 mixed (by kernel_rfl) ?_)
 refine rg_q (q_m rfl) ?_
 refine rg_q (q_real rfl) ?_
 refine rg_q (q_ext1 (e := Extern.MathFloatBits.float64bits) Tryz.func98 (by kernel_rfl) (by kernel_rfl) (by kernel_rfl) (by kernel_rfl) rfl rfl (fun w => rfl) rfl) ?_
 refine rg_q (q_m rfl) ?_
 refine rg_q (q_real rfl) ?_
 refine rg_q (q_ext1 (e := Extern.MathFloatBits.float64bits) Tryz.func98 (by kernel_rfl) (by kernel_rfl) (by kernel_rfl) (by kernel_rfl) rfl rfl (fun w => rfl) rfl) ?_
 refine rg_q (q_eql rfl rfl) (rg_q (q_m rfl) ?_)
 refine rg_g rfl rfl (fun hG => (q_m rfl)) ?_
 refine rg_g rfl rfl (fun hG => (q_imag rfl)) ?_
 refine rg_g rfl rfl (fun hG => (q_ext1 (e := Extern.MathFloatBits.float64bits) Tryz.func98 (by kernel_rfl) (by kernel_rfl) (by kernel_rfl) (by kernel_rfl) rfl rfl (fun w => rfl) rfl)) ?_
 refine rg_g rfl rfl (fun hG => (q_m rfl)) ?_
 refine rg_g rfl rfl (fun hG => (q_imag rfl)) ?_
 refine rg_g rfl rfl (fun hG => (q_ext1 (e := Extern.MathFloatBits.float64bits) Tryz.func98 (by kernel_rfl) (by kernel_rfl) (by kernel_rfl) (by kernel_rfl) rfl rfl (fun w => rfl) rfl)) ?_
 refine rg_g rfl rfl (fun hG => (q_eql rfl rfl)) ?_
 refine rg_pick rfl rfl rfl rfl rfl rfl ?_
 refine rg_q (q_a rfl) ?_
 refine rn ?_
 change Awp _ _ _ _ _
 refine awp_ret ?_
 refine ⟨_, (.cons (.tmp (by exact .d _)) .nil), ?_⟩
 rfl
end Go.Proofs.YtphlaicnmmglhaaGreat.Am.M
-- mini
namespace Go.Proofs.YtphlaicnmmglhaaGreat.Am.M
open Go

end Go.Proofs.YtphlaicnmmglhaaGreat.Am.M
-- mini
namespace Go.Proofs.YtphlaicnmmglhaaGreat.Am.M
open Go
end Go.Proofs.YtphlaicnmmglhaaGreat.Am.M
-- mini
namespace Go.Proofs.YtphlaicnmmglhaaGreat.Am.M
open Go

end Go.Proofs.YtphlaicnmmglhaaGreat.Am.M
-- mini
namespace Go.Proofs.YtphlaicnmmglhaaGreat.Am.M
open Go

def sEr (c1 c2 c3 : Bool) (n : Int) : Int := if (c1 || c2) = true then 2 else if c3 = true then 25 else if inR (-2047) n 2047 = true then 0 else 2
set_option maxRecDepth 100000 in
theorem tsampleBad_p (b : Nat) (h : floatBits .sub .f32 b b = none) : PC Tryz.prog 234 [fd b] (.v (.int .i64 (25))) := by
 refine pc_of_awp Tryz.func234 rfl Tryz.ntmps234 (rs := [.tmp 2]) Tryz.results234 (by simp) fun w0 => ?_
 refine awp_seq ?_
 refine awp_region 1 mixed (by kernel_rfl) ?_
 refine rg_q (q_a rfl) ?_
 refine rn ?_
 change Awp _ _ _ _ _
 refine awp_seq ?_
 refine awp_block ?_
 refine awp_seq ?_
 refine awp_region 10 mixed (by kernel_rfl) ?_
 refine rg_q (q_m rfl) (rg_q (q_m rfl) ?_)
 refine rg_q (q_fcmp (by decide) rfl rfl rfl) ?_
 refine rg_q (q_m rfl) ?_
 refine rg_g rfl rfl (fun hG => (q_m rfl)) ?_
 refine rg_g rfl rfl (fun hG => (q_m rfl)) ?_
 refine rg_g rfl rfl (fun hG => (q_farN (by decide) rfl rfl h)) ?_
 refine rg_g rfl rfl (fun hG => (q_fcmpN (by decide) rfl rfl rfl)) ?_
 refine rg_pick rfl rfl rfl rfl rfl rfl ?_
 refine rg_q (q_a rfl) ?_
 refine rn ?_
 change Awp _ _ _ _ _
 refine awp_cond rfl (fun hc1 => ?_) (fun hc1 => ?_)
 ·
  (try simp only [nb, ne_eq] at hc1)
  refine awp_seq ?_
  refine awp_region 1 mixed (by kernel_rfl) ?_
  refine rg_q (q_a rfl) ?_
  refine rn ?_
  change Awp _ _ _ _ _
  refine awp_ret ?_
  refine ⟨_, (.cons (.tmp (by exact .d _)) .nil), ?_⟩
  rfl
 ·
  rw [show ordB .neq none = true from rfl] at hc1
  simp [bif_or] at hc1
set_option maxRecDepth 100000 in
theorem tsampleNum_p (b : Nat) (c1 c2 c3 : Bool) (n : Int) (hs : floatBits .sub .f32 b b = some 0) (h0 : ordB .neq (FloatKind.f32.format.order b b) = false) (h1 : ordB .geq (FloatKind.f32.format.order b 1266679808) = c1) (h2 : ordB .leq (FloatKind.f32.format.order b 3414163456) = c2) (h3 : (c1 || c2) = false → floatToIntVal .f32 b .i64 = some n ∧ ordB .neq (FloatKind.f32.format.order (FloatKind.f32.nearest n) b) = c3) : PC Tryz.prog 234 [fd b] (.v (.int .i64 (sEr c1 c2 c3 n))) := by
 refine pc_of_awp Tryz.func234 rfl Tryz.ntmps234 (rs := [.tmp 2]) Tryz.results234 (by simp) fun w0 => ?_
 refine awp_seq ?_
 refine awp_region 1 mixed (by kernel_rfl) ?_
 refine rg_q (q_a rfl) ?_
 refine rn ?_
 change Awp _ _ _ _ _
 refine awp_seq ?_
 refine awp_block ?_
 refine awp_seq ?_
 refine awp_region 10 mixed (by kernel_rfl) ?_
 refine rg_q (q_m rfl) (rg_q (q_m rfl) ?_)
 refine rg_q (q_fcmp (by decide) rfl rfl h0) ?_
 refine rg_q (q_m rfl) ?_
 refine rg_g rfl rfl (fun hG => (q_m rfl)) ?_
 refine rg_g rfl rfl (fun hG => (q_m rfl)) ?_
 refine rg_g rfl rfl (fun hG => (q_fbin (by decide) rfl rfl hs)) ?_
 refine rg_g rfl rfl (fun hG => (q_fcmp (by decide) rfl rfl whl_zero)) ?_
 refine rg_pick rfl rfl rfl rfl rfl rfl ?_
 refine rg_q (q_a rfl) ?_
 refine rn ?_
 change Awp _ _ _ _ _
 refine awp_cond rfl (fun hc1 => ?_) (fun hc1 => ?_)
 ·
  cases hc1
 ·
  (try simp only [nb, ne_eq] at hc1)
  refine awp_seq ?_
  refine awp_region 7 mixed (by kernel_rfl) ?_
  refine rg_q (q_m rfl) ?_
  refine rg_q (q_fcmp (by decide) rfl rfl h1) ?_
  refine rg_q (q_m rfl) ?_
  refine rg_g rfl rfl (fun hG => (q_m rfl)) ?_
  refine rg_g rfl rfl (fun hG => (q_fcmp (by decide) rfl rfl h2)) ?_
  refine rg_pick rfl rfl rfl rfl rfl rfl ?_
  refine rg_q (q_a rfl) ?_
  refine rn ?_
  change Awp _ _ _ _ _
  refine awp_cond rfl (fun hc3 => ?_) (fun hc3 => ?_)
  ·
   (try simp only [nb, ne_eq] at hc3)
   have hq : (c1 || c2) = true := by simpa using hc3
   have hz : sEr c1 c2 c3 n = 2 := by unfold sEr; rw [if_pos hq]
   rw [hz]
   refine awp_seq ?_
   refine awp_region 1 mixed (by kernel_rfl) ?_
   refine rg_q (q_a rfl) ?_
   refine rn ?_
   change Awp _ _ _ _ _
   refine awp_ret ?_
   refine ⟨_, (.cons (.tmp (by exact .d _)) .nil), ?_⟩
   rfl
  ·
   (try simp only [nb, ne_eq] at hc3)
   have hq : (c1 || c2) = false := by simpa using hc3
   obtain ⟨hi, hb⟩ := h3 hq
   refine awp_seq ?_
   refine awp_region 6 mixed (by kernel_rfl) ?_
   refine rg_q (q_m rfl) ?_
   refine rg_q (q_convfi flt117 int3 rfl hi) ?_
   refine rg_q (q_convf int3 flt117 rfl) ?_
   refine rg_q (q_m rfl) ?_
   refine rg_q (q_fcmp (by decide) rfl rfl hb) ?_
   refine rg_q (q_a rfl) ?_
   refine rn ?_
   change Awp _ _ _ _ _
   refine awp_cond rfl (fun hc5 => ?_) (fun hc5 => ?_)
   ·
    (try simp only [nb, ne_eq] at hc5)
    have hz : sEr c1 c2 c3 n = 25 := by unfold sEr; rw [if_neg (by rw [hq]; decide), if_pos hc5]
    rw [hz]
    refine awp_seq ?_
    refine awp_region 1 mixed (by kernel_rfl) ?_
    refine rg_q (q_a rfl) ?_
    refine rn ?_
    change Awp _ _ _ _ _
    refine awp_ret ?_
    refine ⟨_, (.cons (.tmp (by exact .d _)) .nil), ?_⟩
    rfl
   ·
    (try simp only [nb, ne_eq] at hc5)
    refine awp_seq ?_
    refine awp_region 5 mixed (by kernel_rfl) ?_
    refine rg_q (q_m rfl) ?_
    refine rg_q (q_convfi flt117 int3 rfl hi) ?_
    refine rg_q (q_call en267 (.cons rfl (.cons rfl .nil)) rfl (tsmall_p _ _ (by omega) (by omega))) ?_
    refine rg_q (q_not rfl) (rg_q (q_a rfl) ?_)
    refine rn ?_
    change Awp _ _ _ _ _
    refine awp_cond rfl (fun hc7 => ?_) (fun hc7 => ?_)
    ·
     (try simp only [nb, ne_eq] at hc7)
     have hz : sEr c1 c2 c3 n = 2 := by unfold sEr; rw [if_neg (by rw [hq]; decide), if_neg (by rw [hc5]; decide), if_neg (by simpa using hc7)]
     rw [hz]
     refine awp_seq ?_
     refine awp_region 1 mixed (by kernel_rfl) ?_
     refine rg_q (q_a rfl) ?_
     refine rn ?_
     change Awp _ _ _ _ _
     refine awp_ret ?_
     refine ⟨_, (.cons (.tmp (by exact .d _)) .nil), ?_⟩
     rfl
    ·
     (try simp only [nb, ne_eq] at hc7)
     have hz : sEr c1 c2 c3 n = 0 := by unfold sEr; rw [if_neg (by rw [hq]; decide), if_neg (by rw [hc5]; decide), if_pos (by simpa using hc7)]
     rw [hz]
     refine awp_skip ?_
     change Awp _ _ _ _ _
     refine awp_seq ?_
     refine awp_region 1 mixed (by kernel_rfl) ?_
     refine rg_q (q_a rfl) ?_
     refine rn ?_
     change Awp _ _ _ _ _
     refine awp_ret ?_
     refine ⟨_, (.cons (.tmp (by exact .d _)) .nil), ?_⟩
     rfl

theorem in_M {s : Bool} {N : Nat} (k : Nat) : (-(k : Int) ≤ sgI s N ∧ sgI s N ≤ (k : Int)) ↔ N ≤ k := by unfold sgI; cases s <;> simp <;> omega
theorem sg_le {s : Bool} {M : Nat} (K : Nat) (hM : ¬ K ≤ M) : decide (sgI false K ≤ sgI s M) = false ∧ decide (sgI s M ≤ sgI true K) = false := by
  refine ⟨decide_eq_false ?_, decide_eq_false ?_⟩ <;> (unfold sgI; cases s <;> simp <;> omega)
theorem sg_ge {s : Bool} {M : Nat} (K : Nat) (hM : K ≤ M) : (decide (sgI false K ≤ sgI s M) || decide (sgI s M ≤ sgI true K)) = true := by
  rw [Bool.or_eq_true, decide_eq_true_eq, decide_eq_true_eq]
  cases s
  · left; unfold sgI; simp; omega
  · right; unfold sgI; simp; omega
theorem div_le {M k : Nat} : M / QQ ≤ k ↔ M < (k + 1) * QQ := by
  rw [← Nat.lt_succ_iff, Nat.div_lt_iff_lt_mul QQ_pos]
theorem i64_of {a : Int} (h : a.natAbs ≤ 1000000000000000000) : IntKind.i64.min ≤ a ∧ a ≤ IntKind.i64.max := by
  show (-9223372036854775808 : Int) ≤ a ∧ a ≤ 9223372036854775807
  omega
theorem int_num {k : FloatKind} {b : Nat} {s : Bool} {M : Nat} (h : Numb k.format b s M) (hM : M / QQ ≤ 1000000000000000000) : floatToIntVal k b .i64 = some (sgI s (M / QQ)) := by
  unfold floatToIntVal
  have h1 : (k.decode b).toInt .zero = some (sgI s (M / QQ)) := toInt_num h
  rw [h1]
  exact if_pos (i64_of (by rw [sg_abs]; exact hM))
theorem neq_back {f : Ieee.Format} {p L I : Nat} (h : Fm f p L I) (hL : L ≤ KK) {b : Nat} {s : Bool} {m : Nat} {e : Int} {M : Nat} (hr : f.read b = .number s m e) (hM : m * 2 ^ (e + KK).toNat = M) : ordB .neq (f.order (wd f (sgI s (M / QQ))) b) = !decide (M % QQ = 0) := by
  have := back_ord h hL hr hM
  unfold ordB
  rw [bne, this]
theorem tsampleErr5_p (b : Nat) : PC Tryz.prog 234 [fd b] (.v (.int .i64 (sE b))) := by
  cases hr : Ieee.single.read b with
  | nan s t =>
    have e : sE b = 25 := by unfold sE; rw [hr]
    rw [e]
    exact tsampleBad_p b (show Ieee.single.sub b b = none by unfold Ieee.Format.sub; rw [hr]; rfl)
  | infinity s =>
    have e : sE b = 25 := by unfold sE; rw [hr]
    rw [e]
    exact tsampleBad_p b (sub_inf hr)
  | number s m e =>
    obtain ⟨M, hM⟩ : ∃ M, m * 2 ^ (e + KK).toNat = M := ⟨_, rfl⟩
    have hn := num_of fmS LS hr
    rw [hM] at hn
    have e : sE b = sEM M := by unfold sE; rw [hr]; simp only [hM]
    rw [e]
    have h := tsampleNum_p b _ _ (!decide (M % QQ = 0)) (sgI s (M / QQ)) (sub_num hn) (ob_self hn) (ob_geq hn num_hi) (ob_leq hn num_lo) (fun q => ?_)
    · have e2 : sEr (decide (sgI false (16777216 * QQ) ≤ sgI s M)) (decide (sgI s M ≤ sgI true (16777216 * QQ))) (!decide (M % QQ = 0)) (sgI s (M / QQ)) = sEM M := by
        unfold sEr sEM
        by_cases h1 : 16777216 * QQ ≤ M
        · rw [if_pos (sg_ge _ h1), if_pos h1]
        · obtain ⟨h2, h3⟩ := sg_le (s := s) _ h1
          rw [h2, h3, if_neg (by decide), if_neg h1]
          by_cases h4 : M % QQ = 0
          · rw [decide_eq_true h4, if_neg (by decide), if_neg (c := M % QQ ≠ 0) (fun q => q h4)]
            have h5 : inR (-2047) (sgI s (M / QQ)) 2047 = true ↔ M / QQ ≤ 2047 := by
              rw [inR_iff]; exact in_M 2047
            have hd := Nat.div_add_mod M QQ
            rw [h4, Nat.add_zero] at hd
            by_cases h6 : M / QQ ≤ 2047
            · rw [if_pos (h5.2 h6), if_neg]
              rw [← hd, Nat.mul_comm QQ]
              have := Nat.mul_le_mul_right QQ h6
              omega
            · rw [if_neg (fun q => h6 (h5.1 q)), if_pos]
              rw [← hd, Nat.mul_comm QQ]
              exact Nat.mul_lt_mul_of_pos_right (by omega) QQ_pos
          · rw [decide_eq_false h4, if_pos (show (!false) = true from rfl), if_pos (c := M % QQ ≠ 0) h4]
      rw [e2] at h
      exact h
    · have h1 : ¬ 16777216 * QQ ≤ M := fun h1 => by rw [sg_ge _ h1] at q; cases q
      have h2 : M / QQ ≤ 16777215 := div_le.2 (by omega)
      exact ⟨int_num (k := .f32) hn (by omega), neq_back fmS LS hr hM⟩

def whD (b : Nat) : Bool :=
  match Ieee.double.read b with
  | .number _ m e => decide (m * 2 ^ (e + KK).toNat % QQ = 0)
  | _ => false
end Go.Proofs.YtphlaicnmmglhaaGreat.Am.M
-- mini
namespace Go.Proofs.YtphlaicnmmglhaaGreat.Am.M
open Go

def ssE : Nat → List Nat → Int × Int
  | _, [] => (0, 0)
  | i, b :: r => if sE b ≠ 0 then ((i : Int), sE b) else ssE (i + 1) r
theorem ssE_at {l : List Nat} {k : Nat} {x : Nat} (hx : l[k]? = some x) : ssE k (l.drop k) = if sE x ≠ 0 then ((k : Int), sE x) else ssE (k + 1) (l.drop (k + 1)) := by
  obtain ⟨hlt, rfl⟩ := List.getElem?_eq_some_iff.1 hx
  rw [List.drop_eq_getElem_cons hlt]; rfl
theorem ssE_ok : ∀ {l : List Nat} {i : Nat}, (ssE i l).2 = 0 → ∀ b ∈ l, sE b = 0
  | [], _, _, p, hp => by cases hp
  | q :: l, i, h, p, hp => by
    unfold ssE at h
    by_cases h1 : sE q ≠ 0
    · rw [if_pos h1] at h; exact absurd h h1
    · rw [if_neg h1] at h
      rcases List.mem_cons.1 hp with rfl | hp
      · exact Decidable.not_not.1 h1
      · exact ssE_ok h p hp
def ckM (ne : Int) (l : List Nat) : Int × Int := if inR 1 ne 16 = true then (if (l.length : Int) ≠ ne * ne * 64 then (0, 10) else ssE 0 l) else (0, 2)
def ckT (t : Tsk) : Int × Int :=
  if (ckArr t.ar).2 ≠ 0 then ckArr t.ar
  else if (ckM t.ne t.bf).2 ≠ 0 then (0, (ckM t.ne t.bf).2)
  else if (t.ar.el.length : Int) ≠ t.ne then (0, 13)
  else if ckG t.g ≠ 0 then (0, ckG t.g)
  else (0, whenI (!inR 1 t.g.fz (t.ar.ou.t - 1) || !inR 1 (spI t.g (t.g.co * t.g.ro - 1)).2 (t.ar.ou.t - 1)) 22)
theorem f32_num {b : Nat} {s : Bool} {m : Nat} {e : Int} (hr : Ieee.single.read b = .number s m e) (h0 : sEM (m * 2 ^ (e + KK).toNat) = 0) : Whl b (sgI s (m * 2 ^ (e + KK).toNat / QQ)) := by
  obtain ⟨M, hM⟩ : ∃ M, m * 2 ^ (e + KK).toNat = M := ⟨_, rfl⟩
  have hn := num_of fmS LS hr
  rw [hM] at hn h0 ⊢
  unfold sEM at h0
  by_cases h1 : 16777216 * QQ ≤ M
  · rw [if_pos h1] at h0; cases h0
  rw [if_neg h1] at h0
  by_cases h2 : M % QQ ≠ 0
  · rw [if_pos h2] at h0; cases h0
  rw [if_neg h2] at h0
  by_cases h3 : 2047 * QQ < M
  · rw [if_pos h3] at h0; cases h0
  have hq : M / QQ ≤ 2047 := Nat.div_le_of_le_mul (by rw [Nat.mul_comm]; omega)
  obtain ⟨h4, h5⟩ := sg_le (s := s) _ h1
  obtain ⟨h6, h7⟩ := (in_M (s := s) 2047).2 hq
  refine ⟨h6, h7, ob_self hn, sub_num hn, (ob_geq hn num_hi).trans h4, (ob_leq hn num_lo).trans h5, int_num (k := .f32) hn (by omega), ?_⟩
  have := neq_back fmS LS hr hM
  rw [decide_eq_true (Decidable.not_not.1 h2)] at this
  exact this
theorem sE_whl {b : Nat} (h : sE b = 0) : Whl b (vI b) := by
  unfold sE at h
  cases hr : Ieee.single.read b with
  | nan s t => rw [hr] at h; cases h
  | infinity s => rw [hr] at h; cases h
  | number s m e =>
    rw [hr] at h
    have := f32_num hr h
    rw [this.v]; exact this
theorem ckM_ok {ne : Int} {l : List Nat} (h : (ckM ne l).2 = 0) : 1 ≤ ne ∧ ne ≤ 16 ∧ (l.length : Int) = ne * ne * 64 ∧ WhlL l := by
  unfold ckM at h
  by_cases h1 : inR 1 ne 16 = true
  · rw [if_pos h1] at h
    by_cases h2 : (l.length : Int) ≠ ne * ne * 64
    · rw [if_pos h2] at h; cases h
    · rw [if_neg h2] at h
      obtain ⟨a, b⟩ := inR_iff.1 h1
      exact ⟨a, b, Decidable.not_not.1 h2, fun x hx => sE_whl (ssE_ok h x hx)⟩
  · rw [if_neg h1] at h; cases h
theorem ckT_ok {t : Tsk} (h : (ckT t).2 = 0) : TskOk t := by
  unfold ckT at h
  by_cases h1 : (ckArr t.ar).2 ≠ 0
  · rw [if_pos h1] at h; exact absurd h h1
  rw [if_neg h1] at h
  by_cases h2 : (ckM t.ne t.bf).2 ≠ 0
  · rw [if_pos h2] at h; exact absurd h h2
  rw [if_neg h2] at h
  by_cases h3 : (t.ar.el.length : Int) ≠ t.ne
  · rw [if_pos h3] at h; cases h
  rw [if_neg h3] at h
  by_cases h4 : ckG t.g ≠ 0
  · rw [if_pos h4] at h; exact absurd h h4
  rw [if_neg h4] at h
  simp only at h
  rw [when_zero (by decide), Bool.or_eq_false_iff, Bool.not_eq_false', Bool.not_eq_false'] at h
  obtain ⟨a1, a2, a3, a4⟩ := ckM_ok (Decidable.not_not.1 h2)
  obtain ⟨b1, b2⟩ := inR_iff.1 h.1
  obtain ⟨b3, b4⟩ := inR_iff.1 h.2
  exact ⟨Decidable.not_not.1 h1, a1, a2, a3, a4, Decidable.not_not.1 h3, Decidable.not_not.1 h4, b1, b2, b3, b4⟩
set_option maxRecDepth 100000 in
theorem tsamples5_p (l : List Nat) : PC Tryz.prog 165 [.sl 1 (l.map fC)] (.tup [.v (.int .i64 ((ssE 0 l).1)), .v (.int .i64 ((ssE 0 l).2))]) := by
 refine pc_of_awp Tryz.func165 rfl Tryz.ntmps165 (rs := [.tmp 2, .tmp 3]) Tryz.results165 (by simp) fun w0 => ?_
 refine awp_seq ?_
 refine awp_region 2 mixed (by kernel_rfl) ?_
 refine rg_q (q_a rfl) (rg_q (q_a rfl) ?_)
 refine rn ?_
 change Awp _ _ _ _ _
 refine awp_seq ?_
 refine awp_seq ?_
 refine awp_region 3 mixed (by kernel_rfl) ?_
 refine rg_q (q_move (x := .d (.sl _ _)) rfl) ?_
 refine rg_q (q_len isl29 rfl (by exact len_map _ _)) ?_
 refine rg_q (q_m rfl) ?_
 refine rn ?_
 change Awp _ _ _ _ _
 refine awp_len (t := 7) rfl (fun hl7 => ?_)
 (try simp only [List.length_map] at hl7)
 refine awp_block ?_
 refine awp_loopH [2, 3, 4, 5, 6, 9, 10, 11, 12, 13, 14, 15, 16, 17, 18, 19, 20] [] (α := Nat) (fun k => [(9, T.i (k : Int))]) (fun k => []) (fun k => k ≤ l.length ∧ ssE 0 l = ssE k (l.drop k)) (fun k => l.length - k) 0 ⟨Nat.zero_le _, rfl⟩ ?_ ?_
 · exact le_head (ms := []) (by repeat (exact Out.refl _)) ⟨(by rfl), trivial⟩ trivial rfl rfl rfl rfl
 ·
  intro k ⟨hk, hf⟩
  refine awp_seq ?_
  refine awp_region 1 mixed (by kernel_rfl) ?_
  refine rg_q (q_lss rfl rfl) ?_
  refine rn ?_
  change Awp _ _ _ _ _
  refine awp_seq ?_
  refine awp_cond rfl (fun hc2 => ?_) (fun hc2 => ?_)
  ·
   (try simp only [nb, ne_eq] at hc2)
   have hlt : k < l.length := by omega
   obtain ⟨x, hx⟩ : ∃ x, l[k]? = some x := ⟨_, List.getElem?_eq_getElem hlt⟩
   have hd := ssE_at hx
   refine awp_skip ?_
   change Awp _ _ _ _ _
   refine awp_seq ?_
   refine awp_block ?_
   refine awp_seq ?_
   refine awp_region 5 mixed (by kernel_rfl) ?_
   refine rg_q (q_m rfl) ?_
   refine rg_q (q_indexAddr sl29 rfl rfl (by omega) (map_at (by omega) hx)) ?_
   refine rg_q (q_load sz117 rfl rfl) (rg_q (q_a rfl) (rg_q (q_a rfl) ?_))
   refine rs (awp_region 3 mixed (by kernel_rfl) ?_)
   refine rg_q (q_m rfl) ?_
   refine rg_q (q_call en234 (.cons rfl .nil) rfl (tsampleErr5_p _)) ?_
   refine rg_q (q_a rfl) ?_
   refine rs (awp_region 2 mixed (by kernel_rfl) ?_)
   refine rg_q (q_m rfl) (rg_q (q_neq rfl rfl) ?_)
   refine rn ?_
   change Awp _ _ _ _ _
   refine awp_cond rfl (fun hc5 => ?_) (fun hc5 => ?_)
   ·
    (try simp only [nb, ne_eq] at hc5)
    have hb : sE x ≠ 0 := hc5
    have hz : ssE 0 l = ((k : Int), sE x) := by rw [hf, hd, if_pos hb]
    rw [hz]
    refine awp_seq ?_
    refine awp_region 4 mixed (by kernel_rfl) ?_
    refine rg_q (q_m rfl) (rg_q (q_m rfl) (rg_q (q_a rfl) (rg_q (q_a rfl) ?_)))
    refine rn ?_
    change Awp _ _ _ _ _
    refine awp_ret ?_
    refine ⟨_, (.cons (.tmp (by exact .d _)) (.cons (.tmp (by exact .d _)) .nil)), ?_⟩
    rfl
   ·
    (try simp only [nb, ne_eq] at hc5)
    have hb : sE x = 0 := hc5
    refine awp_skip ?_
    change Awp _ _ _ _ _
    refine awp_region 2 mixed (by kernel_rfl) ?_
    refine rg_q (q_add rfl rfl (In64.mk (by omega) (by omega))) ?_
    refine rg_q (q_m rfl) ?_
    refine rn ?_
    refine ⟨k + 1, ⟨by omega, by rw [hf, hd, if_neg (by rw [hb]; simp)]⟩, by omega, ?_⟩
    exact le_head (ms := []) (by repeat (first | exact Out.head rfl rfl | (refine Out.put ?_ rfl))) ⟨(by rfl), trivial⟩ trivial rfl rfl rfl rfl
  ·
   (try simp only [nb, ne_eq] at hc2)
   have hk0 : ssE 0 l = (0, 0) := by rw [hf, List.drop_of_length_le (by omega)]; rfl
   rw [hk0]
   refine awp_exit ?_
   change Awp _ _ _ _ _
   refine awp_seq ?_
   refine awp_region 2 mixed (by kernel_rfl) ?_
   refine rg_q (q_a rfl) (rg_q (q_a rfl) ?_)
   refine rn ?_
   change Awp _ _ _ _ _
   refine awp_ret ?_
   refine ⟨_, (.cons (.tmp (by exact .d _)) (.cons (.tmp (by exact .d _)) .nil)), ?_⟩
   rfl
set_option maxRecDepth 100000 in
theorem checkMatrix5_p (ne : Int) (l : List Nat) : PC Tryz.prog 86 [.agg [.v (.int .i64 (ne)), .sl 1 (l.map fC)]] (.tup [.v (.int .i64 ((ckM ne l).1)), .v (.int .i64 ((ckM ne l).2))]) := by
 have hu : ckM ne l = if inR 1 ne 16 = true then (if (l.length : Int) ≠ ne * ne * 64 then (0, 10) else ssE 0 l) else (0, 2) := rfl
 refine pc_of_awp Tryz.func86 rfl Tryz.ntmps86 (rs := [.tmp 2, .tmp 3]) Tryz.results86 (by simp) fun w0 => ?_
 refine awp_seq ?_
 refine awp_region 3 mixed (by kernel_rfl) ?_
 refine rg_q (q_box rfl (by exact .inr ⟨_, rfl⟩)) ?_
 refine rg_q (q_a rfl) (rg_q (q_a rfl) ?_)
 refine rn ?_
 change Awp _ _ _ _ _
 refine awp_seq ?_
 refine awp_block ?_
 refine awp_seq ?_
 refine awp_region 5 mixed (by kernel_rfl) ?_
 refine rg_q (q_fieldAddr fld31_0 rfl) (rg_q (q_load sz3 rfl rfl) ?_)
 refine rg_q (q_call en155 (.cons rfl (.cons rfl (.cons rfl .nil))) rfl (twithin_p _ _ _)) ?_
 refine rg_q (q_not rfl) (rg_q (q_a rfl) ?_)
 refine rn ?_
 change Awp _ _ _ _ _
 refine awp_cond rfl (fun hc1 => ?_) (fun hc1 => ?_)
 ·
  (try simp only [nb, ne_eq] at hc1)
  rw [if_neg (by simpa using hc1)] at hu
  rw [hu]
  refine awp_seq ?_
  refine awp_region 2 mixed (by kernel_rfl) ?_
  refine rg_q (q_a rfl) (rg_q (q_a rfl) ?_)
  refine rn ?_
  change Awp _ _ _ _ _
  refine awp_ret ?_
  refine ⟨_, (.cons (.tmp (by exact .d _)) (.cons (.tmp (by exact .d _)) .nil)), ?_⟩
  rfl
 ·
  (try simp only [nb, ne_eq] at hc1)
  have hr1 : inR 1 ne 16 = true := by simpa using hc1
  rw [if_pos hr1] at hu
  obtain ⟨hn1, hn2⟩ := inR_iff.1 hr1
  have hm := mulb (a := ne) (b := ne) (A := 16) (B := 16) (by omega) (by omega) (by omega) (by omega)
  refine awp_seq ?_
  refine awp_region 11 mixed (by kernel_rfl) ?_
  refine rg_q (q_fieldAddr fld31_1 rfl) (rg_q (q_load sz29 rfl rfl) ?_)
  refine rg_q (q_len isl29 rfl (by exact len_map _ _)) ?_
  refine rg_q (q_fieldAddr fld31_0 rfl) (rg_q (q_load sz3 rfl rfl) (rg_q (q_fieldAddr fld31_0 rfl) (rg_q (q_load sz3 rfl rfl) ?_)))
  refine rg_q (q_mul rfl rfl (In64.mk (by omega) (by omega))) ?_
  refine rg_q (q_mul rfl rfl (In64.mk (by omega) (by omega))) ?_
  refine rg_q (q_neq rfl rfl) (rg_q (q_a rfl) ?_)
  refine rn ?_
  change Awp _ _ _ _ _
  refine awp_len (t := 11) rfl (fun hl11 => ?_)
  (try simp only [List.length_map] at hl11)
  refine awp_cond rfl (fun hc3 => ?_) (fun hc3 => ?_)
  ·
   (try simp only [nb, ne_eq] at hc3)
   rw [if_pos (by simpa using hc3)] at hu
   rw [hu]
   refine awp_seq ?_
   refine awp_region 2 mixed (by kernel_rfl) ?_
   refine rg_q (q_a rfl) (rg_q (q_a rfl) ?_)
   refine rn ?_
   change Awp _ _ _ _ _
   refine awp_ret ?_
   refine ⟨_, (.cons (.tmp (by exact .d _)) (.cons (.tmp (by exact .d _)) .nil)), ?_⟩
   rfl
  ·
   (try simp only [nb, ne_eq] at hc3)
   rw [if_neg (by simpa using hc3)] at hu
   rw [hu]
   refine awp_skip ?_
   change Awp _ _ _ _ _
   refine awp_seq ?_
   refine awp_region 7 mixed (by kernel_rfl) ?_
   refine rg_q (q_fieldAddr fld31_1 rfl) (rg_q (q_load sz29 rfl rfl) ?_)
   refine rg_q (q_call en165 (.cons rfl .nil) rfl (tsamples5_p l)) ?_
   refine rg_q (q_extract rfl rfl) (rg_q (q_extract rfl rfl) (rg_q (q_a rfl) (rg_q (q_a rfl) ?_)))
   refine rn ?_
   change Awp _ _ _ _ _
   refine awp_ret ?_
   refine ⟨_, (.cons (.tmp (by exact .d _)) (.cons (.tmp (by exact .d _)) .nil)), ?_⟩
   rfl
set_option maxRecDepth 100000 in
theorem checkTask5_p (t : Tsk) : PC Tryz.prog 20 [.agg (tskC t)] (.tup [.v (.int .i64 ((ckT t).1)), .v (.int .i64 ((ckT t).2))]) := by
 have hu : ckT t = if (ckArr t.ar).2 ≠ 0 then ckArr t.ar
  else if (ckM t.ne t.bf).2 ≠ 0 then (0, (ckM t.ne t.bf).2)
  else if (t.ar.el.length : Int) ≠ t.ne then (0, 13)
  else if ckG t.g ≠ 0 then (0, ckG t.g)
  else (0, whenI (!inR 1 t.g.fz (t.ar.ou.t - 1) || !inR 1 (spI t.g (t.g.co * t.g.ro - 1)).2 (t.ar.ou.t - 1)) 22) := rfl
 refine pc_of_awpN Tryz.func20 rfl Tryz.ntmps20 (rs := [.tmp 2, .tmp 3]) Tryz.results20 (by simp) fun w0 hmine hrnd hpn => ?_
 refine awp_seq ?_
 refine awp_region 3 mixed (by kernel_rfl) ?_
 refine rg_q (q_box rfl (by exact .inr ⟨_, rfl⟩)) ?_
 refine rg_q (q_a rfl) (rg_q (q_a rfl) ?_)
 refine rn ?_
 change Awp _ _ _ _ _
 refine awp_seq ?_
 refine awp_seq ?_
 refine awp_region 8 mixed (by kernel_rfl) ?_
 refine rg_q (q_fieldAddr fld37_0 rfl) ?_
 refine rg_q (q_loadA (ds := [_, _, _, _, _, _, _, _, _, _, _]) sz28 rfl rfl rfl) ?_
 refine rg_q (q_call en85 (.cons rfl .nil) rfl (checkArray_p t.ar)) ?_
 refine rg_q (q_move (x := .d (.tup _)) rfl) (rg_q (q_extract rfl rfl) (rg_q (q_extract rfl rfl) (rg_q (q_a rfl) (rg_q (q_a rfl) ?_))))
 refine rs (awp_region 2 mixed (by kernel_rfl) ?_)
 refine rg_q (q_m rfl) (rg_q (q_neq rfl rfl) ?_)
 refine rn ?_
 change Awp _ _ _ _ _
 refine awp_cond rfl (fun hc2 => ?_) (fun hc2 => ?_)
 ·
  (try simp only [nb, ne_eq] at hc2)
  have h1 : (ckArr t.ar).2 ≠ 0 := hc2
  rw [if_pos h1] at hu
  rw [hu]
  refine awp_seq ?_
  refine awp_region 4 mixed (by kernel_rfl) ?_
  refine rg_q (q_m rfl) (rg_q (q_m rfl) (rg_q (q_a rfl) (rg_q (q_a rfl) ?_)))
  refine rn ?_
  change Awp _ _ _ _ _
  refine awp_ret ?_
  refine ⟨_, (.cons (.tmp (by exact .d _)) (.cons (.tmp (by exact .d _)) .nil)), ?_⟩
  rfl
 ·
  (try simp only [nb, ne_eq] at hc2)
  have h1 : ¬ (ckArr t.ar).2 ≠ 0 := fun q => q hc2
  rw [if_neg h1] at hu
  refine awp_skip ?_
  change Awp _ _ _ _ _
  refine awp_seq ?_
  refine awp_seq ?_
  refine awp_region 8 mixed (by kernel_rfl) ?_
  refine rg_q (q_fieldAddr fld37_1 rfl) ?_
  refine rg_q (q_loadA (ds := [_, _]) sz31 rfl rfl rfl) ?_
  refine rg_q (q_call en86 (.cons rfl .nil) rfl (checkMatrix5_p t.ne t.bf)) ?_
  refine rg_q (q_move (x := .d (.tup _)) rfl) (rg_q (q_extract rfl rfl) (rg_q (q_extract rfl rfl) (rg_q (q_a rfl) (rg_q (q_a rfl) ?_))))
  refine rs (awp_region 2 mixed (by kernel_rfl) ?_)
  refine rg_q (q_m rfl) (rg_q (q_neq rfl rfl) ?_)
  refine rn ?_
  change Awp _ _ _ _ _
  refine awp_cond rfl (fun hc5 => ?_) (fun hc5 => ?_)
  ·
   (try simp only [nb, ne_eq] at hc5)
   have h2 : (ckM t.ne t.bf).2 ≠ 0 := hc5
   rw [if_pos h2] at hu
   rw [hu]
   refine awp_seq ?_
   refine awp_region 3 mixed (by kernel_rfl) ?_
   refine rg_q (q_m rfl) (rg_q (q_a rfl) (rg_q (q_a rfl) ?_))
   refine rn ?_
   change Awp _ _ _ _ _
   refine awp_ret ?_
   refine ⟨_, (.cons (.tmp (by exact .d _)) (.cons (.tmp (by exact .d _)) .nil)), ?_⟩
   rfl
  ·
   (try simp only [nb, ne_eq] at hc5)
   have h2 : ¬ (ckM t.ne t.bf).2 ≠ 0 := fun q => q hc5
   rw [if_neg h2] at hu
   refine awp_skip ?_
   change Awp _ _ _ _ _
   refine awp_seq ?_
   refine awp_seq ?_
   refine awp_region 8 mixed (by kernel_rfl) ?_
   refine rg_q (q_fieldAddr fld37_0 rfl) (rg_q (q_fieldAddr fld28_0 rfl) (rg_q (q_load sz22 rfl rfl) ?_))
   refine rg_q (q_len isl22 rfl (by exact len_map _ _)) ?_
   refine rg_q (q_fieldAddr fld37_1 rfl) (rg_q (q_fieldAddr fld31_0 rfl) (rg_q (q_load sz3 rfl rfl) (rg_q (q_neq rfl rfl) ?_)))
   refine rn ?_
   change Awp _ _ _ _ _
   refine awp_len (t := 32) rfl (fun hl32 => ?_)
   (try simp only [List.length_map] at hl32)
   refine awp_cond rfl (fun hc7 => ?_) (fun hc7 => ?_)
   ·
    (try simp only [nb, ne_eq] at hc7)
    have h3 : (t.ar.el.length : Int) ≠ t.ne := by simpa using hc7
    rw [if_pos h3] at hu
    rw [hu]
    refine awp_seq ?_
    refine awp_region 2 mixed (by kernel_rfl) ?_
    refine rg_q (q_a rfl) (rg_q (q_a rfl) ?_)
    refine rn ?_
    change Awp _ _ _ _ _
    refine awp_ret ?_
    refine ⟨_, (.cons (.tmp (by exact .d _)) (.cons (.tmp (by exact .d _)) .nil)), ?_⟩
    rfl
   ·
    (try simp only [nb, ne_eq] at hc7)
    have h3 : ¬ (t.ar.el.length : Int) ≠ t.ne := by simpa using hc7
    rw [if_neg h3] at hu
    refine awp_skip ?_
    change Awp _ _ _ _ _
    refine awp_seq ?_
    refine awp_seq ?_
    refine awp_region 4 mixed (by kernel_rfl) ?_
    refine rg_q (q_fieldAddr fld37_2 rfl) ?_
    refine rg_q (q_loadA (ds := [_, _, _, _, _]) sz35 rfl rfl rfl) ?_
    refine rg_q (q_call en87 (.cons rfl .nil) rfl (fcheckGrid_p t.g)) ?_
    refine rg_q (q_a rfl) ?_
    refine rs (awp_region 2 mixed (by kernel_rfl) ?_)
    refine rg_q (q_m rfl) (rg_q (q_neq rfl rfl) ?_)
    refine rn ?_
    change Awp _ _ _ _ _
    refine awp_cond rfl (fun hc10 => ?_) (fun hc10 => ?_)
    ·
     (try simp only [nb, ne_eq] at hc10)
     have h4 : ckG t.g ≠ 0 := hc10
     rw [if_pos h4] at hu
     rw [hu]
     refine awp_seq ?_
     refine awp_region 3 mixed (by kernel_rfl) ?_
     refine rg_q (q_m rfl) (rg_q (q_a rfl) (rg_q (q_a rfl) ?_))
     refine rn ?_
     change Awp _ _ _ _ _
     refine awp_ret ?_
     refine ⟨_, (.cons (.tmp (by exact .d _)) (.cons (.tmp (by exact .d _)) .nil)), ?_⟩
     rfl
    ·
     (try simp only [nb, ne_eq] at hc10)
     have h4 : ¬ ckG t.g ≠ 0 := fun q => q hc10
     rw [if_neg h4] at hu
     obtain ⟨hao, _⟩ := ckArr_ok (Decidable.not_not.1 h1)
     have ht1 := hao.ou.t1
     have ht2 := hao.ou.t2
     obtain ⟨hg, hg1, hg2⟩ := ckG_ok (Decidable.not_not.1 h4)
     have hci := cells_in hg
     refine awp_skip ?_
     change Awp _ _ _ _ _
     refine awp_seq ?_
     refine awp_region 3 mixed (by kernel_rfl) ?_
     refine rg_q (q_fieldAddr fld37_2 rfl) ?_
     refine rg_q (q_loadA (ds := [_, _, _, _, _]) sz35 rfl rfl rfl) ?_
     refine rg_q (q_build (cs := [_, _, _, _, _]) pl150 zr150 rfl (.cons rfl (by exact .inr ⟨_, rfl⟩) .nil) ⟨⟨rfl, by decide⟩, trivial⟩ rfl) ?_
     refine rg_nil ?_
     refine aops_allocD zr150 rfl sz150 rfl rfl (by exact .inr ⟨_, rfl⟩) rfl rfl ?_
     refine aops_nil ?_
     change Awp _ _ _ _ _
     refine awp_seq ?_
     refine awp_region 5 mixed (by kernel_rfl) ?_
     refine rg_q (q_fieldAddr fld37_0 rfl) (rg_q (q_fieldAddr fld28_1 rfl) (rg_q (q_fieldAddr fld24_3 rfl) (rg_q (q_load sz3 rfl rfl) (rg_q (q_a rfl) ?_))))
     refine rs (awp_region 23 mixed (by kernel_rfl) ?_)
     refine rg_q (q_fieldAddr fld37_2 rfl) (rg_q (q_fieldAddr fld35_0 rfl) (rg_q (q_fieldAddr fld33_1 rfl) (rg_q (q_load sz3 rfl rfl) (rg_q (q_m rfl) ?_))))
     refine rg_q (q_sub rfl rfl (In64.mk (by omega) (by omega))) ?_
     refine rg_q (q_call en89 (.cons rfl (.cons rfl (.cons rfl .nil))) rfl (fwithin_p _ _ _)) ?_
     refine rg_q (q_not rfl) (rg_q (q_m rfl) ?_)
     refine rg_g rfl rfl (fun hG => (q_loadA (ds := [_, _, _, _, _]) sz150 rfl rfl rfl)) ?_
     refine rg_g rfl rfl (fun hG => (q_loadA (ds := [_, _, _, _, _]) sz150 rfl rfl rfl)) ?_
     refine rg_g rfl rfl (fun hG => (q_call en91 (.cons rfl .nil) rfl (fcells_p _ (by assumption)))) ?_
     refine rg_g rfl rfl (fun hG => (q_sub rfl rfl (In64.mk (by (have hg0 := T.bool_inj (a := _) hG.1; (try simp only [nb, ne_eq] at hg0); omega)) (by (have hg0 := T.bool_inj (a := _) hG.1; (try simp only [nb, ne_eq] at hg0); omega))))) ?_
     refine rg_g rfl rfl (fun hG => (q_call en90 (.cons rfl (.cons rfl .nil)) rfl (fspot_p _ _ (by assumption) (by omega) (by omega)))) ?_
     refine rg_g rfl rfl (fun hG => (q_field fd33_1 sz3 rfl rfl)) ?_
     refine rg_g rfl rfl (fun hG => (q_m rfl)) ?_
     refine rg_g rfl rfl (fun hG => (q_sub rfl rfl (In64.mk (by (have hg0 := T.bool_inj (a := _) hG.1; (try simp only [nb, ne_eq] at hg0); omega)) (by (have hg0 := T.bool_inj (a := _) hG.1; (try simp only [nb, ne_eq] at hg0); omega))))) ?_
     refine rg_g rfl rfl (fun hG => (q_call en89 (.cons rfl (.cons rfl (.cons rfl .nil))) rfl (fwithin_p _ _ _))) ?_
     refine rg_g rfl rfl (fun hG => (q_not rfl)) ?_
     refine rg_pick rfl rfl rfl rfl rfl rfl ?_
     refine rg_q (q_call en88 (.cons rfl (.cons rfl .nil)) rfl (fwhen_p _ _)) ?_
     refine rg_q (q_a rfl) (rg_q (q_a rfl) ?_)
     refine rn ?_
     change Awp _ _ _ _ _
     refine awp_ret ?_
     refine ⟨_, (.cons (.tmp (by exact .d _)) (.cons (.tmp (by exact .d _)) .nil)), ?_⟩
     rw [hu]; (try simp only [bif_or]); rfl
end Go.Proofs.YtphlaicnmmglhaaGreat.Am.M
-- mini
namespace Go.Proofs.YtphlaicnmmglhaaGreat.Am.M
open Go

set_option maxRecDepth 100000 in
theorem copyMatrix5_p (ne : Int) (l : List Nat) (hl : l.length ≤ 10000) : PC Tryz.prog 62 [.agg [.v (.int .i64 (ne)), .sl 1 (l.map fC)]] (.agg (mtxC ne l)) := by
 refine pc_of_awp Tryz.func62 rfl Tryz.ntmps62 (rs := [.cell 2 31]) Tryz.results62 (by simp) fun w0 => ?_
 refine awp_seq ?_
 refine awp_region 1 mixed (by kernel_rfl) ?_
 refine rg_q (q_box rfl (by exact .inr ⟨_, rfl⟩)) ?_
 refine rg_nil ?_
 refine aops_alloc zr31 rfl rfl rfl ?_
 refine aops_nil ?_
 change Awp _ _ _ _ _
 refine awp_seq ?_
 refine awp_region 7 mixed (by kernel_rfl) ?_
 refine rg_q (q_fieldAddr fld31_0 rfl) (rg_q (q_load sz3 rfl rfl) ?_)
 refine rg_q (q_empty0 sl29 zr117) ?_
 refine rg_q (q_fieldAddr fld31_1 rfl) (rg_q (q_load sz29 rfl rfl) ?_)
 refine rg_q (q_append0 sl29 zr117 by117 rfl (by decide) rfl rfl rfl (by (try simp only [List.length_map]); omega) (by (try simp only [List.length_map]); omega)) ?_
 refine rg_q (q_build (cs := [_, _]) pl31 zr31 rfl (.cons rfl (by exact .inl rfl) (.cons rfl (by exact .inl rfl) .nil)) ⟨⟨rfl, by decide⟩, ⟨rfl, by decide⟩, trivial⟩ rfl) ?_
 refine rg_nil ?_
 refine aops_store sz31 rfl rfl (by exact .inr ⟨_, rfl⟩) rfl rfl (by decide) rfl ?_
 refine aops_nil ?_
 change Awp _ _ _ _ _
 refine awp_ret ?_
 refine ⟨_, (.cons (.cellA rfl rfl sz31 rfl) .nil), ?_⟩
 rfl
end Go.Proofs.YtphlaicnmmglhaaGreat.Am.M
-- mini
namespace Go.Proofs.YtphlaicnmmglhaaGreat.Am.M
open Go

theorem chK_at {l : List Nat} {i k : Nat} (hk : k < 64) : (chK l i)[k]? = l[64 * i + k]? := by
  unfold chK
  rw [List.getElem?_drop, List.getElem?_take, if_pos (by omega)]
theorem vlF_nil (t : Tsk) (c : Int) (s : (Int × Int) × Int) (y : Int × Int) : vlF t c [] s y = if inR 0 (smpI t.ar (spI t.g c) y) 60 = true then ((s.1.1 + reI (smpS t y) (smpI t.ar (spI t.g c) y).toNat, s.1.2 + imI (smpS t y) (smpI t.ar (spI t.g c) y).toNat), s.2 + 1) else s := if_neg (show ¬ (hasI [] y.1 || hasI [] y.2) = true from Bool.false_ne_true)
def PrsOk (t : Tsk) (l : List (Int × Int)) : Prop := (∀ y ∈ l, (0 ≤ y.1 ∧ y.1 < t.ne) ∧ 0 ≤ y.2 ∧ y.2 < t.ne) ∧ l.length ≤ 1600
theorem ev_ok {t : Tsk} (h : TskOk t) : PrsOk t (evL t) := by
  obtain ⟨ha1, ha2⟩ := allL_ok h
  have h1 := h.n1
  have h2 := h.n2
  refine ⟨fun y hy => ?_, ?_⟩
  · obtain ⟨q1, q2, q3⟩ := pqL_in hy
    exact ⟨ha1 _ q1, q2, by omega⟩
  · unfold evL
    rw [pqL_len]
    have := Nat.mul_le_mul ha2 (show t.ne.toNat ≤ 16 by omega)
    omega
set_option maxRecDepth 100000 in
theorem open5_p (t : Tsk) (hw : (ckT t).2 ≠ 0) : PC Tryz.prog 112 [.agg (tskC t)] (.tup [.v (.pointer none), .v (.int .i64 ((ckT t).2))]) := by
 refine pc_of_awpN Tryz.func112 rfl Tryz.ntmps112 (rs := [.tmp 2, .tmp 3]) Tryz.results112 (by simp) fun w0 hmine hrnd hpn => ?_
 refine awp_seq ?_
 refine awp_region 3 mixed (by kernel_rfl) ?_
 refine rg_q (q_box rfl (by exact .inr ⟨_, rfl⟩)) ?_
 refine rg_q (q_a rfl) (rg_q (q_a rfl) ?_)
 refine rn ?_
 change Awp _ _ _ _ _
 refine awp_seq ?_
 refine awp_seq ?_
 refine awp_region 7 mixed (by kernel_rfl) ?_
 refine rg_q (q_loadA sz37 rfl rfl rfl) ?_
 refine rg_q (q_call en20 (.cons rfl .nil) rfl (checkTask5_p t)) ?_
 refine rg_q (q_move (x := .d (.tup _)) rfl) (rg_q (q_extract rfl rfl) (rg_q (q_extract rfl rfl) (rg_q (q_a rfl) (rg_q (q_a rfl) ?_))))
 refine rs (awp_region 2 mixed (by kernel_rfl) ?_)
 refine rg_q (q_m rfl) (rg_q (q_neq rfl rfl) ?_)
 refine rn ?_
 change Awp _ _ _ _ _
 refine awp_cond rfl (fun hc2 => ?_) (fun hc2 => ?_)
 ·
  (try simp only [nb, ne_eq] at hc2)
  refine awp_seq ?_
  refine awp_region 3 mixed (by kernel_rfl) ?_
  refine rg_q (q_m rfl) (rg_q (q_a rfl) (rg_q (q_a rfl) ?_))
  refine rn ?_
  change Awp _ _ _ _ _
  refine awp_ret ?_
  refine ⟨_, (.cons (.tmp (by exact .d _)) (.cons (.tmp (by exact .d _)) .nil)), ?_⟩
  rfl
 ·
  (try simp only [nb, ne_eq] at hc2)
  exact absurd hc2 hw
def cvD (z : Nat × Nat) : D := .v (.complex .f64 z.1 z.2)
def czP (x : Int × Int) : Nat × Nat := (FloatKind.f64.nearest x.1, FloatKind.f64.nearest x.2)
end Go.Proofs.YtphlaicnmmglhaaGreat.Am.M
-- mini
namespace Go.Proofs.YtphlaicnmmglhaaGreat.Am.M
open Go

theorem clE_of {g : Grd} {c : Int} (h1 : 0 ≤ c) (h2 : c ≤ g.co * g.ro - 1) : clE g c = 0 := by
  unfold clE
  rw [when_zero (by decide), Bool.not_eq_false']
  exact inR_iff.2 ⟨h1, h2⟩
def cvC (z : Nat × Nat) : List D := [cvD z]
def vlsF (t : Tsk) (fs dd : List Int) (k : Nat) : List (Int × Int) := (List.range k).map fun c : Nat => (vlA t (c : Int) dd (pqL fs t.ne.toNat)).1
theorem vlsF_succ (t : Tsk) (fs dd : List Int) (k : Nat) : vlsF t fs dd (k + 1) = vlsF t fs dd k ++ [(vlA t (k : Int) dd (pqL fs t.ne.toNat)).1] := by unfold vlsF; rw [List.range_succ, List.map_append]; rfl
theorem vlsF_len (t : Tsk) (fs dd : List Int) (k : Nat) : (vlsF t fs dd k).length = k := by unfold vlsF; rw [List.length_map, List.length_range]
def clN (t : Tsk) : Nat := (t.g.co * t.g.ro).toNat
def vlsL (t : Tsk) (fs dd : List Int) : List (Int × Int) := vlsF t fs dd (clN t)
set_option maxRecDepth 100000 in
theorem values_p (t : Tsk) (fs dd : List Int) (h : TskOk t) (hf : ∀ x ∈ fs, 0 ≤ x ∧ x < t.ne) (hfl : fs.length ≤ 100) : PC Tryz.prog 114 [.pt (tkC t) 0, .sl 1 (fs.map iC), .sl 1 (dd.map iC)] (.sl 2 ((vlsL t fs dd).map shC)) := by
 obtain ⟨hg, _, _⟩ := ckG_ok h.gr
 have hci := cells_in hg
 have hcn : ((clN t : Nat) : Int) = t.g.co * t.g.ro := by unfold clN; omega
 refine pc_of_awpN Tryz.func114 rfl Tryz.ntmps114 (rs := [.tmp 6]) Tryz.results114 (by simp) fun w0 hmine hrnd hpn => ?_
 refine awp_seq ?_
 refine awp_region 1 mixed (by kernel_rfl) ?_
 refine rg_q (q_assign (x := .d (.sl _ _)) rfl) ?_
 refine rs (awp_region 1 mixed (by kernel_rfl) ?_)
 refine rg_q (q_assign_nil) ?_
 refine rn ?_
 change Awp _ _ _ _ _
 refine Awp.le (le_own (k := 7) (e := 160) (sz := 2) rfl rfl) ?_
 refine awp_seq ?_
 refine awp_seq ?_
 refine awp_region 6 mixed (by kernel_rfl) ?_
 refine rg_q (q_move (x := .d (.pt _ _)) rfl) (rg_q (q_nilCheck rfl) (rg_q (q_fieldAddr fld202_0 rfl) ?_))
 refine rg_q (q_loadA (ds := [_, _, _, _, _]) sz150 rfl rfl rfl) ?_
 refine rg_q (q_call en91 (.cons rfl .nil) rfl (fcells_p t.g hg)) ?_
 refine rg_q (q_m rfl) ?_
 refine rn ?_
 change Awp _ _ _ _ _
 refine awp_block ?_
 refine awp_loopH [7, 8, 9, 10, 16, 17, 18, 19, 20, 21, 22, 23, 24, 25, 26, 27, 28, 29, 30, 31] [7] (α := Nat) (fun k => [(16, T.i (k : Int)), (7, .rs 7)]) (fun k => [(7, .row 160 2 ((vlsF t fs dd k).map shC))]) (fun k => k ≤ clN t) (fun k => clN t - k) 0 (Nat.zero_le _) ?_ ?_
 · exact le_head (ms := [7]) (by repeat (exact Out.refl _)) ⟨(by rfl), (by rfl), trivial⟩ ⟨(by rfl), trivial⟩ rfl rfl rfl rfl
 ·
  intro k hk
  have hvl := vlsF_len t fs dd k
  refine awp_seq ?_
  refine awp_region 1 mixed (by kernel_rfl) ?_
  refine rg_q (q_lss rfl rfl) ?_
  refine rn ?_
  change Awp _ _ _ _ _
  refine awp_seq ?_
  refine awp_cond rfl (fun hc3 => ?_) (fun hc3 => ?_)
  ·
   (try simp only [nb, ne_eq] at hc3)
   have hlt : k < clN t := by omega
   have hck : clE t.g (k : Int) = 0 := clE_of (by omega) (by omega)
   have hsk : (vlsF t fs dd (k + 1)).map shC = (vlsF t fs dd k).map shC ++ [shC (vlA t (k : Int) dd (pqL fs t.ne.toNat)).1] := by rw [vlsF_succ, List.map_append]; rfl
   refine awp_skip ?_
   change Awp _ _ _ _ _
   refine awp_seq ?_
   refine awp_block ?_
   refine awp_seq ?_
   refine awp_region 2 mixed (by kernel_rfl) ?_
   refine rg_q (q_m rfl) (rg_q (q_a rfl) ?_)
   refine rs (awp_region 8 mixed (by kernel_rfl) ?_)
   refine rg_q (q_move (x := .d (.pt _ _)) rfl) (rg_q (q_m rfl) (rg_q (q_move (x := .d (.sl _ _)) rfl) (rg_q (q_move (x := .d (.sl _ _)) rfl) ?_)))
   refine rg_q (q_call en95 (.cons rfl (.cons rfl (.cons rfl (.cons rfl .nil)))) rfl (value_p t k fs dd h hck hf hfl)) ?_
   refine rg_q (q_move (x := .d (.tup _)) rfl) (rg_q (q_extract rfl rfl) (rg_q (q_extract rfl rfl) ?_))
   refine rg_nil ?_
   refine aops_allocD zr160 rfl sz160 rfl rfl (by exact .inr ⟨_, rfl⟩) rfl rfl ?_
   refine aops_q rfl (q_a rfl) ?_
   refine aops_nil ?_
   change Awp _ _ _ _ _
   refine awp_region 3 mixed (by kernel_rfl) ?_
   refine rg_q (q_move (x := .rs _) rfl) ?_
   refine rg_q (q_loadA (ds := [_, _]) sz160 rfl rfl rfl) ?_
   refine rg_q (q_buildSlice sl189 zr160 rfl rfl (by decide) (.cons rfl (by exact .inr ⟨_, rfl⟩) .nil) ⟨rfl, rfl, trivial⟩ rfl (by decide) rfl) ?_
   refine rg_nil ?_
   refine aops_append sl189 zr160 by160 rfl (by decide) rfl rfl rfl rfl (by (try simp only [List.length_map, List.length_append, List.length_cons, List.length_nil]); omega) (by (try simp only [List.length_map, List.length_append, List.length_cons, List.length_nil]); omega) rfl rfl ?_
   refine aops_q rfl (q_assign (x := .rs _) rfl) ?_
   refine aops_nil ?_
   change Awp _ _ _ _ _
   refine awp_region 2 mixed (by kernel_rfl) ?_
   refine rg_q (q_add rfl rfl (In64.mk (by omega) (by omega))) ?_
   refine rg_q (q_m rfl) ?_
   refine rn ?_
   refine ⟨k + 1, by omega, by omega, ?_⟩
   exact le_head (ms := [7]) (by repeat (first | exact Out.head rfl rfl | (refine Out.put ?_ rfl) | (refine Out.site ?_ rfl) | (refine Out.killS ?_ rfl))) ⟨(by rfl), (by rfl), trivial⟩ ⟨(by ((show Site.row _ _ _ = Site.row _ _ _; (rw [hsk]; rfl)))), trivial⟩ rfl rfl rfl rfl
  ·
   (try simp only [nb, ne_eq] at hc3)
   have hkn : k = clN t := by omega
   subst hkn
   refine awp_exit ?_
   change Awp _ _ _ _ _
   refine awp_seq ?_
   refine awp_region 2 mixed (by kernel_rfl) ?_
   refine rg_q (q_move (x := .rs _) rfl) (rg_q (q_assign (x := .rs _) rfl) ?_)
   refine rn ?_
   change Awp _ _ _ _ _
   refine awp_ret ?_
   refine ⟨_, (.cons (.tmp (by exact .rs rfl)) .nil), ?_⟩
   rfl
set_option maxRecDepth 100000 in
theorem numbersOf5_p (l : List (Int × Int)) (hl : l.length ≤ 10000) : PC Tryz.prog 113 [.sl 2 (l.map shC)] (.sl 1 ((l.map czP).map cvC)) := by
 refine pc_of_awpN Tryz.func113 rfl Tryz.ntmps113 (rs := [.tmp 2]) Tryz.results113 (by simp) fun w0 hmine hrnd hpn => ?_
 refine awp_seq ?_
 refine awp_region 1 mixed (by kernel_rfl) ?_
 refine rg_q (q_assign (x := .d (.sl _ _)) rfl) ?_
 refine rs (awp_region 1 mixed (by kernel_rfl) ?_)
 refine rg_q (q_assign_nil) ?_
 refine rn ?_
 change Awp _ _ _ _ _
 refine Awp.le (le_own (k := 3) (e := 46) (sz := 1) rfl rfl) ?_
 refine awp_seq ?_
 refine awp_seq ?_
 refine awp_region 3 mixed (by kernel_rfl) ?_
 refine rg_q (q_move (x := .d (.sl _ _)) rfl) ?_
 refine rg_q (q_len isl189 rfl (by exact len_map _ _)) ?_
 refine rg_q (q_m rfl) ?_
 refine rn ?_
 change Awp _ _ _ _ _
 refine awp_len (t := 6) rfl (fun hl6 => ?_)
 (try simp only [List.length_map] at hl6)
 refine awp_block ?_
 refine awp_loopH [3, 5, 8, 9, 10, 11, 12, 13, 14, 15, 16, 17] [3] (α := Nat) (fun k => [(8, T.i (k : Int)), (3, .rs 3)]) (fun k => [(3, .row 46 1 (((l.take k).map czP).map cvC))]) (fun k => k ≤ l.length) (fun k => l.length - k) 0 (Nat.zero_le _) ?_ ?_
 · exact le_head (ms := [3]) (by repeat (exact Out.refl _)) ⟨(by rfl), (by rfl), trivial⟩ ⟨(by rfl), trivial⟩ rfl rfl rfl rfl
 ·
  intro k hk
  have htl : (l.take k).length ≤ k := by rw [List.length_take]; omega
  refine awp_seq ?_
  refine awp_region 1 mixed (by kernel_rfl) ?_
  refine rg_q (q_lss rfl rfl) ?_
  refine rn ?_
  change Awp _ _ _ _ _
  refine awp_seq ?_
  refine awp_cond rfl (fun hc3 => ?_) (fun hc3 => ?_)
  ·
   (try simp only [nb, ne_eq] at hc3)
   have hlt : k < l.length := by omega
   obtain ⟨x, hx⟩ : ∃ x, l[k]? = some x := ⟨_, List.getElem?_eq_getElem hlt⟩
   have hsk : ((l.take (k + 1)).map czP).map cvC = ((l.take k).map czP).map cvC ++ [cvC (czP x)] := by rw [takeSnoc hx, List.map_append, List.map_append]; rfl
   refine awp_skip ?_
   change Awp _ _ _ _ _
   refine awp_seq ?_
   refine awp_block ?_
   refine awp_seq ?_
   refine awp_region 2 mixed (by kernel_rfl) ?_
   refine rg_q (q_indexAddr sl189 rfl rfl (by omega) (map_at (by omega) hx)) ?_
   refine rg_q (q_loadA (ds := [_, _]) sz160 rfl rfl rfl) ?_
   refine rg_nil ?_
   refine aops_allocD zr160 rfl sz160 rfl rfl (by exact .inr ⟨_, rfl⟩) rfl rfl ?_
   refine aops_nil ?_
   change Awp _ _ _ _ _
   refine awp_region 4 mixed (by kernel_rfl) ?_
   refine rg_q (q_move (x := .rs _) rfl) ?_
   refine rg_q (q_loadA (ds := [_, _]) sz160 rfl rfl rfl) ?_
   refine rg_q (q_call en97 (.cons rfl .nil) rfl (fnumber_p x.1 x.2)) ?_
   refine rg_q (q_buildSlice sl72 zr46 rfl rfl (by decide) (.cons rfl (by exact .inl rfl) .nil) ⟨rfl, rfl, trivial⟩ rfl (by decide) rfl) ?_
   refine rg_nil ?_
   refine aops_append sl72 zr46 by46 rfl (by decide) rfl rfl rfl rfl (by (try simp only [List.length_map, List.length_append, List.length_cons, List.length_nil]); omega) (by (try simp only [List.length_map, List.length_append, List.length_cons, List.length_nil]); omega) rfl rfl ?_
   refine aops_q rfl (q_assign (x := .rs _) rfl) ?_
   refine aops_nil ?_
   change Awp _ _ _ _ _
   refine awp_region 2 mixed (by kernel_rfl) ?_
   refine rg_q (q_add rfl rfl (In64.mk (by omega) (by omega))) ?_
   refine rg_q (q_m rfl) ?_
   refine rn ?_
   refine ⟨k + 1, by omega, by omega, ?_⟩
   exact le_head (ms := [3]) (by repeat (first | exact Out.head rfl rfl | (refine Out.put ?_ rfl) | (refine Out.site ?_ rfl) | (refine Out.killS ?_ rfl))) ⟨(by rfl), (by rfl), trivial⟩ ⟨(by ((show Site.row _ _ _ = Site.row _ _ _; (rw [hsk]; rfl)))), trivial⟩ rfl rfl rfl rfl
  ·
   (try simp only [nb, ne_eq] at hc3)
   have hkn : k = l.length := by omega
   subst hkn
   rw [List.take_length]
   refine awp_exit ?_
   change Awp _ _ _ _ _
   refine awp_seq ?_
   refine awp_region 2 mixed (by kernel_rfl) ?_
   refine rg_q (q_move (x := .rs _) rfl) (rg_q (q_assign (x := .rs _) rfl) ?_)
   refine rn ?_
   change Awp _ _ _ _ _
   refine awp_ret ?_
   refine ⟨_, (.cons (.tmp (by exact .rs rfl)) .nil), ?_⟩
   rfl

theorem cl_le {t : Tsk} (h : TskOk t) : clN t ≤ 1600 := by
  obtain ⟨hg, _, _⟩ := ckG_ok h.gr
  have := cells_in hg
  unfold clN; omega
def imL (t : Tsk) (fs dd : List Int) : List (Nat × Nat) := (vlsL t fs dd).map czP
def evI (t : Tsk) : List Int := allL t.ne.toNat
set_option maxRecDepth 100000 in
theorem imageK_p (t : Tsk) (h : TskOk t) : PC Tryz.prog 37 [.agg (tskC t)] (.tup [.sl 1 ((imL t (evI t) []).map cvC), .v (.int .i64 (0))]) := by
 obtain ⟨ha1, ha2⟩ := allL_ok h
 have hn1 := h.n1
 have hn2 := h.n2
 have hcl := cl_le h
 have hvl : (vlsL t (allL t.ne.toNat) []).length ≤ 10000 := by unfold vlsL; rw [vlsF_len]; omega
 refine pc_of_awpN Tryz.func37 rfl Tryz.ntmps37 (rs := [.tmp 2, .tmp 3]) Tryz.results37 (by simp) fun w0 hmine hrnd hpn => ?_
 refine awp_seq ?_
 refine awp_region 3 mixed (by kernel_rfl) ?_
 refine rg_q (q_box rfl (by exact .inr ⟨_, rfl⟩)) ?_
 refine rg_q (q_assign (x := .d (.sl _ _)) rfl) (rg_q (q_a rfl) ?_)
 refine rs (awp_region 7 mixed (by kernel_rfl) ?_)
 refine rg_q (q_loadA sz37 rfl rfl rfl) ?_
 refine rg_q (q_call en112 (.cons rfl .nil) rfl (open_p t h)) ?_
 refine rg_q (q_move (x := .d (.tup _)) rfl) (rg_q (q_extract rfl rfl) (rg_q (q_extract rfl rfl) (rg_q (q_assign (x := .d (.pt _ _)) rfl) (rg_q (q_a rfl) ?_))))
 refine rn ?_
 change Awp _ _ _ _ _
 refine awp_seq ?_
 refine awp_seq ?_
 refine awp_region 2 mixed (by kernel_rfl) ?_
 refine rg_q (q_m rfl) (rg_q (q_neq rfl rfl) ?_)
 refine rn ?_
 change Awp _ _ _ _ _
 refine awp_cond rfl (fun hc2 => ?_) (fun hc2 => ?_)
 ·
  simp at hc2
 ·
  (try simp only [nb, ne_eq] at hc2)
  refine awp_skip ?_
  change Awp _ _ _ _ _
  refine awp_seq ?_
  refine awp_region 7 mixed (by kernel_rfl) ?_
  refine rg_q (q_move (x := .d (.pt _ _)) rfl) (rg_q (q_move (x := .d (.pt _ _)) rfl) ?_)
  refine rg_q (q_call en96 (.cons rfl .nil) rfl (all_p t hn1 hn2)) ?_
  refine rg_q (q_call en114 (.cons rfl (.cons rfl (.cons rfl .nil))) rfl (values_p t (allL t.ne.toNat) [] h ha1 (by omega))) ?_
  refine rg_q (q_call en113 (.cons rfl .nil) rfl (numbersOf5_p _ hvl)) ?_
  refine rg_q (q_assign (x := .d (.sl _ _)) rfl) (rg_q (q_a rfl) ?_)
  refine rn ?_
  change Awp _ _ _ _ _
  refine awp_ret ?_
  refine ⟨_, (.cons (.tmp (by exact .d _)) (.cons (.tmp (by exact .d _)) .nil)), ?_⟩
  rfl
set_option maxRecDepth 100000 in
theorem imageW_p (t : Tsk) (hw : (ckT t).2 ≠ 0) : PC Tryz.prog 37 [.agg (tskC t)] (.tup [.sl 1 (([] : List (Nat × Nat)).map cvC), .v (.int .i64 ((ckT t).2))]) := by
 refine pc_of_awpN Tryz.func37 rfl Tryz.ntmps37 (rs := [.tmp 2, .tmp 3]) Tryz.results37 (by simp) fun w0 hmine hrnd hpn => ?_
 refine awp_seq ?_
 refine awp_region 3 mixed (by kernel_rfl) ?_
 refine rg_q (q_box rfl (by exact .inr ⟨_, rfl⟩)) ?_
 refine rg_q (q_assign (x := .d (.sl _ _)) rfl) (rg_q (q_a rfl) ?_)
 refine rs (awp_region 7 mixed (by kernel_rfl) ?_)
 refine rg_q (q_loadA sz37 rfl rfl rfl) ?_
 refine rg_q (q_call en112 (.cons rfl .nil) rfl (open5_p t hw)) ?_
 refine rg_q (q_move (x := .d (.tup _)) rfl) (rg_q (q_extract rfl rfl) (rg_q (q_extract rfl rfl) (rg_q (q_a rfl) (rg_q (q_a rfl) ?_))))
 refine rn ?_
 change Awp _ _ _ _ _
 refine awp_seq ?_
 refine awp_seq ?_
 refine awp_region 2 mixed (by kernel_rfl) ?_
 refine rg_q (q_m rfl) (rg_q (q_neq rfl rfl) ?_)
 refine rn ?_
 change Awp _ _ _ _ _
 refine awp_cond rfl (fun hc2 => ?_) (fun hc2 => ?_)
 ·
  (try simp only [nb, ne_eq] at hc2)
  refine awp_seq ?_
  refine awp_region 3 mixed (by kernel_rfl) ?_
  refine rg_q (q_m rfl) (rg_q (q_assign (x := .d (.sl _ _)) rfl) (rg_q (q_a rfl) ?_))
  refine rn ?_
  change Awp _ _ _ _ _
  refine awp_ret ?_
  refine ⟨_, (.cons (.tmp (by exact .d _)) (.cons (.tmp (by exact .d _)) .nil)), ?_⟩
  rfl
 ·
  (try simp only [nb, ne_eq] at hc2)
  exact absurd hc2 hw

def imgR (t : Tsk) : List (Nat × Nat) × Int := if (ckT t).2 ≠ 0 then ([], (ckT t).2) else (imL t (evI t) [], 0)
theorem image5_p (t : Tsk) : PC Tryz.prog 37 [.agg (tskC t)] (.tup [.sl 1 ((imgR t).1.map cvC), .v (.int .i64 (imgR t).2)]) := by
  by_cases hw : (ckT t).2 ≠ 0
  · have hv : imgR t = ([], (ckT t).2) := by unfold imgR; rw [if_pos hw]
    rw [hv]
    exact imageW_p t hw
  · have hv : imgR t = (imL t (evI t) [], 0) := by unfold imgR; rw [if_neg hw]
    rw [hv]
    exact imageK_p t (ckT_ok (Decidable.not_not.1 hw))
def rimF (t : Tsk) (l : List (Int × Int)) (k : Nat) : List (Nat × Nat) := (List.range k).map fun c : Nat => czP (vlA t (c : Int) [] l).1
theorem rim_ev (t : Tsk) : rimF t (evL t) (clN t) = imL t (evI t) [] := by unfold rimF imL vlsL vlsF; rw [List.map_map]; rfl
theorem sbB_is (x y : Nat × Nat) : sbB x.1 x.2 y.1 y.2 = decide (x = y) := by
  obtain ⟨a, b⟩ := x
  obtain ⟨c, d⟩ := y
  unfold sbB
  by_cases h1 : a = c
  · by_cases h2 : b = d
    · simp [h1, h2]
    · have : ¬ (b : Int) = d := by omega
      simp [h1, h2, this]
  · have : ¬ (a : Int) = c := by omega
    simp [h1, this]
set_option maxRecDepth 100000 in
theorem sameNums_p (l m : List (Nat × Nat)) : PC Tryz.prog 38 [.sl 1 (l.map cvC), .sl 1 (m.map cvC)] (.v (.bool (decide (l = m)))) := by
 refine pc_of_awp Tryz.func38 rfl Tryz.ntmps38 (rs := [.tmp 4]) Tryz.results38 (by simp) fun w0 => ?_
 refine awp_seq ?_
 refine awp_region 1 mixed (by kernel_rfl) ?_
 refine rg_q (q_a rfl) ?_
 refine rn ?_
 change Awp _ _ _ _ _
 refine awp_seq ?_
 refine awp_seq ?_
 refine awp_region 5 mixed (by kernel_rfl) ?_
 refine rg_q (q_move (x := .d (.sl _ _)) rfl) ?_
 refine rg_q (q_len isl72 rfl (by exact len_map _ _)) ?_
 refine rg_q (q_move (x := .d (.sl _ _)) rfl) ?_
 refine rg_q (q_len isl72 rfl (by exact len_map _ _)) ?_
 refine rg_q (q_neq rfl rfl) ?_
 refine rn ?_
 change Awp _ _ _ _ _
 refine awp_len (t := 6) rfl (fun hl6 => ?_)
 (try simp only [List.length_map] at hl6)
 refine awp_len (t := 8) rfl (fun hl8 => ?_)
 (try simp only [List.length_map] at hl8)
 refine awp_cond rfl (fun hc1 => ?_) (fun hc1 => ?_)
 ·
  (try simp only [nb, ne_eq] at hc1)
  have hz : decide (l = m) = false := decide_eq_false (fun e => by rw [e] at hc1; omega)
  refine awp_seq ?_
  refine awp_region 1 mixed (by kernel_rfl) ?_
  refine rg_q (q_a rfl) ?_
  refine rn ?_
  change Awp _ _ _ _ _
  refine awp_ret ?_
  refine ⟨_, (.cons (.tmp (by exact .d _)) .nil), ?_⟩
  rw [hz]; rfl
 ·
  (try simp only [nb, ne_eq] at hc1)
  have hlm : l.length = m.length := by omega
  refine awp_skip ?_
  change Awp _ _ _ _ _
  refine awp_seq ?_
  refine awp_seq ?_
  refine awp_region 1 mixed (by kernel_rfl) ?_
  refine rg_q (q_a rfl) ?_
  refine rn ?_
  change Awp _ _ _ _ _
  refine awp_block ?_
  refine awp_loopH [4, 5, 11, 12, 13, 14, 15, 16, 17, 18, 19, 20, 21, 22, 23, 24, 25, 26] [] (α := Nat) (fun k => [(5, T.i (k : Int))]) (fun k => []) (fun k => k ≤ l.length ∧ l.take k = m.take k) (fun k => l.length - k) 0 ⟨Nat.zero_le _, rfl⟩ ?_ ?_
  · exact le_head (ms := []) (by repeat (exact Out.refl _)) ⟨(by rfl), trivial⟩ trivial rfl rfl rfl rfl
  ·
   intro k ⟨hk, hf⟩
   refine awp_seq ?_
   refine awp_seq ?_
   refine awp_region 4 mixed (by kernel_rfl) ?_
   refine rg_q (q_m rfl) (rg_q (q_move (x := .d (.sl _ _)) rfl) ?_)
   refine rg_q (q_len isl72 rfl (by exact len_map _ _)) ?_
   refine rg_q (q_lss rfl rfl) ?_
   refine rn ?_
   change Awp _ _ _ _ _
   refine awp_len (t := 12) rfl (fun hl12 => ?_)
   (try simp only [List.length_map] at hl12)
   refine awp_cond rfl (fun hc4 => ?_) (fun hc4 => ?_)
   ·
    (try simp only [nb, ne_eq] at hc4)
    have hlt : k < l.length := by omega
    obtain ⟨x, hx⟩ : ∃ x, l[k]? = some x := ⟨_, List.getElem?_eq_getElem hlt⟩
    obtain ⟨y, hy⟩ : ∃ y, m[k]? = some y := ⟨_, List.getElem?_eq_getElem (by omega)⟩
    have hxy := sbB_is x y
    refine awp_skip ?_
    change Awp _ _ _ _ _
    refine awp_seq ?_
    refine awp_block ?_
    refine awp_seq ?_
    refine awp_region 10 mixed (by kernel_rfl) ?_
    refine rg_q (q_move (x := .d (.sl _ _)) rfl) (rg_q (q_m rfl) ?_)
    refine rg_q (q_indexAddr sl72 rfl rfl (by omega) (map_at (k := k) (by omega) hx)) ?_
    refine rg_q (q_load sz46 rfl rfl) (rg_q (q_move (x := .d (.sl _ _)) rfl) (rg_q (q_m rfl) ?_))
    refine rg_q (q_indexAddr sl72 rfl rfl (by omega) (map_at (k := k) (by omega) hy)) ?_
    refine rg_q (q_load sz46 rfl rfl) ?_
    refine rg_q (q_call en26 (.cons rfl (.cons rfl .nil)) rfl (sameBits_p x.1 x.2 y.1 y.2)) ?_
    refine rg_q (q_not rfl) ?_
    refine rn ?_
    change Awp _ _ _ _ _
    refine awp_cond rfl (fun hc6 => ?_) (fun hc6 => ?_)
    ·
     (try simp only [nb, ne_eq] at hc6)
     have hz : decide (l = m) = false := decide_eq_false (fun e => by rw [e, hy] at hx; have := Option.some.inj hx; subst this; rw [hc6] at hxy; simp at hxy)
     refine awp_seq ?_
     refine awp_region 1 mixed (by kernel_rfl) ?_
     refine rg_q (q_a rfl) ?_
     refine rn ?_
     change Awp _ _ _ _ _
     refine awp_ret ?_
     refine ⟨_, (.cons (.tmp (by exact .d _)) .nil), ?_⟩
     rw [hz]; rfl
    ·
     (try simp only [nb, ne_eq] at hc6)
     rw [hc6] at hxy
     have hxe : x = y := of_decide_eq_true hxy.symm
     have hnx : l.take (k + 1) = m.take (k + 1) := by rw [takeSnoc hx, takeSnoc hy, hf, hxe]
     refine awp_skip ?_
     change Awp _ _ _ _ _
     refine awp_region 3 mixed (by kernel_rfl) ?_
     refine rg_q (q_m rfl) ?_
     refine rg_q (q_add rfl rfl (In64.mk (by omega) (by omega))) ?_
     refine rg_q (q_a rfl) ?_
     refine rn ?_
     refine ⟨k + 1, ⟨by omega, hnx⟩, by omega, ?_⟩
     exact le_head (ms := []) (by repeat (first | exact Out.head rfl rfl | (refine Out.put ?_ rfl))) ⟨(by rfl), trivial⟩ trivial rfl rfl rfl rfl
   ·
    (try simp only [nb, ne_eq] at hc4)
    have hz : decide (l = m) = true := decide_eq_true (by rw [← List.take_of_length_le (l := l) (i := k) (by omega), hf, List.take_of_length_le (by omega)])
    refine awp_exit ?_
    change Awp _ _ _ _ _
    refine awp_seq ?_
    refine awp_region 1 mixed (by kernel_rfl) ?_
    refine rg_q (q_a rfl) ?_
    refine rn ?_
    change Awp _ _ _ _ _
    refine awp_ret ?_
    refine ⟨_, (.cons (.tmp (by exact .d _)) .nil), ?_⟩
    rw [hz]; rfl
end Go.Proofs.YtphlaicnmmglhaaGreat.Am.M
-- mini
namespace Go.Proofs.YtphlaicnmmglhaaGreat.Am.M
open Go

end Go.Proofs.YtphlaicnmmglhaaGreat.Am.M
-- mini
namespace Go.Proofs.YtphlaicnmmglhaaGreat.Am.M
open Go

end Go.Proofs.YtphlaicnmmglhaaGreat.Am.M
namespace Go.Proofs.YtphlaicnmmglhaaGreat.Am
open Go Go.RowKit
section
variable {P : Program} {w0 : Cx} {n : Nat} {s : Nat → Site} {ev : Operand → T} {dst : Option Tmp} {ty : TypeId} {pos : String} {after : Array Edge} {g : Option (Nat × Bool)}
theorem q_andNotE {t t' : TypeId} {x y : Operand} {k : IntKind} {a b c : Int} (hx : ev x = .d (.v (.int k a))) (hy : ev y = .d (.v (.int k b))) (h : bits .andNot k a b = c) : QOp P w0 n s ev ⟨dst, .binOp .andNot t x y t', ty, pos, after, g⟩ (.d (.v (.int k c))) :=
  q_bin hx hy (fun w => by
    subst h
    simp [eqGuard, binOp_andNot, intBits_andNot]) rfl
theorem q_extN {f : FuncId} {fn : Func} {e : Array Value → Sem Value} {y : Operand} {u : Value} {k : FloatKind} {at_ : Array TypeId} (hf : P.funcs[f]? = some fn) (hname : (fn.name == "runtime.NumGoroutine") = false) (hb : fn.body.isNone = true) (hn : Extern.findNext fn = none) (he : Extern.find fn = some e)
    (hev : ev (.func f) = .d (.fn (.func f) [])) (hy : ev y = .d (.v u)) (hr : ∀ w, ∃ b w', (e #[u]).run P w = .ok (.float k b) w' ∧ Ext w w' ∧ (k.decode b).isNaN = true) : QOp P w0 n s ev ⟨dst, .call ⟨.value (.func f), #[y], at_⟩, ty, pos, after, g⟩ (.d (.nan k)) :=
  .mk fun a w ok blk val h _ hnew => by
    have hv : a.eval y = u := RepT.v_eq (hy ▸ h y)
    obtain ⟨b, w', h1, h2, h3⟩ := hr w
    refine ⟨.float k b, w', ?_, h2, .nan k b h3⟩
    have hc := run_callFunc_extern (P := P) hf hname hb hn he #[u] w
    have hfv : a.eval (Operand.func f) = .func (.func f) #[] #[] := rfl
    simp [execOp, resolve, invoke, hv, hfv, Deferred.ofValue, hc, h1]
end
end Go.Proofs.YtphlaicnmmglhaaGreat.Am
namespace Go.Proofs.YtphlaicnmmglhaaGreat.Am.M
open Go

def absD : Ieee.Datum → Ieee.Datum
  | .number _ m e => .number false m e
  | .infinity _ => .infinity false
  | .nan _ t => .nan false t
theorem read_abs (b : Nat) : Ieee.double.read (b % 2 ^ 63) = absD (Ieee.double.read b) := by
  have e1 : Ieee.double.signWeight = 2 ^ 63 := rfl
  have h1 : b % 2 ^ 63 % 2 ^ 63 = b % 2 ^ 63 := Nat.mod_mod _ _
  have h2 : b % 2 ^ 63 / 2 ^ 63 % 2 = 0 := by rw [Nat.div_eq_of_lt (Nat.mod_lt _ (by decide))]
  unfold Ieee.Format.read
  simp only [e1, h1, h2]
  by_cases c1 : b % 2 ^ 63 < Ieee.double.binade
  · rw [if_pos c1, if_pos c1]; rfl
  · rw [if_neg c1, if_neg c1]
    by_cases c2 : b % 2 ^ 63 < Ieee.double.infRung
    · rw [if_pos c2, if_pos c2]; rfl
    · rw [if_neg c2, if_neg c2]
      by_cases c3 : b % 2 ^ 63 = Ieee.double.infRung
      · rw [if_pos c3, if_pos c3]; rfl
      · rw [if_neg c3, if_neg c3]; rfl
theorem num_abs {b : Nat} {s : Bool} {M : Nat} (h : Numb Ieee.double b s M) : Numb Ieee.double (b % 2 ^ 63) false M := by
  obtain ⟨m, e, h1, h2, h3⟩ := h
  exact ⟨m, e, by rw [read_abs, h1]; rfl, h2, h3⟩
def infB (b : Nat) : Bool := ordB .gtr (FloatKind.f64.format.order (b % 2 ^ 63) 9218868437227405311)
def MX : Nat := 9007199254740991 * 2 ^ (971 + KK)
theorem num_max : Numb Ieee.double 9218868437227405311 false MX := ⟨9007199254740991, 971, by decide +kernel, by omega, by
  rw [show ((971 : Int) + KK).toNat = 971 + KK by omega]; rfl⟩
theorem num_le {b : Nat} {s : Bool} {m : Nat} {e : Int} {M : Nat} (hr : Ieee.double.read b = .number s m e) (hM : m * 2 ^ (e + KK).toNat = M) : M ≤ MX := by
  obtain ⟨h1, h2, h3⟩ := read_num fmD hr
  have h4 : m ≤ 9007199254740991 := by
    have : (2 : Nat) ^ (52 + 1) = 9007199254740992 := by decide
    omega
  rw [← hM]
  unfold MX
  exact Nat.mul_le_mul h4 (Nat.pow_le_pow_right (by omega) (by omega))
theorem inf_num {b : Nat} {s : Bool} {m : Nat} {e : Int} {M : Nat} (hr : Ieee.double.read b = .number s m e) (hM : m * 2 ^ (e + KK).toNat = M) : infB b = false := by
  have hn := num_of fmD LD hr
  rw [hM] at hn
  have h := ob_gtr (num_abs hn) num_max
  have hle := num_le hr hM
  unfold infB
  refine h.trans (decide_eq_false ?_)
  unfold sgI
  rw [if_neg (by decide), if_neg (by decide)]
  omega
theorem inf_inf {b : Nat} {s : Bool} (hr : Ieee.double.read b = .infinity s) : infB b = true := by
  have h : Ieee.double.order (b % 2 ^ 63) 9218868437227405311 = some .gt := by
    unfold Ieee.Format.order
    rw [read_abs, hr]
    obtain ⟨m, e, h1, _, _⟩ := num_max
    rw [h1]; rfl
  have e : FloatKind.f64.format.order (b % 2 ^ 63) 9218868437227405311 = Ieee.double.order (b % 2 ^ 63) 9218868437227405311 := rfl
  unfold infB
  rw [e, h]; rfl
def tz64 (b : Nat) : Nat := Ieee.double.write ((Ieee.double.read b).integral .zero)
theorem tr_num {b : Nat} {s : Bool} {m : Nat} {e : Int} {M : Nat} (hr : Ieee.double.read b = .number s m e) (hM : m * 2 ^ (e + KK).toNat = M) : tz64 b = Ieee.double.nearest s (M / QQ) 0 := by
  have hge := (read_num fmD hr).2.1
  have hLD := LD
  unfold tz64
  rw [hr]
  unfold Ieee.Datum.integral
  simp only [cutz]
  show Ieee.double.nearest s _ 0 = _
  congr 1
  rw [Nat.shiftLeft_eq, ← hM]
  unfold QQ
  by_cases he : 0 ≤ e
  · have e1 : (-e).toNat = 0 := by omega
    have e2 : (e + KK).toNat = e.toNat + KK := by omega
    rw [e1, e2, Nat.pow_zero, Nat.div_one, Nat.pow_add, ← Nat.mul_assoc, Nat.mul_div_cancel _ (Nat.two_pow_pos _)]
  · have e1 : e.toNat = 0 := by omega
    obtain ⟨u, hu⟩ : ∃ u : Nat, u = (e + KK).toNat := ⟨_, rfl⟩
    obtain ⟨v, hv⟩ : ∃ v : Nat, v = (-e).toNat := ⟨_, rfl⟩
    have e2 : KK = u + v := by omega
    rw [e1, Nat.pow_zero, Nat.mul_one, ← hu, ← hv, e2, Nat.pow_add, Nat.mul_comm m, Nat.mul_div_mul_left _ _ (Nat.two_pow_pos _)]
theorem whole_num {f : Ieee.Format} {p L I : Nat} (h : Fm f p L I) (hL : L ≤ KK) {b : Nat} {s : Bool} {m : Nat} {e : Int} {M : Nat} (hr : f.read b = .number s m e) (hM : m * 2 ^ (e + KK).toNat = M) :
    Numb f (f.nearest s (M / QQ) 0) s (M / QQ * QQ) := by
  obtain ⟨h1, h2, h3⟩ := read_num h hr
  have hpl := h.pl
  have hli := h.li
  by_cases he : 0 ≤ e
  · have e2 : (e + KK).toNat = e.toNat + KK := by omega
    have hq : M / QQ = m * 2 ^ e.toNat := by
      rw [← hM, e2, Nat.pow_add, ← Nat.mul_assoc]
      exact Nat.mul_div_cancel _ QQ_pos
    have := num_near h s e.toNat 0 h1 hL (by omega) (fun _ => by omega) (fun h0 => by have := log_le h0 h1; omega)
    rw [show ((0 : Int) + KK).toNat = KK by omega, ← hq] at this
    exact this
  · have hlt : M / QQ < 2 ^ (p + 1) := by
      refine Nat.lt_of_le_of_lt ?_ h1
      refine Nat.div_le_of_le_mul ?_
      rw [← hM, Nat.mul_comm QQ]
      exact Nat.mul_le_mul_left _ (Nat.pow_le_pow_right (by omega) (by omega))
    have := num_near h s 0 0 hlt hL (by omega) (fun _ => by omega) (fun h0 => by have := log_le h0 hlt; omega)
    rw [Nat.pow_zero, Nat.mul_one, show ((0 : Int) + KK).toNat = KK by omega] at this
    exact this
def tneB (b : Nat) : Bool := if (FloatKind.f64.decode b).isNaN = true then true else ordB .neq (FloatKind.f64.format.order (tz64 b) b)
theorem tne_num {b : Nat} {s : Bool} {m : Nat} {e : Int} {M : Nat} (hr : Ieee.double.read b = .number s m e) (hM : m * 2 ^ (e + KK).toNat = M) : tneB b = !decide (M % QQ = 0) := by
  have hn := num_of fmD LD hr
  rw [hM] at hn
  have hw := whole_num fmD LD hr hM
  have h1 : (FloatKind.f64.decode b).isNaN = false := by
    show (Ieee.double.read b).isNaN = false
    rw [hr]; rfl
  unfold tneB
  rw [if_neg (by rw [h1]; decide), tr_num hr hM]
  have h2 : FloatKind.f64.format.order (Ieee.double.nearest s (M / QQ) 0) b = some (compare (sgI s (M / QQ * QQ)) (sgI s M)) := order_num hw hn
  rw [h2]
  have hd := Nat.div_add_mod M QQ
  rw [Nat.mul_comm] at hd
  have h3 := (cmp_some (sgI s (M / QQ * QQ)) (sgI s M)).1
  unfold ordB
  show (some (compare _ _) != some .eq) = _
  rw [bne, h3]
  congr 1
  refine decide_eq_decide.2 ?_
  rw [sg_eq]
  omega
theorem wh_is (b : Nat) : whD b = !(tneB b || infB b) := by
  cases hr : Ieee.double.read b with
  | nan s t =>
    have h1 : (FloatKind.f64.decode b).isNaN = true := by
      show (Ieee.double.read b).isNaN = true
      rw [hr]; rfl
    unfold whD tneB
    rw [hr, if_pos h1]; rfl
  | infinity s =>
    rw [inf_inf hr]
    unfold whD
    rw [hr, Bool.or_true]; rfl
  | number s m e =>
    obtain ⟨M, hM⟩ : ∃ M, m * 2 ^ (e + KK).toNat = M := ⟨_, rfl⟩
    rw [tne_num hr hM, inf_num hr hM]
    unfold whD
    rw [hr]
    simp only [hM]
    simp
def bgB (b : Nat) : Bool := ordB .gtr (FloatKind.f64.format.order (b % 2 ^ 63) 4711630319722168320)
def vD (b : Nat) : Int :=
  match Ieee.double.read b with
  | .number s m e => sgI s (m * 2 ^ (e + KK).toNat / QQ)
  | _ => 0
theorem num_im : Numb Ieee.double 4711630319722168320 false (10000000 * QQ) := by
  have h := num_wd fmD LD (a := 10000000) (by decide)
  rw [show wd Ieee.double 10000000 = 4711630319722168320 by decide +kernel, show decide ((10000000 : Int) < 0) = false from rfl, show (10000000 : Int).natAbs = 10000000 from rfl] at h
  exact h
theorem bg_num {b : Nat} {s : Bool} {M : Nat} (hn : Numb Ieee.double b s M) : bgB b = decide (10000000 * QQ < M) := by
  unfold bgB
  refine (ob_gtr (num_abs hn) num_im).trans (decide_eq_decide.2 ?_)
  unfold sgI
  rw [if_neg (by decide), if_neg (by decide)]
  exact Int.ofNat_lt
theorem wh_num {b : Nat} (h : whD b = true) : ∃ s m e, Ieee.double.read b = .number s m e ∧ m * 2 ^ (e + KK).toNat % QQ = 0 := by
  unfold whD at h
  cases hr : Ieee.double.read b with
  | nan s t => rw [hr] at h; cases h
  | infinity s => rw [hr] at h; cases h
  | number s m e => rw [hr] at h; exact ⟨s, m, e, rfl, of_decide_eq_true h⟩
theorem div10 {M : Nat} (h : ¬ 10000000 * QQ < M) : M / QQ ≤ 10000000 := Nat.div_le_of_le_mul (by rw [Nat.mul_comm QQ]; exact Nat.le_of_not_lt h)
theorem vD_in {b : Nat} (h : whD b = true) (hb : bgB b = false) : (-10000000 ≤ vD b ∧ vD b ≤ 10000000) ∧ floatToIntVal .f64 b .i64 = some (vD b) := by
  obtain ⟨s, m, e, hr, _⟩ := wh_num h
  obtain ⟨M, hM⟩ : ∃ M, m * 2 ^ (e + KK).toNat = M := ⟨_, rfl⟩
  have hn := num_of fmD LD hr
  rw [hM] at hn
  rw [bg_num hn, decide_eq_false_iff_not] at hb
  have h1 : M / QQ ≤ 10000000 := div10 hb
  have hv : vD b = sgI s (M / QQ) := by unfold vD; rw [hr]; simp only [hM]
  rw [hv]
  exact ⟨(in_M (s := s) 10000000).2 h1, int_num (k := .f64) hn (by omega)⟩
theorem wd_wh {a : Int} (h : a.natAbs < 2 ^ 53) : whD (FloatKind.f64.nearest a) = true ∧ vD (FloatKind.f64.nearest a) = a ∧ bgB (FloatKind.f64.nearest a) = decide (10000000 < a.natAbs) := by
  have e : FloatKind.f64.nearest a = wd Ieee.double a := rfl
  have hn : Numb Ieee.double (FloatKind.f64.nearest a) (decide (a < 0)) (a.natAbs * QQ) := num_wd fmD LD h
  obtain ⟨m, x, h1, h2, h3⟩ := hn
  refine ⟨?_, ?_, ?_⟩
  · unfold whD
    rw [h1]
    simp only [h3]
    exact decide_eq_true (Nat.mul_mod_left _ _)
  · unfold vD
    rw [h1]
    simp only [h3]
    rw [Nat.mul_div_cancel _ QQ_pos]
    unfold sgI
    by_cases ha : a < 0
    · rw [decide_eq_true ha, if_pos rfl]; omega
    · rw [decide_eq_false ha, if_neg (by simp)]; omega
  · rw [bg_num ⟨m, x, h1, h2, h3⟩]
    exact decide_eq_decide.2 ⟨fun q => Nat.lt_of_mul_lt_mul_right q, fun q => Nat.mul_lt_mul_of_pos_right q QQ_pos⟩
theorem andNot_is (b : Nat) : bits .andNot .u64 (b : Int) 9223372036854775808 = ((b % 2 ^ 63 : Nat) : Int) := by
  unfold bits
  have e1 : (~~~BitVec.ofInt 64 9223372036854775808 : BitVec 64) = BitVec.ofNat 64 (2 ^ 63 - 1) := by decide
  have e2 : BitVec.ofInt 64 (b : Int) = BitVec.ofNat 64 b := by
    apply BitVec.eq_of_toNat_eq
    simp [BitVec.toNat_ofInt]
  show IntKind.u64.wrap ((BitVec.ofInt 64 (b : Int) &&& ~~~BitVec.ofInt 64 9223372036854775808 : BitVec 64).toNat) = _
  rw [e1, e2, BitVec.toNat_and, BitVec.toNat_ofNat, BitVec.toNat_ofNat, Nat.mod_eq_of_lt (show 2 ^ 63 - 1 < 2 ^ 64 by decide), Nat.and_two_pow_sub_one_eq_mod]
  have e3 : b % 2 ^ 64 % 2 ^ 63 = b % 2 ^ 63 := Nat.mod_mod_of_dvd _ (by decide)
  rw [e3]
  have h := Nat.mod_lt b (show 2 ^ 63 > 0 by decide)
  generalize b % 2 ^ 63 = c at h ⊢
  have e4 : IntKind.u64.bits = 64 := rfl
  have e5 : IntKind.u64.signed = false := rfl
  unfold IntKind.wrap
  simp [e4, e5]
  omega
theorem nan_quiet {b : Nat} {s : Bool} {t : Nat} (hr : Ieee.double.read b = .nan s t) : (FloatKind.f64.decode (FloatKind.f64.encode (.nan s (FloatKind.f64.format.quiet t)))).isNaN = true := by
  have h0 : FloatKind.f64.format.quiet t = t ||| 2 ^ 51 := rfl
  have hge : 2 ^ 51 ≤ t ||| 2 ^ 51 := Nat.right_le_or
  obtain ⟨q, hq⟩ : ∃ q, q = (t ||| 2 ^ 51) % 2 ^ 52 := ⟨_, rfl⟩
  have hq1 : 0 < q := by
    rw [hq]
    have : ((t ||| 2 ^ 51) % 2 ^ 52).testBit 51 = true := by
      rw [Nat.testBit_mod_two_pow, Nat.testBit_or, Nat.testBit_two_pow_self]; simp
    refine Nat.pos_of_ne_zero fun h => ?_
    rw [h] at this
    simp at this
  have hq2 : q < 2 ^ 52 := by rw [hq]; exact Nat.mod_lt _ (by decide)
  have e : FloatKind.f64.encode (.nan s (FloatKind.f64.format.quiet t)) = (if s = true then 2 ^ 63 else 0) + 0x7ff0000000000000 + q := by
    rw [h0, hq]
    have e3 : Ieee.double.infRung = 0x7ff0000000000000 := by decide +kernel
    have e4 : Ieee.double.binade = 2 ^ 52 := rfl
    have e5 : Ieee.double.signWeight = 2 ^ 63 := rfl
    show Ieee.double.word s (Ieee.double.infRung + (t ||| 2 ^ 51) % Ieee.double.binade) = _
    unfold Ieee.Format.word
    rw [e3, e4, e5]
    cases s <;> simp <;> omega
  rw [e]
  show (Ieee.double.read _).isNaN = true
  have := nan_d (if s = true then 1 else 0) (q - 1) (by cases s <;> decide) (by omega)
  rw [show (if s = true then 1 else 0) * 2 ^ 63 + 0x7ff0000000000000 + 1 + (q - 1) = (if s = true then 2 ^ 63 else 0) + 0x7ff0000000000000 + q by cases s <;> simp <;> omega] at this
  exact this
end Go.Proofs.YtphlaicnmmglhaaGreat.Am.M
-- mini
namespace Go.Proofs.YtphlaicnmmglhaaGreat.Am.M
open Go

def triG (q : Question) (b : Nat) : Ieee.Datum → Sem Value
  | .nan s t => if FloatKind.f64.format.quiet t = t then pure (.float .f64 b) else choose q >>= fun k => pure (.float .f64 (if k == 1 then b else FloatKind.f64.encode (.nan s (FloatKind.f64.format.quiet t))))
  | .infinity s => pure (.float .f64 (FloatKind.f64.encode (.infinity s)))
  | .number s m x => pure (.float .f64 (FloatKind.f64.encode ((Ieee.Datum.number s m x).integral .zero)))
theorem tri_is : ∃ q : Question, q.forced = false ∧ ∀ b : Nat, Extern.MathFloor.toIntegral "math.archTrunc" .zero #[.float .f64 b] = triG q b (FloatKind.f64.decode b) := by
  refine ⟨?q, ?h1, fun b => ?h2⟩
  case h2 =>
    show Extern.MathFloor.toIntegral.match_1 _ (FloatKind.f64.decode b) _ _ = _
    generalize FloatKind.f64.decode b = d
    cases d with
    | nan s t => rfl
    | infinity s => rfl
    | number s m x => rfl
  case h1 => rfl
theorem trun_num {P : Program} {b : Nat} (h : (FloatKind.f64.decode b).isNaN = false) (w : World) : (Extern.MathFloor.toIntegral "math.archTrunc" .zero #[.float .f64 b]).run P w = .ok (.float .f64 (tz64 b)) w := by
  obtain ⟨q, _, hq⟩ := tri_is
  have e : tz64 b = FloatKind.f64.encode ((FloatKind.f64.decode b).integral .zero) := rfl
  rw [e, hq]
  generalize FloatKind.f64.decode b = d at h ⊢
  cases d with
  | nan s t => cases h
  | infinity s => rfl
  | number s m x => rfl
theorem trun_nan {P : Program} {b : Nat} (h : (FloatKind.f64.decode b).isNaN = true) (w : World) : ∃ c w', (Extern.MathFloor.toIntegral "math.archTrunc" .zero #[.float .f64 b]).run P w = .ok (.float .f64 c) w' ∧ Ext w w' ∧ (FloatKind.f64.decode c).isNaN = true := by
  obtain ⟨q, hf, htr⟩ := tri_is
  have hq0 : ∀ s t, FloatKind.f64.decode b = .nan s t → (FloatKind.f64.decode (FloatKind.f64.encode (.nan s (FloatKind.f64.format.quiet t)))).isNaN = true := fun s t hr => nan_quiet (show Ieee.double.read b = .nan s t from hr)
  have hb := h
  rw [htr]
  generalize FloatKind.f64.decode b = d at h hq0 ⊢
  cases d with
  | infinity s => cases h
  | number s m x => cases h
  | nan s t =>
    unfold triG
    simp only
    by_cases hq : FloatKind.f64.format.quiet t = t
    · refine ⟨b, w, ?_, Ext.refl w, hb⟩
      rw [if_pos hq]; rfl
    · rw [if_neg hq]
      by_cases hk : q.cut (w.tape w.drawn q) = 1
      · exact ⟨b, w.drew, by simp [hf, hk], (Ext.refl w).drew, hb⟩
      · exact ⟨FloatKind.f64.encode (.nan s (FloatKind.f64.format.quiet t)), w.drew, by simp [hf, hk], (Ext.refl w).drew, hq0 s t rfl⟩
def trD (b : Nat) : D := if (FloatKind.f64.decode b).isNaN = true then .nan .f64 else .v (.float .f64 (tz64 b))
section
variable {P : Program} {w0 : Cx} {n : Nat} {s : Nat → Site} {ev : Operand → T} {dst : Option Tmp} {ty : TypeId} {pos : String} {after : Array Edge} {g : Option (Nat × Bool)}
theorem q_neqTr {t t' : TypeId} {x y : Operand} {b : Nat} (hx : ev x = .d (trD b)) (hy : ev y = .d (.v (.float .f64 b))) : QOp P w0 n s ev ⟨dst, .binOp .neq t x y t', ty, pos, after, g⟩ (T.bool (tneB b)) := by
  unfold trD at hx
  unfold tneB
  by_cases h : (FloatKind.f64.decode b).isNaN = true
  · rw [if_pos h] at hx ⊢
    exact q_fcmpN (by decide) hx hy rfl
  · rw [if_neg h] at hx ⊢
    exact q_fcmp (by decide) hx hy rfl
end
set_option maxRecDepth 100000 in
theorem abs_p (b : Nat) : PC Tryz.prog 193 [.v (.float .f64 (b))] (.v (.float .f64 (b % 2 ^ 63))) := by
 refine pc_of_awp Tryz.func193 rfl Tryz.ntmps193 (rs := [.tmp 2]) Tryz.results193 (by simp) fun w0 => ?_
 refine awp_seq ?_
 refine awp_region 1 mixed (by kernel_rfl) ?_
 refine rg_q (q_a rfl) ?_
 refine rs (awp_region 5 mixed (by kernel_rfl) ?_)
 refine rg_q (q_m rfl) ?_
 refine rg_q (q_ext1 (e := Extern.MathFloatBits.float64bits) Tryz.func98 (by kernel_rfl) (by kernel_rfl) (by kernel_rfl) (by kernel_rfl) rfl rfl (fun w => rfl) rfl) ?_
 refine rg_q (q_andNotE rfl rfl (andNot_is b)) ?_
 refine rg_q (q_ext1 (e := Extern.MathFloatBits.float64frombits) Tryz.func250 (by kernel_rfl) (by kernel_rfl) (by kernel_rfl) (by kernel_rfl) rfl rfl (fun w => rfl) rfl) ?_
 refine rg_q (q_a rfl) ?_
 refine rn ?_
 change Awp _ _ _ _ _
 refine awp_ret ?_
 refine ⟨_, (.cons (.tmp (by exact .d _)) .nil), ?_⟩
 rfl
set_option maxRecDepth 100000 in
theorem isInf_p (b : Nat) : PC Tryz.prog 192 [.v (.float .f64 (b)), .v (.int .i64 (0))] (.v (.bool (infB b))) := by
 refine pc_of_awp Tryz.func192 rfl Tryz.ntmps192 (rs := [.tmp 4]) Tryz.results192 (by simp) fun w0 => ?_
 refine awp_seq ?_
 refine awp_region 1 mixed (by kernel_rfl) ?_
 refine rg_q (q_a rfl) ?_
 refine rn ?_
 change Awp _ _ _ _ _
 refine awp_seq ?_
 refine awp_seq ?_
 refine awp_region 2 mixed (by kernel_rfl) ?_
 refine rg_q (q_m rfl) (rg_q (q_eql rfl rfl) ?_)
 refine rn ?_
 change Awp _ _ _ _ _
 refine awp_cond rfl (fun hc1 => ?_) (fun hc1 => ?_)
 ·
  (try simp only [nb, ne_eq] at hc1)
  refine awp_region 3 mixed (by kernel_rfl) ?_
  refine rg_q (q_m rfl) ?_
  refine rg_q (q_call en193 (.cons rfl .nil) rfl (abs_p _)) ?_
  refine rg_q (q_a rfl) ?_
  refine rs (awp_region 3 mixed (by kernel_rfl) ?_)
  refine rg_q (q_m rfl) ?_
  refine rg_q (q_fcmp (by decide) rfl rfl rfl) ?_
  refine rg_q (q_a rfl) ?_
  refine rn ?_
  change Awp _ _ _ _ _
  refine awp_ret ?_
  refine ⟨_, (.cons (.tmp (by exact .d _)) .nil), ?_⟩
  rfl
 ·
  simp at hc1
set_option maxRecDepth 100000 in
theorem truncW_p (b : Nat) (h : (FloatKind.f64.decode b).isNaN = false) : PC Tryz.prog 191 [.v (.float .f64 (b))] (.v (.float .f64 (tz64 b))) := by
 refine pc_of_awp Tryz.func191 rfl Tryz.ntmps191 (rs := [.tmp 2]) Tryz.results191 (by simp) fun w0 => ?_
 refine awp_seq ?_
 refine awp_region 1 mixed (by kernel_rfl) ?_
 refine rg_q (q_a rfl) ?_
 refine rn ?_
 change Awp _ _ _ _ _
 refine awp_seq ?_
 refine awp_cond rfl (fun hc0 => ?_) (fun hc0 => ?_)
 ·
  (try simp only [nb, ne_eq] at hc0)
  refine awp_seq ?_
  refine awp_region 3 mixed (by kernel_rfl) ?_
  refine rg_q (q_m rfl) ?_
  refine rg_q (q_ext1 (e := Extern.MathFloor.toIntegral "math.archTrunc" .zero) Tryz.func248 (by kernel_rfl) (by kernel_rfl) (by kernel_rfl) (by kernel_rfl) rfl rfl (fun w => trun_num h w) rfl) ?_
  refine rg_q (q_a rfl) ?_
  refine rn ?_
  change Awp _ _ _ _ _
  refine awp_ret ?_
  refine ⟨_, (.cons (.tmp (by exact .d _)) .nil), ?_⟩
  rfl
 ·
  cases hc0
set_option maxRecDepth 100000 in
theorem truncN_p (b : Nat) (h : (FloatKind.f64.decode b).isNaN = true) : PC Tryz.prog 191 [.v (.float .f64 (b))] (.nan .f64) := by
 refine pc_of_awp Tryz.func191 rfl Tryz.ntmps191 (rs := [.tmp 2]) Tryz.results191 (by simp) fun w0 => ?_
 refine awp_seq ?_
 refine awp_region 1 mixed (by kernel_rfl) ?_
 refine rg_q (q_a rfl) ?_
 refine rn ?_
 change Awp _ _ _ _ _
 refine awp_seq ?_
 refine awp_cond rfl (fun hc0 => ?_) (fun hc0 => ?_)
 ·
  (try simp only [nb, ne_eq] at hc0)
  refine awp_seq ?_
  refine awp_region 3 mixed (by kernel_rfl) ?_
  refine rg_q (q_m rfl) ?_
  refine rg_q (q_extN (e := Extern.MathFloor.toIntegral "math.archTrunc" .zero) Tryz.func248 (by kernel_rfl) (by kernel_rfl) (by kernel_rfl) (by kernel_rfl) rfl rfl (fun w => trun_nan h w)) ?_
  refine rg_q (q_assign (x := .d (.nan _)) rfl) ?_
  refine rn ?_
  change Awp _ _ _ _ _
  refine awp_ret ?_
  refine ⟨_, (.cons (.tmp (by exact .d _)) .nil), ?_⟩
  rfl
 ·
  cases hc0

theorem trunc_p (b : Nat) : PC Tryz.prog 191 [.v (.float .f64 b)] (trD b) := by
  unfold trD
  by_cases h : (FloatKind.f64.decode b).isNaN = true
  · rw [if_pos h]; exact truncN_p b h
  · rw [if_neg h]; exact truncW_p b (by simpa using h)
def pN (z : Nat × Nat) (i : Nat) : Nat := if i = 0 then z.1 else z.2
theorem pN_at {z : Nat × Nat} {i : Nat} (h : i < 2) : ([.v (.float .f64 z.1), .v (.float .f64 z.2)] : List D)[((i : Nat) : Int).toNat]? = some (.v (.float .f64 (pN z i))) := by rcases two i h with rfl | rfl <;> rfl
def peI (z : Nat × Nat) : Int := if (whD z.1 && whD z.2) = true then whenI (bgB z.1 || bgB z.2) 2 else 25
theorem peI_bad {z : Nat × Nat} {i : Nat} (hi : i < 2) (h : whD (pN z i) = false) : peI z = 25 := by
  unfold peI
  rcases two i hi with rfl | rfl
  · rw [show whD z.1 = false from h, if_neg (by simp)]
  · rw [show whD z.2 = false from h, if_neg (by simp)]
set_option maxRecDepth 100000 in
theorem partErr_p (z : Nat × Nat) : PC Tryz.prog 127 [cvD z] (.v (.int .i64 (peI z))) := by
 refine pc_of_awpN Tryz.func127 rfl Tryz.ntmps127 (rs := [.tmp 2]) Tryz.results127 (by simp) fun w0 hmine hrnd hpn => ?_
 refine awp_seq ?_
 refine awp_region 1 mixed (by kernel_rfl) ?_
 refine rg_q (q_a rfl) ?_
 refine rs (awp_region 5 mixed (by kernel_rfl) ?_)
 refine rg_q (q_m rfl) ?_
 refine rg_q (q_real rfl) ?_
 refine rg_q (q_m rfl) ?_
 refine rg_q (q_imag rfl) ?_
 refine rg_q (q_buildA (cs := [_, _]) ar285 zr285 rfl (.cons rfl (by exact .inl rfl) (.cons rfl (by exact .inl rfl) .nil)) ⟨⟨rfl, by decide⟩, ⟨rfl, by decide⟩, trivial⟩ rfl) ?_
 refine rg_nil ?_
 refine aops_allocD zr285 rfl sz285 rfl rfl (by exact .inr ⟨_, rfl⟩) rfl rfl ?_
 refine aops_nil ?_
 change Awp _ _ _ _ _
 refine awp_seq ?_
 refine awp_seq ?_
 refine awp_region 2 mixed (by kernel_rfl) ?_
 refine rg_q (q_loadA (ds := [_, _]) sz285 rfl rfl rfl) ?_
 refine rg_q (q_m rfl) ?_
 refine rn ?_
 change Awp _ _ _ _ _
 refine awp_block ?_
 refine awp_loopH [2, 5, 12, 13, 14, 15, 16, 17, 18, 19, 20, 21, 22, 23] [] (α := Nat) (fun j => [(12, T.i (j : Int))]) (fun j => []) (fun j => j ≤ 2 ∧ ∀ i, i < j → whD (pN z i) = true) (fun j => 2 - j) 0 ⟨by decide, fun i h => absurd h (by omega)⟩ ?_ ?_
 · exact le_head (ms := []) (by repeat (exact Out.refl _)) ⟨(by rfl), trivial⟩ trivial rfl rfl rfl rfl
 ·
  intro j ⟨hj, hall⟩
  refine awp_seq ?_
  refine awp_region 1 mixed (by kernel_rfl) ?_
  refine rg_q (q_lss rfl rfl) ?_
  refine rn ?_
  change Awp _ _ _ _ _
  refine awp_seq ?_
  refine awp_cond rfl (fun hc3 => ?_) (fun hc3 => ?_)
  ·
   (try simp only [nb, ne_eq] at hc3)
   have hj2 : j < 2 := by omega
   have hwi := wh_is (pN z j)
   refine awp_skip ?_
   change Awp _ _ _ _ _
   refine awp_seq ?_
   refine awp_block ?_
   refine awp_seq ?_
   refine awp_region 2 mixed (by kernel_rfl) ?_
   refine rg_q (q_index_ar ar285 sz167 rfl rfl (by omega) (by omega) (pN_at hj2)) ?_
   refine rg_q (q_a rfl) ?_
   refine rs (awp_region 8 mixed (by kernel_rfl) ?_)
   refine rg_q (q_m rfl) ?_
   refine rg_q (q_call en191 (.cons rfl .nil) rfl (trunc_p (pN z j))) ?_
   refine rg_q (q_m rfl) ?_
   refine rg_q (q_neqTr rfl rfl) ?_
   refine rg_q (q_m rfl) ?_
   refine rg_g rfl rfl (fun hG => (q_m rfl)) ?_
   refine rg_g rfl rfl (fun hG => (q_call en192 (.cons rfl (.cons rfl .nil)) rfl (isInf_p (pN z j)))) ?_
   refine rg_pick rfl rfl rfl rfl rfl rfl ?_
   refine rn ?_
   change Awp _ _ _ _ _
   refine awp_cond rfl (fun hc5 => ?_) (fun hc5 => ?_)
   ·
    (try simp only [nb, ne_eq] at hc5)
    have hz : peI z = 25 := peI_bad hj2 (by rw [hwi]; rcases hc5 with q | q <;> simp [q])
    refine awp_seq ?_
    refine awp_region 1 mixed (by kernel_rfl) ?_
    refine rg_q (q_a rfl) ?_
    refine rn ?_
    change Awp _ _ _ _ _
    refine awp_ret ?_
    refine ⟨_, (.cons (.tmp (by exact .d _)) .nil), ?_⟩
    rw [hz]; (try simp only [bif_or]); rfl
   ·
    (try simp only [nb, ne_eq] at hc5)
    have hwt : whD (pN z j) = true := by rw [hwi, hc5.1, hc5.2]; rfl
    refine awp_skip ?_
    change Awp _ _ _ _ _
    refine awp_region 2 mixed (by kernel_rfl) ?_
    refine rg_q (q_add rfl rfl (In64.mk (by omega) (by omega))) ?_
    refine rg_q (q_m rfl) ?_
    refine rn ?_
    refine ⟨j + 1, ⟨by omega, fun i hi => by
    by_cases q : i = j
    · subst q; exact hwt
    · exact hall i (by omega)⟩, by omega, ?_⟩
    exact le_head (ms := []) (by repeat (first | exact Out.head rfl rfl | (refine Out.put ?_ rfl))) ⟨(by rfl), trivial⟩ trivial rfl rfl rfl rfl
  ·
   (try simp only [nb, ne_eq] at hc3)
   have hj2 : j = 2 := by omega
   have h0 := hall 0 (by omega)
   have h1 := hall 1 (by omega)
   have hz : peI z = whenI (bgB z.1 || bgB z.2) 2 := by unfold peI; rw [if_pos (by rw [show whD z.1 = true from h0, show whD z.2 = true from h1]; rfl)]
   refine awp_exit ?_
   change Awp _ _ _ _ _
   refine awp_seq ?_
   refine awp_region 12 mixed (by kernel_rfl) ?_
   refine rg_q (q_indexAddr_ar ar285 rfl rfl (by omega) (by omega)) ?_
   refine rg_q (q_load sz167 rfl rfl) ?_
   refine rg_q (q_call en193 (.cons rfl .nil) rfl (abs_p _)) ?_
   refine rg_q (q_fcmp (by decide) rfl rfl rfl) ?_
   refine rg_q (q_m rfl) ?_
   refine rg_g rfl rfl (fun hG => (q_indexAddr_ar ar285 rfl rfl (by (have hg0 := T.bool_inj (a := _) hG.1; (try simp only [nb, ne_eq] at hg0); omega)) (by (have hg0 := T.bool_inj (a := _) hG.1; (try simp only [nb, ne_eq] at hg0); omega)))) ?_
   refine rg_g rfl rfl (fun hG => (q_load sz167 rfl rfl)) ?_
   refine rg_g rfl rfl (fun hG => (q_call en193 (.cons rfl .nil) rfl (abs_p _))) ?_
   refine rg_g rfl rfl (fun hG => (q_fcmp (by decide) rfl rfl rfl)) ?_
   refine rg_pick rfl rfl rfl rfl rfl rfl ?_
   refine rg_q (q_call en88 (.cons rfl (.cons rfl .nil)) rfl (fwhen_p _ _)) ?_
   refine rg_q (q_a rfl) ?_
   refine rn ?_
   change Awp _ _ _ _ _
   refine awp_ret ?_
   refine ⟨_, (.cons (.tmp (by exact .d _)) .nil), ?_⟩
   rw [hz]; (try simp only [bif_or]); rfl

theorem pe_ok {z : Nat × Nat} (h : peI z = 0) : (whD z.1 = true ∧ whD z.2 = true) ∧ bgB z.1 = false ∧ bgB z.2 = false := by
  unfold peI at h
  by_cases h1 : (whD z.1 && whD z.2) = true
  · rw [if_pos h1, when_zero (by decide), Bool.or_eq_false_iff] at h
    rw [Bool.and_eq_true] at h1
    exact ⟨h1, h⟩
  · rw [if_neg h1] at h; cases h
def vZ (z : Nat × Nat) : Int × Int := (vD z.1, vD z.2)
set_option maxRecDepth 100000 in
theorem sumOf_p (z : Nat × Nat) (hz0 : peI z = 0) : PC Tryz.prog 128 [cvD z] (.agg (shC (vZ z))) := by
 obtain ⟨⟨w1, w2⟩, b1, b2⟩ := pe_ok hz0
 obtain ⟨⟨v1, v2⟩, v3⟩ := vD_in w1 b1
 obtain ⟨⟨v4, v5⟩, v6⟩ := vD_in w2 b2
 refine pc_of_awp Tryz.func128 rfl Tryz.ntmps128 (rs := [.cell 2 160]) Tryz.results128 (by simp) fun w0 => ?_
 refine awp_seq ?_
 refine awp_region 0 mixed (by kernel_rfl) ?_
 refine rg_nil ?_
 refine aops_alloc zr160 rfl rfl rfl ?_
 refine aops_nil ?_
 change Awp _ _ _ _ _
 refine awp_seq ?_
 refine awp_region 7 mixed (by kernel_rfl) ?_
 refine rg_q (q_m rfl) ?_
 refine rg_q (q_real rfl) ?_
 refine rg_q (q_convfi flt167 int3 rfl v3) ?_
 refine rg_q (q_m rfl) ?_
 refine rg_q (q_imag rfl) ?_
 refine rg_q (q_convfi flt167 int3 rfl v6) ?_
 refine rg_q (q_build (cs := [_, _]) pl160 zr160 rfl (.cons rfl (by exact .inl rfl) (.cons rfl (by exact .inl rfl) .nil)) ⟨⟨rfl, by decide⟩, ⟨rfl, by decide⟩, trivial⟩ rfl) ?_
 refine rg_nil ?_
 refine aops_store sz160 rfl rfl (by exact .inr ⟨_, rfl⟩) rfl rfl (by decide) rfl ?_
 refine aops_nil ?_
 change Awp _ _ _ _ _
 refine awp_ret ?_
 refine ⟨_, (.cons (.cellA rfl rfl sz160 rfl) .nil), ?_⟩
 rfl
end Go.Proofs.YtphlaicnmmglhaaGreat.Am.M
-- mini
namespace Go.Proofs.YtphlaicnmmglhaaGreat.Am.M
open Go

def imC (x : List (Nat × Nat)) : List D := [.sl 1 (x.map cvC)]
def hdN (l : List (List (Nat × Nat))) : Nat := (l.getD 0 []).length
theorem hd_at {l : List (List (Nat × Nat))} (h : 0 < l.length) : l[0]? = some (l.getD 0 []) := by
  rw [List.getD_eq_getElem?_getD, List.getElem?_eq_getElem h]; rfl
def neqB (l : List (List (Nat × Nat))) (x : List (Nat × Nat)) : Bool := decide (x.length ≠ hdN l)
def atZ (x : List (Nat × Nat)) (k : Nat) : Nat × Nat := x.getD k (0, 0)
theorem atZ_at {x : List (Nat × Nat)} {k : Nat} (h : k < x.length) : x[k]? = some (atZ x k) := by
  unfold atZ
  rw [List.getD_eq_getElem?_getD, List.getElem?_eq_getElem h]; rfl
def colZ (l : List (List (Nat × Nat))) (k : Nat) : List (Nat × Nat) := l.map fun x => atZ x k
theorem colZ_len (l : List (List (Nat × Nat))) (k : Nat) : (colZ l k).length = l.length := List.length_map _
theorem colZ_at {l : List (List (Nat × Nat))} {i : Nat} {x : List (Nat × Nat)} (k : Nat) (h : l[i]? = some x) : (colZ l k)[i]? = some (atZ x k) := by unfold colZ; rw [List.getElem?_map, h]; rfl
def peS : List (Nat × Nat) → Int
  | [] => 0
  | z :: r => if peI z ≠ 0 then peI z else peS r
theorem peS_at {c : List (Nat × Nat)} {i : Nat} {z : Nat × Nat} (h : c[i]? = some z) : peS (c.drop i) = if peI z ≠ 0 then peI z else peS (c.drop (i + 1)) := by
  obtain ⟨hlt, rfl⟩ := List.getElem?_eq_some_iff.1 h
  rw [List.drop_eq_getElem_cons hlt]; rfl
def smF (s : Int × Int) (z : Nat × Nat) : Int × Int := (s.1 + (vZ z).1, s.2 + (vZ z).2)
def smS (c : List (Nat × Nat)) : Int × Int := c.foldl smF (0, 0)
theorem smS_snoc {c : List (Nat × Nat)} {i : Nat} {z : Nat × Nat} (h : c[i]? = some z) : smS (c.take (i + 1)) = smF (smS (c.take i)) z := by
  unfold smS
  rw [takeSnoc h, List.foldl_append]; rfl
theorem vZ_in {z : Nat × Nat} (h : peI z = 0) : (-10000000 ≤ (vZ z).1 ∧ (vZ z).1 ≤ 10000000) ∧ -10000000 ≤ (vZ z).2 ∧ (vZ z).2 ≤ 10000000 := by
  obtain ⟨⟨w1, w2⟩, b1, b2⟩ := pe_ok h
  exact ⟨(vD_in w1 b1).1, (vD_in w2 b2).1⟩
theorem smS_in {c : List (Nat × Nat)} : ∀ i : Nat, i ≤ c.length → (∀ z ∈ c.take i, peI z = 0) → (-(10000000 * (i : Int)) ≤ (smS (c.take i)).1 ∧ (smS (c.take i)).1 ≤ 10000000 * (i : Int)) ∧ -(10000000 * (i : Int)) ≤ (smS (c.take i)).2 ∧ (smS (c.take i)).2 ≤ 10000000 * (i : Int)
  | 0, _, _ => by
    have e : smS (c.take 0) = (0, 0) := rfl
    rw [e]
    decide
  | i + 1, hi, h => by
    have hz : c[i]? = some c[i] := List.getElem?_eq_getElem (by omega)
    have h1 := smS_in (c := c) i (by omega) (fun z q => h z (by rw [takeSnoc hz]; exact List.mem_append_left _ q))
    have h2 := vZ_in (h c[i] (by rw [takeSnoc hz]; exact List.mem_append_right _ (List.mem_singleton.2 rfl)))
    rw [smS_snoc hz]
    unfold smF
    simp only
    omega
def mgS (l : List (List (Nat × Nat))) : Nat → Nat → Int
  | _, 0 => 0
  | k, m + 1 => if peS (colZ l k) ≠ 0 then peS (colZ l k) else mgS l (k + 1) m
theorem mgS_at {l : List (List (Nat × Nat))} {k n : Nat} (h : k < n) : mgS l k (n - k) = if peS (colZ l k) ≠ 0 then peS (colZ l k) else mgS l (k + 1) (n - (k + 1)) := by
  obtain ⟨m, hm⟩ : ∃ m, n - k = m + 1 := ⟨n - k - 1, by omega⟩
  rw [hm, show n - (k + 1) = m by omega]; rfl
def smL (l : List (List (Nat × Nat))) (n : Nat) : List (Int × Int) := (List.range n).map fun k => smS (colZ l k)
theorem smL_len (l : List (List (Nat × Nat))) (n : Nat) : (smL l n).length = n := by unfold smL; rw [List.length_map, List.length_range]
def mgR (l : List (List (Nat × Nat))) : List (Nat × Nat) × Int :=
  if (decide (l.length = 0) || l.any (neqB l)) = true then ([], 10)
  else if 16 < l.length ∨ 1600 < hdN l then ([], 8)
  else if mgS l 0 (hdN l) ≠ 0 then ([], mgS l 0 (hdN l))
  else ((smL l (hdN l)).map czP, 0)
def esR (l : List (List (Nat × Nat))) (n k i : Nat) : List (List D) := (List.range n).map fun j => shC (if j < k then smS (colZ l j) else if j = k then smS ((colZ l k).take i) else (0, 0))
theorem esR_len (l : List (List (Nat × Nat))) (n k i : Nat) : (esR l n k i).length = n := by unfold esR; rw [List.length_map, List.length_range]
theorem esR_at {l : List (List (Nat × Nat))} {n k i : Nat} (h : k < n) : (esR l n k i)[k]? = some (shC (smS ((colZ l k).take i))) := by
  unfold esR
  rw [List.getElem?_map, List.getElem?_range h]
  show some (shC _) = _
  rw [if_neg (by omega), if_pos rfl]
theorem esR_set {l : List (List (Nat × Nat))} {n k i : Nat} (h : k < n) {p : Int × Int} (hp : smS ((colZ l k).take (i + 1)) = p) : (esR l n k i).set k (setCs (shC (smS ((colZ l k).take i))) 0 [.v (.int .i64 p.1), .v (.int .i64 p.2)]) = esR l n k (i + 1) := by
  have e : setCs (shC (smS ((colZ l k).take i))) 0 [.v (.int .i64 p.1), .v (.int .i64 p.2)] = shC p := rfl
  rw [e]
  apply List.ext_getElem?
  intro j
  rw [List.getElem?_set]
  by_cases hj : k = j
  · subst hj
    rw [if_pos rfl, if_pos (by rw [esR_len]; exact h), esR_at h, hp]
  · rw [if_neg hj]
    unfold esR
    rw [List.getElem?_map, List.getElem?_map]
    by_cases hjn : j < n
    · rw [List.getElem?_range hjn]
      show some (shC _) = some (shC _)
      rw [if_neg (c := j = k) (fun q => hj q.symm), if_neg (c := j = k) (fun q => hj q.symm)]
    · rw [List.getElem?_eq_none (by rw [List.length_range]; omega)]; rfl
theorem esR_next {l : List (List (Nat × Nat))} {n k : Nat} : esR l n k l.length = esR l n (k + 1) 0 := by
  unfold esR
  refine List.map_congr_left fun j _ => ?_
  congr 1
  by_cases h1 : j < k
  · rw [if_pos h1, if_pos (by omega)]
  · rw [if_neg h1]
    by_cases h2 : j = k
    · subst h2
      rw [if_pos rfl, if_pos (by omega), List.take_of_length_le (by rw [colZ_len]; exact Nat.le_refl _)]
    · rw [if_neg h2, if_neg (by omega)]
      split <;> rfl
theorem esR_zero (l : List (List (Nat × Nat))) (n : Nat) : esR l n 0 0 = List.replicate n (shC (0, 0)) := by
  rw [List.eq_replicate_iff]
  refine ⟨esR_len _ _ _ _, fun b hb => ?_⟩
  unfold esR at hb
  obtain ⟨j, _, rfl⟩ := List.mem_map.1 hb
  rw [if_neg (by omega)]
  split <;> rfl
theorem esR_all (l : List (List (Nat × Nat))) (n : Nat) : esR l n n 0 = (smL l n).map shC := by
  unfold esR smL
  rw [List.map_map]
  refine List.map_congr_left fun j hj => ?_
  have := List.mem_range.1 hj
  rw [if_pos this]; rfl
set_option maxRecDepth 100000 in
theorem merged1_p (l : List (List (Nat × Nat))) (x : List (Nat × Nat)) (hl : 0 < l.length) : PC Tryz.prog 131 [.sl 1 (x.map cvC), .pt [.sl 1 (l.map imC)] 0] (.v (.bool (neqB l x))) := by
 have hx0 := hd_at hl
 refine pc_of_awpN Tryz.func131 rfl Tryz.ntmps131 (rs := [.tmp 3]) Tryz.results131 (by simp) fun w0 hmine hrnd hpn => ?_
 refine awp_seq ?_
 refine awp_region 1 mixed (by kernel_rfl) ?_
 refine rg_q (q_a rfl) ?_
 refine rs (awp_region 8 mixed (by kernel_rfl) ?_)
 refine rg_q (q_move (x := .d (.sl _ _)) rfl) ?_
 refine rg_q (q_len isl72 rfl (by exact len_map _ _)) ?_
 refine rg_q (q_load sz105 rfl rfl) ?_
 refine rg_q (q_indexAddr sl105 rfl rfl (by omega) (map_at (k := 0) (by omega) hx0)) ?_
 refine rg_q (q_load sz72 rfl rfl) ?_
 refine rg_q (q_len isl72 rfl (by exact len_map _ _)) ?_
 refine rg_q (q_neq rfl rfl) (rg_q (q_a rfl) ?_)
 refine rn ?_
 change Awp _ _ _ _ _
 refine awp_len (t := 4) rfl (fun hl4 => ?_)
 (try simp only [List.length_map] at hl4)
 refine awp_len (t := 8) rfl (fun hl8 => ?_)
 (try simp only [List.length_map] at hl8)
 refine awp_ret ?_
 refine ⟨_, (.cons (.tmp (by exact .d _)) .nil), ?_⟩
 show D.v (.bool (neqB l x)) = _
 unfold neqB hdN
 congr 2
 exact decide_eq_decide.2 (by omega)
set_option maxRecDepth 100000 in
theorem indexIm_p (f : List (Nat × Nat) → Bool) (g : FuncId) (cap : List D) (hen : enB Tryz.prog g = true) (l : List (List (Nat × Nat))) (hf : ∀ a ∈ l, PC Tryz.prog g (.sl 1 (a.map cvC) :: cap) (.v (.bool (f a)))) : PC Tryz.prog 195 [.sl 1 (l.map imC), .fn (.func g) cap] (.v (.int .i64 (idxOf f 0 l))) := by
 refine pc_of_awp Tryz.func195 rfl Tryz.ntmps195 (rs := [.tmp 4]) Tryz.results195 (by simp) fun w0 => ?_
 refine awp_seq ?_
 refine awp_region 1 mixed (by kernel_rfl) ?_
 refine rg_q (q_a rfl) ?_
 refine rn ?_
 change Awp _ _ _ _ _
 refine awp_seq ?_
 refine awp_seq ?_
 refine awp_region 3 mixed (by kernel_rfl) ?_
 refine rg_q (q_move (x := .d (.sl _ _)) rfl) ?_
 refine rg_q (q_len isl105 rfl (by exact len_map _ _)) ?_
 refine rg_q (q_m rfl) ?_
 refine rn ?_
 change Awp _ _ _ _ _
 refine awp_len (t := 6) rfl (fun hl6 => ?_)
 (try simp only [List.length_map] at hl6)
 refine awp_block ?_
 refine awp_loopH [4, 5, 8, 9, 10, 11, 12, 13, 14, 15, 16, 17, 18] [] (α := Nat) (fun k => [(8, T.i (k : Int))]) (fun k => []) (fun k => k ≤ l.length ∧ idxOf f 0 l = idxOf f k (l.drop k)) (fun k => l.length - k) 0 ⟨Nat.zero_le _, rfl⟩ ?_ ?_
 · exact le_head (ms := []) (by repeat (exact Out.refl _)) ⟨(by rfl), trivial⟩ trivial rfl rfl rfl rfl
 ·
  intro k ⟨hk, hh⟩
  refine awp_seq ?_
  refine awp_region 1 mixed (by kernel_rfl) ?_
  refine rg_q (q_lss rfl rfl) ?_
  refine rn ?_
  change Awp _ _ _ _ _
  refine awp_seq ?_
  refine awp_cond rfl (fun hc2 => ?_) (fun hc2 => ?_)
  ·
   (try simp only [nb, ne_eq] at hc2)
   have hlt : k < l.length := by omega
   have hx := List.getElem?_eq_getElem hlt
   have hd : idxOf f k (l.drop k) = if f l[k] = true then (k : Int) else idxOf f (k + 1) (l.drop (k + 1)) := by rw [List.drop_eq_getElem_cons hlt]; rfl
   have hfx := hf l[k] (List.getElem_mem hlt)
   generalize l[k] = x at *
   refine awp_skip ?_
   change Awp _ _ _ _ _
   refine awp_seq ?_
   refine awp_block ?_
   refine awp_seq ?_
   refine awp_region 2 mixed (by kernel_rfl) ?_
   refine rg_q (q_m rfl) (rg_q (q_a rfl) ?_)
   refine rs (awp_region 6 mixed (by kernel_rfl) ?_)
   refine rg_q (q_move (x := .d (.fn _ _)) rfl) (rg_q (q_move (x := .d (.sl _ _)) rfl) (rg_q (q_m rfl) ?_))
   refine rg_q (q_indexAddr sl105 rfl rfl (by omega) (map_at (by omega) hx)) ?_
   refine rg_q (q_load sz72 rfl rfl) ?_
   refine rg_q (q_callC hen rfl (.cons rfl .nil) (hfx)) ?_
   refine rn ?_
   change Awp _ _ _ _ _
   refine awp_cond rfl (fun hc4 => ?_) (fun hc4 => ?_)
   ·
    (try simp only [nb, ne_eq] at hc4)
    refine awp_seq ?_
    refine awp_region 2 mixed (by kernel_rfl) ?_
    refine rg_q (q_m rfl) (rg_q (q_a rfl) ?_)
    refine rn ?_
    change Awp _ _ _ _ _
    refine awp_ret ?_
    refine ⟨_, (.cons (.tmp (by exact .d _)) .nil), ?_⟩
    rw [hh, hd, if_pos (by simpa using hc4)]; rfl
   ·
    (try simp only [nb, ne_eq] at hc4)
    refine awp_skip ?_
    change Awp _ _ _ _ _
    refine awp_region 2 mixed (by kernel_rfl) ?_
    refine rg_q (q_add rfl rfl (In64.mk (by omega) (by omega))) ?_
    refine rg_q (q_m rfl) ?_
    refine rn ?_
    refine ⟨k + 1, ⟨by omega, by rw [hh, hd, if_neg (by simpa using hc4)]⟩, by omega, ?_⟩
    exact le_head (ms := []) (by repeat (first | exact Out.head rfl rfl | (refine Out.put ?_ rfl))) ⟨(by rfl), trivial⟩ trivial rfl rfl rfl rfl
  ·
   (try simp only [nb, ne_eq] at hc2)
   refine awp_exit ?_
   change Awp _ _ _ _ _
   refine awp_seq ?_
   refine awp_region 1 mixed (by kernel_rfl) ?_
   refine rg_q (q_a rfl) ?_
   refine rn ?_
   change Awp _ _ _ _ _
   refine awp_ret ?_
   refine ⟨_, (.cons (.tmp (by exact .d _)) .nil), ?_⟩
   rw [hh, List.drop_of_length_le (by omega)]; rfl
set_option maxRecDepth 100000 in
theorem containsIm_p (f : List (Nat × Nat) → Bool) (g : FuncId) (cap : List D) (hen : enB Tryz.prog g = true) (l : List (List (Nat × Nat))) (hf : ∀ a ∈ l, PC Tryz.prog g (.sl 1 (a.map cvC) :: cap) (.v (.bool (f a)))) : PC Tryz.prog 130 [.sl 1 (l.map imC), .fn (.func g) cap] (.v (.bool (l.any f))) := by
 have hm := idxOf_mem f l
 refine pc_of_awp Tryz.func130 rfl Tryz.ntmps130 (rs := [.tmp 4]) Tryz.results130 (by simp) fun w0 => ?_
 refine awp_seq ?_
 refine awp_region 1 mixed (by kernel_rfl) ?_
 refine rg_q (q_a rfl) ?_
 refine rs (awp_region 5 mixed (by kernel_rfl) ?_)
 refine rg_q (q_move (x := .d (.sl _ _)) rfl) (rg_q (q_move (x := .d (.fn _ _)) rfl) ?_)
 refine rg_q (q_call en195 (.cons rfl (.cons rfl .nil)) rfl (indexIm_p f g cap hen l hf)) ?_
 refine rg_q (q_geq rfl rfl) (rg_q (q_a rfl) ?_)
 refine rn ?_
 change Awp _ _ _ _ _
 refine awp_ret ?_
 refine ⟨_, (.cons (.tmp (by exact .d _)) .nil), ?_⟩
 rw [← hm]; rfl
set_option maxHeartbeats 4000000 in
set_option maxRecDepth 100000 in
theorem mergedI_p (l : List (List (Nat × Nat))) : PC Tryz.prog 60 [.sl 1 (l.map imC)] (.tup [.sl 1 ((mgR l).1.map cvC), .v (.int .i64 ((mgR l).2))]) := by
 have hu : mgR l = if (decide (l.length = 0) || l.any (neqB l)) = true then ([], 10)
  else if 16 < l.length ∨ 1600 < hdN l then ([], 8)
  else if mgS l 0 (hdN l) ≠ 0 then ([], mgS l 0 (hdN l))
  else ((smL l (hdN l)).map czP, 0) := rfl
 refine pc_of_awpN Tryz.func60 rfl Tryz.ntmps60 (rs := [.tmp 2, .tmp 3]) Tryz.results60 (by simp) fun w0 hmine hrnd hpn => ?_
 refine awp_seq ?_
 refine awp_region 3 mixed (by kernel_rfl) ?_
 refine rg_q (q_box rfl (by exact .inl rfl)) ?_
 refine rg_q (q_assign (x := .d (.sl _ _)) rfl) (rg_q (q_a rfl) ?_)
 refine rn ?_
 change Awp _ _ _ _ _
 refine awp_seq ?_
 refine awp_seq ?_
 refine awp_region 8 mixed (by kernel_rfl) ?_
 refine rg_q (q_load sz105 rfl rfl) ?_
 refine rg_q (q_len isl105 rfl (by exact len_map _ _)) ?_
 refine rg_q (q_eql rfl rfl) (rg_q (q_m rfl) ?_)
 refine rg_g rfl rfl (fun hG => (q_load sz105 rfl rfl)) ?_
 refine rg_g rfl rfl (fun hG => (q_makeFunc (.cons rfl .nil))) ?_
 refine rg_g rfl rfl (fun hG => (q_call en130 (.cons rfl (.cons rfl .nil)) rfl (containsIm_p (neqB l) 131 [.pt [.sl 1 (l.map imC)] 0] en131 l (fun x _ => merged1_p l x (by have q := of_decide_eq_false (T.bool_inj (a := _) hG.1); omega))))) ?_
 refine rg_pick rfl rfl rfl rfl rfl rfl ?_
 refine rn ?_
 change Awp _ _ _ _ _
 refine awp_len (t := 9) rfl (fun hl9 => ?_)
 (try simp only [List.length_map] at hl9)
 refine awp_cond rfl (fun hc1 => ?_) (fun hc1 => ?_)
 ·
  (try simp only [nb, ne_eq] at hc1)
  have hq : (decide (l.length = 0) || l.any (neqB l)) = true := by
   rcases hc1 with q | q
   · rw [decide_eq_true (show l.length = 0 by omega)]; rfl
   · rw [q, Bool.or_true]
  rw [if_pos hq] at hu
  refine awp_seq ?_
  refine awp_region 2 mixed (by kernel_rfl) ?_
  refine rg_q (q_assign (x := .d (.sl _ _)) rfl) (rg_q (q_a rfl) ?_)
  refine rn ?_
  change Awp _ _ _ _ _
  refine awp_ret ?_
  refine ⟨_, (.cons (.tmp (by exact .d _)) (.cons (.tmp (by exact .d _)) .nil)), ?_⟩
  rw [hu]; rfl
 ·
  (try simp only [nb, ne_eq] at hc1)
  obtain ⟨hln, hany⟩ := hc1
  have hl0 : 0 < l.length := by omega
  have hx0 := hd_at hl0
  have hx0l : (l.getD 0 []).length = hdN l := rfl
  have hqn : ¬ (decide (l.length = 0) || l.any (neqB l)) = true := by rw [hany, decide_eq_false (show ¬ l.length = 0 by omega)]; decide
  rw [if_neg hqn] at hu
  have hlen : ∀ x ∈ l, x.length = hdN l := fun x hx => by
   have := List.any_eq_false.1 hany x hx
   unfold neqB at this
   simpa using this
  refine awp_skip ?_
  change Awp _ _ _ _ _
  refine awp_seq ?_
  refine awp_seq ?_
  refine awp_region 10 mixed (by kernel_rfl) ?_
  refine rg_q (q_load sz105 rfl rfl) ?_
  refine rg_q (q_len isl105 rfl (by exact len_map _ _)) ?_
  refine rg_q (q_gtr rfl rfl) (rg_q (q_m rfl) ?_)
  refine rg_g rfl rfl (fun hG => (q_load sz105 rfl rfl)) ?_
  refine rg_g rfl rfl (fun hG => (q_indexAddr sl105 rfl rfl (by (have hg0 := T.bool_inj (a := _) hG.1; (try simp only [nb, ne_eq] at hg0); omega)) (map_at (k := 0) (by omega) hx0))) ?_
  refine rg_g rfl rfl (fun hG => (q_load sz72 rfl rfl)) ?_
  refine rg_g rfl rfl (fun hG => (q_len isl72 rfl (by exact len_map _ _))) ?_
  refine rg_g rfl rfl (fun hG => (q_gtr rfl rfl)) ?_
  refine rg_pick rfl rfl rfl rfl rfl rfl ?_
  refine rn ?_
  change Awp _ _ _ _ _
  refine awp_len (t := 17) rfl (fun hl17 => ?_)
  (try simp only [List.length_map] at hl17)
  refine awp_cond rfl (fun hc3 => ?_) (fun hc3 => ?_)
  ·
   (try simp only [nb, ne_eq] at hc3)
   rw [if_pos (show 16 < l.length ∨ 1600 < hdN l by omega)] at hu
   refine awp_seq ?_
   refine awp_region 2 mixed (by kernel_rfl) ?_
   refine rg_q (q_assign (x := .d (.sl _ _)) rfl) (rg_q (q_a rfl) ?_)
   refine rn ?_
   change Awp _ _ _ _ _
   refine awp_ret ?_
   refine ⟨_, (.cons (.tmp (by exact .d _)) (.cons (.tmp (by exact .d _)) .nil)), ?_⟩
   rw [hu]; rfl
  ·
   (try simp only [nb, ne_eq] at hc3)
   have hl16 : l.length ≤ 16 := by omega
   have hn16 : hdN l ≤ 1600 := by omega
   rw [if_neg (by omega)] at hu
   refine awp_skip ?_
   change Awp _ _ _ _ _
   refine awp_seq ?_
   refine awp_region 4 mixed (by kernel_rfl) ?_
   refine rg_q (q_load sz105 rfl rfl) ?_
   refine rg_q (q_indexAddr sl105 rfl rfl (by omega) (map_at (k := 0) (by omega) hx0)) ?_
   refine rg_q (q_load sz72 rfl rfl) ?_
   refine rg_q (q_len isl72 rfl (by exact len_map _ _)) ?_
   refine rg_nil ?_
   refine aops_make (m := hdN l) sl189 zr160 by160 rfl rfl rfl rfl (by (try simp only [List.length_map]); omega) (by (try simp only [List.length_map]); omega) rfl rfl ?_
   refine aops_q rfl (q_assign (x := .rs _) rfl) ?_
   refine aops_nil ?_
   change Awp _ _ _ _ _
   refine awp_len (t := 29) rfl (fun hl29 => ?_)
   (try simp only [List.length_map] at hl29)
   refine awp_seq ?_
   refine awp_seq ?_
   refine awp_region 3 mixed (by kernel_rfl) ?_
   refine rg_q (q_move (x := .rs _) rfl) ?_
   refine rg_q (q_len_rs isl189 rfl rfl) ?_
   refine rg_q (q_m rfl) ?_
   refine rn ?_
   change Awp _ _ _ _ _
   skip
   (try simp only [List.length_map] at hl32)
   refine awp_block ?_
   refine awp_loopH [2, 3, 5, 7, 8, 34, 35, 36, 37, 38, 39, 40, 41, 42, 43, 44, 45, 46, 47, 48, 49, 50, 51, 52, 53, 54, 55, 56, 57, 58, 59, 60, 61, 62, 63, 64, 65] [31] (α := Nat) (fun k => [(34, T.i (k : Int))]) (fun k => [(31, .row 160 2 (esR l (hdN l) k 0))]) (fun k => k ≤ hdN l ∧ mgS l 0 (hdN l) = mgS l k (hdN l - k)) (fun k => hdN l - k) 0 ⟨Nat.zero_le _, rfl⟩ ?_ ?_
   · exact le_head (ms := [31]) (by repeat (exact Out.refl _)) ⟨(by rfl), trivial⟩ ⟨(by (show Site.row _ _ _ = Site.row _ _ _; (rw [esR_zero]; rfl))), trivial⟩ rfl rfl rfl rfl
   ·
    intro k ⟨hk, hf⟩
    refine awp_seq ?_
    refine awp_region 1 mixed (by kernel_rfl) ?_
    refine rg_q (q_lss rfl rfl) ?_
    refine rn ?_
    change Awp _ _ _ _ _
    refine awp_seq ?_
    refine awp_cond rfl (fun hc7 => ?_) (fun hc7 => ?_)
    ·
     (try simp only [nb, ne_eq] at hc7)
     (try simp only [List.length_replicate] at hc7)
     have hlt : k < hdN l := by omega
     have hms := mgS_at (l := l) hlt
     rw [hms] at hf
     have hcl := colZ_len l k
     refine awp_skip ?_
     change Awp _ _ _ _ _
     refine awp_seq ?_
     refine awp_block ?_
     refine awp_seq ?_
     refine awp_region 2 mixed (by kernel_rfl) ?_
     refine rg_q (q_m rfl) (rg_q (q_a rfl) ?_)
     refine rs (awp_region 3 mixed (by kernel_rfl) ?_)
     refine rg_q (q_load sz105 rfl rfl) ?_
     refine rg_q (q_len isl105 rfl (by exact len_map _ _)) ?_
     refine rg_q (q_m rfl) ?_
     refine rn ?_
     change Awp _ _ _ _ _
     refine awp_len (t := 37) rfl (fun hl37 => ?_)
     (try simp only [List.length_map] at hl37)
     refine awp_block ?_
     refine awp_loopH [2, 3, 7, 8, 39, 40, 41, 42, 43, 44, 45, 46, 47, 48, 49, 50, 51, 52, 53, 54, 55, 56, 57, 58, 59, 60, 61, 62, 63, 64] [31] (α := Nat) (fun i => [(39, T.i (i : Int))]) (fun i => [(31, .row 160 2 (esR l (hdN l) k i))]) (fun i => i ≤ l.length ∧ peS (colZ l k) = peS ((colZ l k).drop i) ∧ ∀ z ∈ (colZ l k).take i, peI z = 0) (fun i => l.length - i) 0 ⟨Nat.zero_le _, rfl, fun z q => by simp at q⟩ ?_ ?_
     · exact le_head (ms := [31]) (by repeat (exact Out.refl _)) ⟨(by rfl), trivial⟩ ⟨(by rfl), trivial⟩ rfl rfl rfl rfl
     ·
      intro i ⟨hi, hg, hok⟩
      refine awp_seq ?_
      refine awp_region 1 mixed (by kernel_rfl) ?_
      refine rg_q (q_lss rfl rfl) ?_
      refine rn ?_
      change Awp _ _ _ _ _
      refine awp_seq ?_
      refine awp_cond rfl (fun hc10 => ?_) (fun hc10 => ?_)
      ·
       (try simp only [nb, ne_eq] at hc10)
       have hil : i < l.length := by omega
       obtain ⟨x, hx⟩ : ∃ x, l[i]? = some x := ⟨_, List.getElem?_eq_getElem hil⟩
       have hxl := hlen x (List.mem_of_getElem? hx)
       have hzk := atZ_at (x := x) (k := k) (by omega)
       have hcz := colZ_at k hx
       have hps := peS_at hcz
       rw [hps] at hg
       have hsi := smS_in (c := colZ l k) i (by omega) hok
       have hsn := smS_snoc hcz
       refine awp_skip ?_
       change Awp _ _ _ _ _
       refine awp_seq ?_
       refine awp_block ?_
       refine awp_seq ?_
       refine awp_region 3 mixed (by kernel_rfl) ?_
       refine rg_q (q_indexAddr sl105 rfl rfl (by omega) (map_at (by omega) hx)) ?_
       refine rg_q (q_load sz72 rfl rfl) (rg_q (q_assign (x := .d (.sl _ _)) rfl) ?_)
       refine rn ?_
       change Awp _ _ _ _ _
       refine awp_seq ?_
       refine awp_seq ?_
       refine awp_region 6 mixed (by kernel_rfl) ?_
       refine rg_q (q_move (x := .d (.sl _ _)) rfl) (rg_q (q_m rfl) ?_)
       refine rg_q (q_indexAddr sl72 rfl rfl (by omega) (map_at (k := k) (by omega) hzk)) ?_
       refine rg_q (q_load sz46 rfl rfl) ?_
       refine rg_q (q_call en127 (.cons rfl .nil) rfl (partErr_p (atZ x k))) ?_
       refine rg_q (q_a rfl) ?_
       refine rs (awp_region 2 mixed (by kernel_rfl) ?_)
       refine rg_q (q_m rfl) (rg_q (q_neq rfl rfl) ?_)
       refine rn ?_
       change Awp _ _ _ _ _
       refine awp_cond rfl (fun hc13 => ?_) (fun hc13 => ?_)
       ·
        (try simp only [nb, ne_eq] at hc13)
        have he : peS (colZ l k) = peI (atZ x k) := by rw [hg, if_pos hc13]
        have hz : mgR l = ([], peI (atZ x k)) := by rw [hu, hf, he, if_pos hc13, if_pos hc13]
        refine awp_seq ?_
        refine awp_region 3 mixed (by kernel_rfl) ?_
        refine rg_q (q_m rfl) (rg_q (q_assign (x := .d (.sl _ _)) rfl) (rg_q (q_a rfl) ?_))
        refine rn ?_
        change Awp _ _ _ _ _
        refine awp_ret ?_
        refine ⟨_, (.cons (.tmp (by exact .d _)) (.cons (.tmp (by exact .d _)) .nil)), ?_⟩
        rw [hz]; rfl
       ·
        (try simp only [nb, ne_eq] at hc13)
        have hz0 : peI (atZ x k) = 0 := hc13
        rw [if_neg (fun q => q hz0)] at hg
        have hvz := vZ_in hz0
        have hok2 : ∀ z ∈ (colZ l k).take (i + 1), peI z = 0 := fun z q => by
         rw [takeSnoc hcz] at q
         rcases List.mem_append.1 q with q | q
         · exact hok z q
         · rw [List.mem_singleton.1 q]; exact hz0
        have hsn2 : smS ((colZ l k).take (i + 1)) = ((smS ((colZ l k).take i)).1 + (vZ (atZ x k)).1, (smS ((colZ l k).take i)).2 + (vZ (atZ x k)).2) := hsn
        have hset := esR_set hlt hsn2
        have hea := esR_at (l := l) (n := hdN l) (i := i) hlt
        have hel := esR_len l (hdN l) k i
        refine awp_skip ?_
        change Awp _ _ _ _ _
        refine awp_region 13 mixed (by kernel_rfl) ?_
        refine rg_q (q_move (x := .rs _) rfl) (rg_q (q_m rfl) (rg_q (q_move (x := .rs _) rfl) (rg_q (q_m rfl) ?_)))
        refine rg_q (q_indexAddr_rs sl189 rfl rfl rfl (by omega) (by omega)) ?_
        refine rg_q (q_load_rowA sz160 rfl rfl rfl hea) ?_
        refine rg_q (q_move (x := .d (.sl _ _)) rfl) (rg_q (q_m rfl) ?_)
        refine rg_q (q_indexAddr sl72 rfl rfl (by omega) (map_at (k := k) (by omega) hzk)) ?_
        refine rg_q (q_load sz46 rfl rfl) ?_
        refine rg_q (q_call en128 (.cons rfl .nil) rfl (sumOf_p (atZ x k) hz0)) ?_
        refine rg_q (q_call en132 (.cons rfl (.cons rfl .nil)) rfl (fplus_p _ _ _ _ (by omega) (by omega) (by omega) (by omega))) ?_
        refine rg_q (q_indexAddr_rs sl189 rfl rfl rfl (by omega) (by omega)) ?_
        refine rg_nil ?_
        refine aops_store_row sz160 rfl rfl (by exact .inr ⟨_, rfl⟩) rfl rfl (i := k) (j := 0) rfl hea (by decide) hset ?_
        refine aops_nil ?_
        change Awp _ _ _ _ _
        refine awp_region 2 mixed (by kernel_rfl) ?_
        refine rg_q (q_add rfl rfl (In64.mk (by omega) (by omega))) ?_
        refine rg_q (q_m rfl) ?_
        refine rn ?_
        refine ⟨i + 1, ⟨by omega, hg, hok2⟩, by omega, ?_⟩
        exact le_head (ms := [31]) (by repeat (first | exact Out.head rfl rfl | (refine Out.put ?_ rfl) | (refine Out.site ?_ rfl))) ⟨(by rfl), trivial⟩ ⟨(by rfl), trivial⟩ rfl rfl rfl rfl
      ·
       (try simp only [nb, ne_eq] at hc10)
       have hiL : i = l.length := by omega
       have hcz0 : peS (colZ l k) = 0 := by rw [hg, List.drop_of_length_le (by omega)]; rfl
       have hf2 : mgS l 0 (hdN l) = mgS l (k + 1) (hdN l - (k + 1)) := by rw [hf, if_neg (c := peS (colZ l k) ≠ 0) (fun q => q hcz0)]
       subst hiL
       have hnx := esR_next (l := l) (n := hdN l) (k := k)
       refine awp_exit ?_
       change Awp _ _ _ _ _
       refine awp_region 2 mixed (by kernel_rfl) ?_
       refine rg_q (q_add rfl rfl (In64.mk (by omega) (by omega))) ?_
       refine rg_q (q_m rfl) ?_
       refine rn ?_
       refine ⟨k + 1, ⟨by omega, hf2⟩, by omega, ?_⟩
       exact le_head (ms := [31]) (by repeat (first | exact Out.head rfl rfl | (refine Out.put ?_ rfl) | (refine Out.headIn ?_ rfl rfl rfl))) ⟨(by rfl), trivial⟩ ⟨(by (show Site.row _ _ _ = Site.row _ _ _; (rw [hnx]; done))), trivial⟩ rfl rfl rfl rfl
    ·
     (try simp only [nb, ne_eq] at hc7)
     (try simp only [List.length_replicate] at hc7)
     have hkn : k = hdN l := by omega
     have hm0 : mgS l 0 (hdN l) = 0 := by rw [hf, hkn, Nat.sub_self]; rfl
     rw [if_neg (c := mgS l 0 (hdN l) ≠ 0) (fun q => q hm0)] at hu
     subst hkn
     rw [esR_all]
     refine awp_exit ?_
     change Awp _ _ _ _ _
     refine awp_seq ?_
     refine Awp.le (le_freezeR (es := (smL l (hdN l)).map shC) 31 4 (by show Site.row _ _ _ = _; rfl) rfl rfl rfl hmine) ?_
     refine awp_region 4 mixed (by kernel_rfl) ?_
     refine rg_q (q_move (x := .d (.sl _ _)) rfl) ?_
     refine rg_q (q_call en113 (.cons rfl .nil) rfl (numbersOf5_p (smL l (hdN l)) (by rw [smL_len]; omega))) ?_
     refine rg_q (q_assign (x := .d (.sl _ _)) rfl) (rg_q (q_a rfl) ?_)
     refine rn ?_
     change Awp _ _ _ _ _
     refine awp_ret ?_
     refine ⟨_, (.cons (.tmp (by exact .d _)) (.cons (.tmp (by exact .d _)) .nil)), ?_⟩
     rw [hu]; rfl
end Go.Proofs.YtphlaicnmmglhaaGreat.Am.M
-- mini
namespace Go.Proofs.YtphlaicnmmglhaaGreat.Am.M
open Go
end Go.Proofs.YtphlaicnmmglhaaGreat.Am.M
-- mini
namespace Go.Proofs.YtphlaicnmmglhaaGreat.Am.M
open Go

theorem vlA_add (t : Tsk) (c : Int) : ∀ (l : List (Int × Int)) (s : (Int × Int) × Int), l.foldl (vlF t c []) s = ((s.1.1 + (vlA t c [] l).1.1, s.1.2 + (vlA t c [] l).1.2), s.2 + (vlA t c [] l).2)
  | [], s => by
    show s = ((s.1.1 + 0, s.1.2 + 0), s.2 + 0)
    simp
  | y :: l, s => by
    have e : vlA t c [] (y :: l) = l.foldl (vlF t c []) (vlF t c [] ((0, 0), 0) y) := rfl
    rw [e, vlA_add t c l]
    show l.foldl (vlF t c []) (vlF t c [] s y) = _
    rw [vlA_add t c l, vlF_nil, vlF_nil]
    by_cases q : inR 0 (smpI t.ar (spI t.g c) y) 60 = true
    · rw [if_pos q, if_pos q]
      simp only [Prod.mk.injEq]
      omega
    · rw [if_neg q, if_neg q]
      simp only [Prod.mk.injEq]
      omega
theorem vs_in {t : Tsk} (h : TskOk t) (c : Int) {l : List (Int × Int)} (hl : l.length ≤ 1600) : (-6600000 ≤ (vlA t c [] l).1.1 ∧ (vlA t c [] l).1.1 ≤ 6600000) ∧ -6600000 ≤ (vlA t c [] l).1.2 ∧ (vlA t c [] l).1.2 ≤ 6600000 := by
  have hb := vlA_in h (c := c) (dd := []) (l := l) l.length (Nat.le_refl _)
  rw [List.take_length] at hb
  omega
theorem cz_ok {x : Int × Int} (h1 : -10000000 ≤ x.1 ∧ x.1 ≤ 10000000) (h2 : -10000000 ≤ x.2 ∧ x.2 ≤ 10000000) : peI (czP x) = 0 ∧ vZ (czP x) = x := by
  obtain ⟨a1, a2, a3⟩ := wd_wh (a := x.1) (by omega)
  obtain ⟨b1, b2, b3⟩ := wd_wh (a := x.2) (by omega)
  refine ⟨?_, ?_⟩
  · unfold peI czP
    simp only
    rw [a1, b1, a3, b3, decide_eq_false (by omega), decide_eq_false (by omega)]
    rfl
  · unfold vZ czP
    simp only
    rw [a2, b2]
end Go.Proofs.YtphlaicnmmglhaaGreat.Am.M
namespace Go.Proofs.YtphlaicnmmglhaaGreat.Am.M
open Go

end Go.Proofs.YtphlaicnmmglhaaGreat.Am.M
namespace Go.Proofs.YtphlaicnmmglhaaGreat.Am
open Go Go.RowKit
section
variable {P : Program} {w0 : Cx} {n : Nat} {s : Nat → Site} {ev : Operand → T} {dst : Option Tmp} {ty : TypeId} {pos : String} {after : Array Edge} {g : Option (Nat × Bool)}
end
end Go.Proofs.YtphlaicnmmglhaaGreat.Am
-- mini
namespace Go.Proofs.YtphlaicnmmglhaaGreat.Am.M
open Go

theorem chK_le (l : List Nat) (m : Nat) : (chK l m).length ≤ 64 := by
  unfold chK
  rw [List.length_drop, List.length_take]; omega
theorem sAt_lin {a b c : List Nat} (h1 : a.length = b.length) (h2 : a.length = c.length) (h : ∀ (j : Nat) (x y z : Nat), a[j]? = some x → b[j]? = some y → c[j]? = some z → vI z = vI x + vI y) (m k : Nat) :
    sAt ((chK c m).map vI) k = sAt ((chK a m).map vI) k + sAt ((chK b m).map vI) k := by
  unfold sAt
  rw [List.getD_eq_getElem?_getD, List.getD_eq_getElem?_getD, List.getD_eq_getElem?_getD, List.getElem?_map, List.getElem?_map, List.getElem?_map]
  by_cases hk : k < 64
  · rw [chK_at hk, chK_at hk, chK_at hk]
    by_cases hj : 64 * m + k < a.length
    · have e1 : a[64 * m + k]? = some a[64 * m + k] := List.getElem?_eq_getElem hj
      have e2 : b[64 * m + k]? = some b[64 * m + k] := List.getElem?_eq_getElem (by omega)
      have e3 : c[64 * m + k]? = some c[64 * m + k] := List.getElem?_eq_getElem (by omega)
      have := h _ _ _ _ e1 e2 e3
      rw [e1, e2, e3]
      exact this
    · rw [List.getElem?_eq_none (by omega), List.getElem?_eq_none (by omega), List.getElem?_eq_none (by omega)]; rfl
  · have l1 := chK_le a m
    have l2 := chK_le b m
    have l3 := chK_le c m
    rw [List.getElem?_eq_none (by omega), List.getElem?_eq_none (by omega), List.getElem?_eq_none (by omega)]; rfl
theorem vlA_lin {ar : Arr} {ne : Int} {g : Grd} {a b c : List Nat} (h1 : a.length = b.length) (h2 : a.length = c.length) (h : ∀ (j : Nat) (x y z : Nat), a[j]? = some x → b[j]? = some y → c[j]? = some z → vI z = vI x + vI y) (cl : Int) : ∀ l : List (Int × Int),
    (vlA ⟨ar, ne, c, g⟩ cl [] l).1 = ((vlA ⟨ar, ne, a, g⟩ cl [] l).1.1 + (vlA ⟨ar, ne, b, g⟩ cl [] l).1.1, (vlA ⟨ar, ne, a, g⟩ cl [] l).1.2 + (vlA ⟨ar, ne, b, g⟩ cl [] l).1.2)
  | [] => rfl
  | y :: l => by
    have ih := vlA_lin (ar := ar) (ne := ne) (g := g) h1 h2 h cl l
    have e : ∀ q : List Nat, vlA ⟨ar, ne, q, g⟩ cl [] (y :: l) = l.foldl (vlF ⟨ar, ne, q, g⟩ cl []) (vlF ⟨ar, ne, q, g⟩ cl [] ((0, 0), 0) y) := fun _ => rfl
    have hs : ∀ k, sAt (smpS ⟨ar, ne, c, g⟩ y) k = sAt (smpS ⟨ar, ne, a, g⟩ y) k + sAt (smpS ⟨ar, ne, b, g⟩ y) k := fun k => sAt_lin h1 h2 h _ k
    rw [e, e, e, vlA_add, vlA_add, vlA_add, vlF_nil, vlF_nil, vlF_nil, ih]
    show (_, _) = (_, _)
    by_cases q : inR 0 (smpI ar (spI g cl) y) 60 = true
    · rw [if_pos q, if_pos q, if_pos q]
      unfold reI imI
      simp only [hs, Prod.mk.injEq]
      omega
    · rw [if_neg q, if_neg q, if_neg q]
      simp only [Prod.mk.injEq]
      omega
theorem mg_pair {n : Nat} (hn : n ≤ 1600) (A B C : Nat → Int × Int) (hA : ∀ k, k < n → (-10000000 ≤ (A k).1 ∧ (A k).1 ≤ 10000000) ∧ -10000000 ≤ (A k).2 ∧ (A k).2 ≤ 10000000) (hB : ∀ k, k < n → (-10000000 ≤ (B k).1 ∧ (B k).1 ≤ 10000000) ∧ -10000000 ≤ (B k).2 ∧ (B k).2 ≤ 10000000) (hC : ∀ k, k < n → C k = ((A k).1 + (B k).1, (A k).2 + (B k).2)) :
    mgR [(List.range n).map fun k => czP (A k), (List.range n).map fun k => czP (B k)] = ((List.range n).map fun k => czP (C k), 0) := by
  obtain ⟨X, hX⟩ : ∃ X, X = (List.range n).map fun k => czP (A k) := ⟨_, rfl⟩
  obtain ⟨Y, hY⟩ : ∃ Y, Y = (List.range n).map fun k => czP (B k) := ⟨_, rfl⟩
  have lX : X.length = n := by rw [hX, List.length_map, List.length_range]
  have lY : Y.length = n := by rw [hY, List.length_map, List.length_range]
  have aX : ∀ k, k < n → atZ X k = czP (A k) := fun k hk => by unfold atZ; rw [hX, List.getD_eq_getElem?_getD, List.getElem?_map, List.getElem?_range hk]; rfl
  have aY : ∀ k, k < n → atZ Y k = czP (B k) := fun k hk => by unfold atZ; rw [hY, List.getD_eq_getElem?_getD, List.getElem?_map, List.getElem?_range hk]; rfl
  rw [← hX, ← hY]
  have hd : hdN [X, Y] = n := lX
  have e1 : (decide (([X, Y] : List (List (Nat × Nat))).length = 0) || [X, Y].any (neqB [X, Y])) = false := by
    simp [neqB, hd, lX, lY]
  have hc : ∀ k, k < n → peS (colZ [X, Y] k) = 0 ∧ smS (colZ [X, Y] k) = C k := fun k hk => by
    have ec : colZ [X, Y] k = [czP (A k), czP (B k)] := by
      show [atZ _ k, atZ _ k] = _
      rw [aX k hk, aY k hk]
    obtain ⟨⟨v1, v2⟩, v3, v4⟩ := hA k hk
    obtain ⟨⟨w1, w2⟩, w3, w4⟩ := hB k hk
    obtain ⟨p1, p2⟩ := cz_ok (x := A k) (by omega) (by omega)
    obtain ⟨q1, q2⟩ := cz_ok (x := B k) (by omega) (by omega)
    rw [ec]
    refine ⟨?_, ?_⟩
    · unfold peS
      rw [if_neg (fun q => q p1)]
      unfold peS
      rw [if_neg (fun q => q q1)]; rfl
    · show smF (smF (0, 0) _) _ = _
      unfold smF
      rw [p2, q2, hC k hk]
      simp
  have em : ∀ m k, k + m ≤ n → mgS [X, Y] k m = 0 := by
    intro m
    induction m with
    | zero => intro k _; rfl
    | succ m ih =>
      intro k hk
      unfold mgS
      rw [if_neg (fun q => q (hc k (by omega)).1)]
      exact ih (k + 1) (by omega)
  unfold mgR
  rw [if_neg (by rw [e1]; decide), hd, if_neg (by simp; omega), if_neg (fun q => q (em _ 0 (by omega)))]
  congr 1
  unfold smL
  rw [List.map_map]
  refine List.map_congr_left fun k hk => ?_
  show czP (smS _) = czP _
  rw [(hc k (List.mem_range.1 hk)).2]
end Go.Proofs.YtphlaicnmmglhaaGreat.Am.M
-- mini
namespace Go.Proofs.YtphlaicnmmglhaaGreat.Am.M
open Go

def prR (i j : Nat) : List (Int × Int) := (List.range j).map fun r : Nat => ((i : Int), (r : Int))
def prF (n i : Nat) : List (Int × Int) := (List.range i).flatMap fun f => prR f n
def prL (n : Nat) : List (Int × Int) := prF n n
def encP (p : Int × Int) : List D := [.agg (shC p)]
theorem prK_succ (i j : Nat) : prR i (j + 1) = prR i j ++ [((i : Int), (j : Int))] := by unfold prR; rw [List.range_succ, List.map_append]; rfl
theorem prF_succ (n i : Nat) : prF n (i + 1) = prF n i ++ prR i n := by unfold prF; rw [List.range_succ, List.flatMap_append]; simp
theorem prR_pre (i : Nat) {j : Nat} : ∀ {k : Nat}, j ≤ k → prR i j <+: prR i k
  | 0, h => by have : j = 0 := by omega
               subst this; exact List.prefix_rfl
  | k + 1, h => by
    by_cases e : j = k + 1
    · subst e; exact List.prefix_rfl
    · rw [prK_succ]; exact (prR_pre i (show j ≤ k by omega)).trans (List.prefix_append _ _)
theorem prF_pre (n : Nat) {j : Nat} : ∀ {k : Nat}, j ≤ k → prF n j <+: prF n k
  | 0, h => by have : j = 0 := by omega
               subst this; exact List.prefix_rfl
  | k + 1, h => by
    by_cases e : j = k + 1
    · subst e; exact List.prefix_rfl
    · rw [prF_succ]; exact (prF_pre n (show j ≤ k by omega)).trans (List.prefix_append _ _)
theorem pr_pre {n i j : Nat} (hi : i < n) (hj : j ≤ n) : prF n i ++ prR i j <+: prL n := by
  have h1 : prF n (i + 1) <+: prL n := prF_pre n (by omega)
  rw [prF_succ] at h1
  exact ((List.prefix_append_right_inj _).2 (prR_pre i hj)).trans h1
theorem prL_in {n : Nat} {p : Int × Int} (h : p ∈ prL n) : (0 ≤ p.1 ∧ p.1 < n) ∧ 0 ≤ p.2 ∧ p.2 < n := by
  unfold prL prF at h
  obtain ⟨i, hi, h⟩ := List.mem_flatMap.1 h
  unfold prR at h
  obtain ⟨j, hj, rfl⟩ := List.mem_map.1 h
  have := List.mem_range.1 hi
  have := List.mem_range.1 hj
  simp only; omega
theorem prF_len (n : Nat) : ∀ i : Nat, (prF n i).length = i * n
  | 0 => by simp [prF]
  | i + 1 => by rw [prF_succ, List.length_append, prF_len n i]; unfold prR; rw [List.length_map, List.length_range, Nat.succ_mul]
theorem prL_len {n : Nat} (h : n ≤ 16) : (prL n).length ≤ 256 := by
  unfold prL; rw [prF_len]
  have := Nat.mul_le_mul h h
  omega
set_option maxRecDepth 100000 in
theorem pairs_i (a : Arr) : PI Tryz.prog 147 [.agg (arrC a)] [] (encP) (prL a.el.length) true := by
  refine pi_of_iwp Tryz.func147 rfl Tryz.ntmps147 rfl rfl fun J c l0 hJ hy hdat hfin => ?_
  refine iwp_seq ?_
  apply iwp_reg hJ
  ·
    intro c1 hmine hrnd
    refine awp_region 1 mixed (by kernel_rfl) ?_
    refine rg_q (q_box rfl (by exact .inr ⟨_, rfl⟩)) ?_
    refine rn ?_
    exact ⟨rfl, rfl⟩
  change Iwp _ _ _ _ _ _ _
  refine iwp_seq ?_
  apply iwp_reg hJ
  ·
    intro c1 hmine hrnd
    refine awp_region 5 mixed (by kernel_rfl) ?_
    refine rg_q (q_fieldAddr fld242_0 rfl) (rg_q (q_fieldAddr fld28_0 rfl) (rg_q (q_load sz22 rfl rfl) ?_))
    refine rg_q (q_len isl22 rfl (by exact len_map _ _)) ?_
    refine rg_q (q_m rfl) ?_
    refine rn ?_
    exact ⟨rfl, rfl⟩
  change Iwp _ _ _ _ _ _ _
  refine iwp_len (t := 8) rfl (fun hl8 => ?_)
  (try simp only [List.length_map] at hl8)
  refine iwp_block ?_
  refine iwp_loopH [4, 5, 10, 11, 12, 13, 14, 15, 16, 17, 18, 19, 20, 21, 22, 23, 24, 25, 26, 27] [] (β := Nat) (fun i => [(10, T.i (i : Int))]) (fun i => []) (fun i => (true, prF a.el.length i)) (fun i => i ≤ a.el.length) (fun i => a.el.length - i) 0 (Nat.zero_le _) rfl (fun c1 => ?_) ?_
  · exact le_head (ms := []) (by repeat (exact Out.refl _)) ⟨(by rfl), trivial⟩ trivial rfl rfl rfl rfl
  ·
    intro i hi
    refine iwp_seq ?_
    apply iwp_reg hJ
    ·
      intro c1 hmine hrnd
      refine awp_region 1 mixed (by kernel_rfl) ?_
      refine rg_q (q_lss rfl rfl) ?_
      refine rn ?_
      exact ⟨rfl, rfl⟩
    change Iwp _ _ _ _ _ _ _
    refine iwp_seq ?_
    refine iwp_cond rfl (fun hc2 => ?_) (fun hc2 => ?_)
    ·
      (try simp only [nb, ne_eq] at hc2)
      have hlt : i < a.el.length := by omega
      refine iwp_skip ?_
      change Iwp _ _ _ _ _ _ _
      refine iwp_seq ?_
      refine iwp_block ?_
      refine iwp_seq ?_
      apply iwp_reg hJ
      ·
        intro c1 hmine hrnd
        refine awp_region 2 mixed (by kernel_rfl) ?_
        refine rg_q (q_m rfl) (rg_q (q_a rfl) ?_)
        refine rn ?_
        exact ⟨rfl, rfl⟩
      change Iwp _ _ _ _ _ _ _
      refine iwp_seq ?_
      apply iwp_reg hJ
      ·
        intro c1 hmine hrnd
        refine awp_region 5 mixed (by kernel_rfl) ?_
        refine rg_q (q_fieldAddr fld242_0 rfl) (rg_q (q_fieldAddr fld28_0 rfl) (rg_q (q_load sz22 rfl rfl) ?_))
        refine rg_q (q_len isl22 rfl (by exact len_map _ _)) ?_
        refine rg_q (q_m rfl) ?_
        refine rn ?_
        exact ⟨rfl, rfl⟩
      change Iwp _ _ _ _ _ _ _
      refine iwp_len (t := 15) rfl (fun hl15 => ?_)
      (try simp only [List.length_map] at hl15)
      refine iwp_block ?_
      refine iwp_loopH [5, 17, 18, 19, 20, 21, 22, 23, 24, 25, 26] [] (β := Nat) (fun j => [(17, T.i (j : Int))]) (fun j => []) (fun j => (true, prF a.el.length i ++ prR i j)) (fun j => j ≤ a.el.length) (fun j => a.el.length - j) 0 (Nat.zero_le _) (by show (true, _ ++ prR i 0) = (true, _); simp [prR]) (fun c1 => ?_) ?_
      · exact le_head (ms := []) (by repeat (exact Out.refl _)) ⟨(by rfl), trivial⟩ trivial rfl rfl rfl rfl
      ·
        intro j hj
        refine iwp_seq ?_
        apply iwp_reg hJ
        ·
          intro c1 hmine hrnd
          refine awp_region 1 mixed (by kernel_rfl) ?_
          refine rg_q (q_lss rfl rfl) ?_
          refine rn ?_
          exact ⟨rfl, rfl⟩
        change Iwp _ _ _ _ _ _ _
        refine iwp_seq ?_
        refine iwp_cond rfl (fun hc5 => ?_) (fun hc5 => ?_)
        ·
          (try simp only [nb, ne_eq] at hc5)
          have hlj : j < a.el.length := by omega
          have hpre : prF a.el.length i ++ prR i j ++ [((i : Int), (j : Int))] <+: prL a.el.length := by rw [List.append_assoc, ← prK_succ]; exact pr_pre hlt (by omega)
          refine iwp_skip ?_
          change Iwp _ _ _ _ _ _ _
          refine iwp_seq ?_
          refine iwp_block ?_
          refine iwp_seq ?_
          apply iwp_reg hJ
          ·
            intro c1 hmine hrnd
            refine awp_region 2 mixed (by kernel_rfl) ?_
            refine rg_q (q_m rfl) (rg_q (q_a rfl) ?_)
            refine rn ?_
            exact ⟨rfl, rfl⟩
          change Iwp _ _ _ _ _ _ _
          refine iwp_seq ?_
          refine iwp_region ?_
          refine iops_of hJ rfl (fun c1 _ _ _ h => by exact aops_q rfl ((q_move (x := .d (.fn _ _)) rfl)) h) ?_
          refine iops_of hJ rfl (fun c1 _ _ _ h => by exact aops_q rfl ((q_m rfl)) h) ?_
          refine iops_of hJ rfl (fun c1 _ _ _ h => by exact aops_q rfl ((q_m rfl)) h) ?_
          refine iops_of hJ rfl (fun c1 _ _ _ h => by exact aops_q rfl ((q_buildA (cs := [_, _]) ar63 zr63 rfl (.cons rfl (by exact .inl rfl) (.cons rfl (by exact .inl rfl) .nil)) ⟨⟨rfl, by decide⟩, ⟨rfl, by decide⟩, trivial⟩ rfl)) h) ?_
          refine iops_yield (x := ((i : Int), (j : Int))) hy hdat rfl (.cons rfl .nil) hpre rfl (fun yb => ?_)
          refine iops_of hJ rfl (fun c1 _ _ _ h => by exact aops_q rfl ((q_not rfl)) h) ?_
          refine iops_nil ?_
          change Iwp _ _ _ _ _ _ _
          refine iwp_cond rfl (fun hc7 => ?_) (fun hc7 => ?_)
          ·
            (try simp only [nb, ne_eq] at hc7)
            have hyb : yb = false := by cases yb <;> first | rfl | (exfalso; simp_all; done)
            refine iwp_ret ?_
            exact ⟨.inl rfl, fun h => by rw [hyb] at h; cases h⟩
          ·
            (try simp only [nb, ne_eq] at hc7)
            have hyb : yb = true := by cases yb <;> first | rfl | (exfalso; simp_all; done)
            refine iwp_skip ?_
            change Iwp _ _ _ _ _ _ _
            apply iwp_reg hJ
            ·
              intro c1 hmine hrnd
              refine awp_region 2 mixed (by kernel_rfl) ?_
              refine rg_q (q_add rfl rfl (In64.mk (by omega) (by omega))) ?_
              refine rg_q (q_m rfl) ?_
              refine rn ?_
              exact ⟨rfl, rfl⟩
            refine ⟨j + 1, by omega, by omega, by rw [hyb, prK_succ, List.append_assoc], fun c1 => ?_⟩
            exact le_head (ms := []) (by repeat (first | exact Out.head rfl rfl | (refine Out.put ?_ rfl))) ⟨(by rfl), trivial⟩ trivial rfl rfl rfl rfl
        ·
          (try simp only [nb, ne_eq] at hc5)
          have hjn : j = a.el.length := by omega
          refine iwp_exit ?_
          change Iwp _ _ _ _ _ _ _
          apply iwp_reg hJ
          ·
            intro c1 hmine hrnd
            refine awp_region 2 mixed (by kernel_rfl) ?_
            refine rg_q (q_add rfl rfl (In64.mk (by omega) (by omega))) ?_
            refine rg_q (q_m rfl) ?_
            refine rn ?_
            exact ⟨rfl, rfl⟩
          refine ⟨i + 1, by omega, by omega, by rw [hjn, prF_succ], fun c1 => ?_⟩
          exact le_head (ms := []) (by repeat (first | exact Out.head rfl rfl | (refine Out.put ?_ rfl) | (refine Out.headIn ?_ rfl rfl rfl))) ⟨(by rfl), trivial⟩ trivial rfl rfl rfl rfl
    ·
      (try simp only [nb, ne_eq] at hc2)
      have hin : i = a.el.length := by omega
      refine iwp_exit ?_
      exact ⟨.inr rfl, fun _ => by rw [hin]; rfl⟩

end Go.Proofs.YtphlaicnmmglhaaGreat.Am.M
