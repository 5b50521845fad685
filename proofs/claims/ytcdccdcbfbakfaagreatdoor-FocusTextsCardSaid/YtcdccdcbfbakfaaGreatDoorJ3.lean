/- Contracts over the abstract machine, joined. Conditions: none. -/
import Derived.Test.YtcdccdcbfbakfaaGreatDoorJ2
set_option linter.unusedVariables false
set_option linter.unusedSimpArgs false
-- mini
set_option maxRecDepth 100000
namespace Go.Proofs.YtcdccdcbfbakfaaGreatDoor.Am.M
open Go
theorem chunk_p (l : List Nat) : PC Tryz.prog 109 [.sl 1 (l.map fC), .v (.int .i64 (64))] (.fn (.func 135) [.pt [.sl 1 (l.map fC)] 0, .pt [.v (.int .i64 (64))] 0]) := by
 refine pc_of_awp Tryz.func109 rfl Tryz.ntmps109 (rs := [.tmp 4]) Tryz.results109 (by simp) fun w0 => ?_
 refine awp_seq ?_
 refine xa 3 ?_
 refine rg_q (q_box rfl (by exact .inl rfl)) ?_
 refine rg_q (q_box rfl (by exact .inl rfl)) ?_
 refine rg_q (q_assign (x := .d (.v .nilFunc)) rfl) ?_
 refine rs (awp_seq ?_)
 refine xa 2 ?_
 refine rg_q (q_load sz3 rfl rfl) (rg_q (q_lss rfl rfl) ?_)
 refine xc (awp_cond rfl (fun hc1 => ?_) (fun hc1 => ?_))
 ·
  cases hc1
 ·
  (try simp only [nb, ne_eq] at hc1)
  refine awp_skip ?_
  change Awp _ _ _ _ _
  refine awp_seq ?_
  refine xa 2 ?_
  refine rg_q (q_makeFunc (.cons rfl (.cons rfl .nil))) ?_
  refine rg_q (q_assign (x := .d (.fn _ _)) rfl) ?_
  refine xc (awp_ret ?_)
  refine ⟨_, xk1, ?_⟩
  rfl

def tkM (t : Tsk) : Nat := (t.ne * t.ne).toNat
def smR (l : List Nat) (i : Nat) : List (List D) := (chF l i).map fun b => anL (b.map vI)
def tkC (t : Tsk) : List D := grdC t.g ++ arrC t.ar ++ [.v (.int .i64 t.ne), .sl 61 (smR t.bf (tkM t))]
theorem smR_succ (l : List Nat) (i : Nat) : smR l (i + 1) = smR l i ++ [anL ((chK l i).map vI)] := by unfold smR; rw [chF_succ, List.map_append]; rfl
theorem smR_len (l : List Nat) (i : Nat) : (smR l i).length = i := by unfold smR chF; rw [List.length_map, List.length_map, List.length_range]
theorem anL_flat (S : List Int) : ∀ d ∈ anL S, D.Flat d := by
  intro d hd
  unfold anL at hd
  obtain ⟨k, _, rfl⟩ := List.mem_map.1 hd
  exact .v _
theorem smR_flat (l : List Nat) (i : Nat) : ∀ x ∈ smR l i, ∀ d ∈ x, D.Flat d := by
  intro x hx d hd
  unfold smR at hx
  obtain ⟨b, _, rfl⟩ := List.mem_map.1 hx
  exact anL_flat _ d hd
theorem tsk_len {t : Tsk} (h : TskOk t) : t.bf.length = 64 * tkM t ∧ tkM t ≤ 256 ∧ ((tkM t : Nat) : Int) = t.ne * t.ne := by
  have h1 := h.n1
  have h2 := h.n2
  have h3 := h.nl
  have hm := mulb (a := t.ne) (b := t.ne) (A := 16) (B := 16) (by omega) (by omega) (by omega) (by omega)
  have hp := Int.mul_nonneg (show 0 ≤ t.ne by omega) (show 0 ≤ t.ne by omega)
  unfold tkM
  omega
theorem chF_at {l : List Nat} {m k : Nat} {y : List Nat} (h : (chF l m)[k]? = some y) : k < m ∧ y = chK l k := by
  unfold chF at h
  rw [List.getElem?_map] at h
  cases hr : (List.range m)[k]? with
  | none => rw [hr] at h; cases h
  | some j =>
    rw [hr] at h
    obtain ⟨h1, h2⟩ := List.getElem?_eq_some_iff.1 hr
    rw [List.length_range] at h1
    rw [List.getElem_range] at h2
    subst h2
    cases h
    exact ⟨h1, rfl⟩
theorem open_p (t : Tsk) (h : TskOk t) : PC Tryz.prog 84 [.agg (tskC t)] (.tup [.pt (tkC t) 0, .v (.int .i64 (0))]) := by
  have hck := ckArr_zero h.ck
  obtain ⟨hao, _⟩ := ckArr_ok h.ck
  have hn1 := h.n1
  have hn2 := h.n2
  have hnl := h.nl
  have hwh := h.wh
  have hel := h.el
  obtain ⟨hg, hg1, hg2⟩ := ckG_ok h.gr
  have hci := cells_in hg
  have hz1 : inR 1 t.g.fz (t.ar.ou.t - 1) = true := inR_iff.2 ⟨h.z1, h.z2⟩
  have hz2 : inR 1 (spI t.g (t.g.co * t.g.ro - 1)).2 (t.ar.ou.t - 1) = true := inR_iff.2 ⟨h.z3, h.z4⟩
  have hgr := h.gr
  have ht1 := hao.ou.t1
  have ht2 := hao.ou.t2
  obtain ⟨hb1, hb2, hb3⟩ := tsk_len h
  refine pc_of_awpN Tryz.func84 rfl Tryz.ntmps84 (rs := [.tmp 2, .tmp 3]) Tryz.results84 (by simp) fun w0 hmine hrnd hpn => ?_
  refine awp_seq ?_
  refine xa 3 ?_
  refine rg_q (q_box rfl (by exact .inr ⟨_, rfl⟩)) ?_
  refine rg_q (q_a rfl) (rg_q (q_a rfl) ?_)
  refine rs (awp_seq ?_)
  refine xa 7 ?_
  refine rg_q (q_loadA sz55 rfl rfl rfl) ?_
  refine rg_q (q_call en108 (.cons rfl .nil) rfl (checkTask_p t h)) ?_
  refine rg_q (q_move (x := .d (.tup _)) rfl) (rg_q (q_extract rfl rfl) (rg_q (q_extract rfl rfl) (rg_q (q_a rfl) (rg_q (q_a rfl) ?_))))
  refine rs (xa 2 ?_)
  refine rg_q (q_m rfl) (rg_q (q_neq rfl rfl) ?_)
  refine xc (awp_cond rfl (fun hc2 => ?_) (fun hc2 => ?_))
  ·
    simp at hc2
  ·
    (try simp only [nb, ne_eq] at hc2)
    refine awp_skip ?_
    change Awp _ _ _ _ _
    refine awp_seq ?_
    refine xa 9 ?_
    refine rg_q (q_fieldAddr fld55_2 rfl) ?_
    refine rg_q (q_loadA (ds := [_, _, _, _, _]) sz25 rfl rfl rfl) ?_
    refine rg_q (q_build (cs := [_, _, _, _, _]) pl70 zr70 rfl (.cons rfl (by exact .inr ⟨_, rfl⟩) .nil) ⟨⟨rfl, by decide⟩, trivial⟩ rfl) ?_
    refine rg_q (q_fieldAddr fld55_0 rfl) ?_
    refine rg_q (q_loadA (ds := [_, _, _, _, _, _, _, _, _, _, _]) sz50 rfl rfl rfl) ?_
    refine rg_q (q_fieldAddr fld55_1 rfl) (rg_q (q_fieldAddr fld53_0 rfl) (rg_q (q_load sz3 rfl rfl) ?_))
    refine rg_q (q_build pl142 zr142 rfl (.cons rfl (by exact .inr ⟨_, rfl⟩) (.cons rfl (by exact .inr ⟨_, rfl⟩) (.cons rfl (by exact .inl rfl) .nil))) ⟨⟨rfl, by decide⟩, ⟨rfl, by decide⟩, ⟨rfl, by decide⟩, trivial⟩ rfl) ?_
    refine rg_nil ?_
    refine aops_box rfl (by exact .inr ⟨_, rfl⟩) rfl rfl rfl ?_
    refine aops_alloc zr90 rfl rfl rfl ?_
    refine aops_le (le_tbox (k := 6) (ts := [_]) rfl rfl) ?_
    refine aops_storeT (z := .ref _ _) sz90 rfl rfl rfl rfl (by decide) rfl ?_
    refine aops_nil (xq (awp_seq ?_))
    refine xa 4 ?_
    refine rg_q (q_fieldAddr fld55_1 rfl) (rg_q (q_fieldAddr fld53_1 rfl) (rg_q (q_load sz51 rfl rfl) ?_))
    refine rg_q (q_call en109 (.cons rfl (.cons rfl .nil)) rfl (chunk_p t.bf)) ?_
    refine xc (awp_block ?_)
    refine Awp.le (le_ownB 27 47 17 147 61 rfl rfl rfl) ?_
    refine awp_rangeHC (α := List Nat) (β := Nat) (n := 51) (enc := encK) (items := chF t.bf (tkM t)) 1000 [(6, .ref 6 0), (31, .d (.fn (.func 135) [.pt [.sl 1 (t.bf.map fC)] 0, .pt [.v (.int .i64 (64))] 0]))] (fun x => [(6, .tbox [.ref 27 0]), (27, .tbox [.d (.v (.int .i64 (t.g.fx))), .d (.v (.int .i64 (t.g.fz))), .d (.v (.int .i64 (t.g.co))), .d (.v (.int .i64 (t.g.ro))), .d (.v (.int .i64 (t.g.st))), .d (.sl 2 (t.ar.el.map shC)), .d (.v (.int .i64 (t.ar.ou.w))), .d (.v (.int .i64 (t.ar.ou.m))), .d (.v (.int .i64 (t.ar.ou.k))), .d (.v (.int .i64 (t.ar.ou.t))), .d (.v (.int .i64 (t.ar.ba.w))), .d (.v (.int .i64 (t.ar.ba.m))), .d (.v (.int .i64 (t.ar.ba.k))), .d (.v (.int .i64 (t.ar.ba.t))), .d (.v (.int .i64 (t.ar.ts.1))), .d (.v (.int .i64 (t.ar.ts.2))), .d (.v (.int .i64 (t.ne))), .rs 47]), (47, .row 147 61 (smR t.bf x))]) (fun k x => x = k) (fun e x => False) 0 27 5 (.sl 2 (t.ar.el.map shC)) hrnd ?_ (.inr ⟨rfl, rfl⟩) en135 (chunk_i t.bf (tkM t) hb1 (by omega)) rfl (fun _ => rfl) rfl (fun u x => fsl_mem (fsl_cons (fst_tbox (by repeat (first | exact ftl_nil | refine ftl_cons (by trivial) ?_))) (fsl_cons (fst_tbox (by repeat (first | exact ftl_nil | refine ftl_cons (by first | exact D.Flat.v _ | trivial) ?_))) (fsl_cons (smR_flat _ _) fsl_nil)))) (fun x => ⟨_, rfl, rfl⟩) (fun _ => rfl) rfl (fun h => by cases h) ?_ ?_ ?_
    · exact le_cst (fun k => k) _ _ rfl ⟨(by first | rfl), (by first | rfl), trivial⟩ ⟨(by first | rfl), (by first | rfl), (by first | rfl), trivial⟩ rfl (fun k b h => by rw [hpn k] at h; cases h)
    ·
      intro u w1 hw1 k x y hI hy
      subst hI
      obtain ⟨hlt, rfl⟩ := chF_at hy
      have hlk := chK_len hb1 hlt
      have hwk := chK_wh hwh x
      have hsl := smR_len t.bf x
      have hs1 : smR t.bf x ++ [anL ((chK t.bf x).map vI)] = smR t.bf (x + 1) := (smR_succ _ _).symm
      refine xa 1 ?_
      refine rg_q (q_assign (x := .d (.sl _ _)) rfl) ?_
      refine rn ?_
      refine ⟨rfl, fun w2 hw2 => ?_⟩
      refine awp_block ?_
      refine awp_seq ?_
      refine xa 7 ?_
      refine rg_q (q_move (x := .d (.sl _ _)) rfl) ?_
      refine rg_q (q_toArr (cs := (chK t.bf x).map fd) ar198 rfl (fd_row _).symm (by rw [List.length_map]; exact hlk) (by decide)) ?_
      refine rg_q (q_loadA (ds := (chK t.bf x).map fd) sz198 rfl (by rw [List.drop_zero]; exact List.take_of_length_le (by rw [List.length_map, hlk]; exact Nat.le_refl _)) (by rw [List.length_map]; exact hlk)) ?_
      refine rg_q (q_call en110 (.cons rfl .nil) rfl (analytic_p (chK t.bf x) hlk hwk)) ?_
      refine rg_q (q_move (x := .d (.tup _)) rfl) (rg_q (q_extract rfl rfl) (rg_q (q_extract rfl rfl) ?_))
      refine rg_nil ?_
      refine aops_allocD zr146 rfl sz146 rfl rfl (by exact .inr ⟨_, rfl⟩) (anL_len _) rfl ?_
      refine aops_q rfl (q_a rfl) ?_
      refine aops_nil ?_
      change Awp _ _ _ _ _
      refine awp_regionL 7 1 [0] mixed (by kernel_rfl) ?_
      refine rg_q (q_load_tb (x := .ref _ _) sz90 rfl rfl rfl) ?_
      refine rg_q (q_load_tb (x := .ref _ _) sz90 rfl rfl rfl) ?_
      refine rg_q (q_nilCheck_ref rfl) (rg_q (q_fieldAddr_ref fld142_3 rfl) ?_)
      refine rg_q (q_load_tb (x := .rs _) sz140 rfl rfl rfl) ?_
      refine rg_q (q_loadA sz146 rfl rfl rfl) ?_
      refine rg_q (q_buildSlice sl140 zr147 rfl rfl (by decide) (.cons rfl (by exact .inr ⟨_, rfl⟩) .nil) ⟨rfl, rfl, trivial⟩ rfl (by decide) rfl) ?_
      refine rg_nil ?_
      refine late_grow (c_append sl140 zr147 by147 rfl (by decide) rfl rfl rfl rfl (by (try simp only [List.length_map, List.length_append, List.length_cons, List.length_nil]); omega) (by (try simp only [List.length_map, List.length_append, List.length_cons, List.length_nil]); omega) rfl) ?_ ?_
      · refine fl_cons rfl rfl rfl (c_q (q_load_tb (x := .ref _ _) sz90 rfl rfl rfl)) ?_
        exact fl_nil
      refine late_nil ?_
      refine aops_q rfl (q_nilCheck_ref rfl) ?_
      refine aops_q rfl (q_fieldAddr_ref fld142_3 rfl) ?_
      refine aops_storeT (z := .rs _) sz140 rfl rfl rfl rfl (by simp) rfl ?_
      refine aops_nil ?_
      refine .inl ⟨rfl, x + 1, rfl, ?_⟩
      exact le_round [] _ hw2 rfl ⟨(by rfl), (by rfl), (by (show Site.row _ _ _ = Site.row _ _ _; rw [← hs1]; rfl)), trivial⟩ rfl
    ·
      intro x hI
      have hI2 : x = tkM t := by rw [hI]; unfold chF; rw [List.length_map, List.length_range]
      subst hI2
      change Awp _ _ _ _ _
      refine awp_seq ?_
      refine Awp.le (le_freezeTB 27 47 17 rfl rfl rfl rfl hmine) ?_
      refine Awp.le (le_boxT 27 (tkC t) rfl rfl (by intro j d h; match j, h with | 0, h | 1, h | 2, h | 3, h | 4, h | 5, h | 6, h | 7, h | 8, h | 9, h | 10, h | 11, h | 12, h | 13, h | 14, h | 15, h | 16, h | 17, h => cases h; rfl)) ?_
      refine xa 3 ?_
      refine rg_q (q_load_tb (x := .ref _ _) sz90 rfl rfl rfl) ?_
      refine rg_q (q_assign (x := .ref _ _) rfl) (rg_q (q_a rfl) ?_)
      refine rn ?_
      change Awp _ _ _ _ _
      refine Awp.le (le_freeze 27 2 0 (cs := tkC t) rfl rfl rfl rfl hmine) ?_
      refine awp_ret ?_
      refine ⟨_, xk2, ?_⟩
      rfl
    ·
      exact fun e x h => h.elim
end Go.Proofs.YtcdccdcbfbakfaaGreatDoor.Am.M
-- mini
set_option maxRecDepth 100000
namespace Go.Proofs.YtcdccdcbfbakfaaGreatDoor.Am.M
open Go

def oprE (t : Tsk) (c : Int) (pr : Int × Int) : Int := firstE [clE t.g c, whenI (!inR 0 pr.1 (t.ne - 1) || !inR 0 pr.2 (t.ne - 1)) 6]
theorem oprE_zero {t : Tsk} {c : Int} (h : 1 ≤ t.ne) : oprE t c (0, 0) = clE t.g c := by
  have e : inR 0 (0 : Int) (t.ne - 1) = true := inR_iff.2 ⟨by omega, by omega⟩
  unfold oprE
  rw [e]
  show (if clE t.g c = 0 then firstE [0] else clE t.g c) = _
  split
  · rename_i q; rw [q]; rfl
  · rfl
theorem clE_ok {g : Grd} {c : Int} (h : clE g c = 0) : 0 ≤ c ∧ c ≤ g.co * g.ro - 1 := by
  unfold clE at h
  rw [when_zero (by decide), Bool.not_eq_false'] at h
  exact inR_iff.1 h
theorem sp_last {g : Grd} (hg : GrdOk g) : spI g (g.co * g.ro - 1) = (g.fx + (g.co - 1) * g.st, g.fz + (g.ro - 1) * g.st) := by
  have hc := hg.c1
  have hr := hg.r1
  have hci := (cells_in hg).1
  have e : g.co * g.ro - 1 = (g.co - 1) + (g.ro - 1) * g.co := by grind
  unfold spI
  rw [Int.tmod_eq_emod_of_nonneg (by omega), Int.tdiv_eq_ediv_of_nonneg (by omega), e, Int.add_mul_emod_self_right, Int.emod_eq_of_lt (by omega) (by omega), Int.add_mul_ediv_right _ _ (by omega), Int.ediv_eq_zero_of_lt (by omega) (by omega), Int.zero_add]
theorem sp_in {t : Tsk} (h : TskOk t) {c : Int} (h1 : 0 ≤ c) (h2 : c ≤ t.g.co * t.g.ro - 1) : (-100000 ≤ (spI t.g c).1 ∧ (spI t.g c).1 ≤ 100000) ∧ (-100000 ≤ (spI t.g c).2 ∧ (spI t.g c).2 ≤ 100000) ∧ 1 ≤ (spI t.g c).2 ∧ (spI t.g c).2 ≤ t.ar.ou.t - 1 := by
  obtain ⟨hg, hg1, hg2⟩ := ckG_ok h.gr
  have z1 := h.z1
  have z4 := h.z4
  rw [sp_last hg] at hg1 hg2 z4
  simp only at hg1 hg2 z4
  obtain ⟨x1, x2, w1, w2, c1, c2, r1, r2, s1, s2⟩ := hg
  obtain ⟨m1, m2⟩ := tmodP_in h1 c1
  obtain ⟨d1, d2⟩ := tdivP_in h1 c1
  have d3 : c.tdiv t.g.co ≤ t.g.ro - 1 := by
    rw [Int.tdiv_eq_ediv_of_nonneg h1]
    have := Int.ediv_lt_of_lt_mul (a := c) (b := t.g.ro) (c := t.g.co) (by omega) (by rw [Int.mul_comm]; omega)
    omega
  have a1 := Int.mul_le_mul_of_nonneg_right (show c.tmod t.g.co ≤ t.g.co - 1 by omega) (show 0 ≤ t.g.st by omega)
  have a2 := Int.mul_le_mul_of_nonneg_right d3 (show 0 ≤ t.g.st by omega)
  have a3 := Int.mul_nonneg m1 (show 0 ≤ t.g.st by omega)
  have a4 := Int.mul_nonneg d1 (show 0 ≤ t.g.st by omega)
  unfold spI
  simp only
  omega
theorem op_zero {t : Tsk} (h : TskOk t) {c : Int} {pr : Int × Int} (hc : clE t.g c = 0) (hp : (0 ≤ pr.1 ∧ pr.1 < t.ne) ∧ 0 ≤ pr.2 ∧ pr.2 < t.ne) : opE t.ar (spI t.g c) pr = 0 := by
  obtain ⟨c1, c2⟩ := clE_ok hc
  obtain ⟨i1, i2, i3, i4⟩ := sp_in h c1 c2
  have hel := h.el
  unfold opE
  rw [if_neg (fun q => q h.ck)]
  refine first_zero.2 ?_
  simp only [List.mem_cons, List.not_mem_nil, or_false, forall_eq_or_imp, forall_eq]
  refine ⟨spot_ok.2 ⟨i1, i2⟩, (must_zero (by decide)).2 (inR_iff.2 ⟨i3, i4⟩), ?_⟩
  unfold pairE
  rw [hel, when_zero (by decide), inR_iff.2 ⟨hp.1.1, by omega⟩, inR_iff.2 ⟨hp.2.1, by omega⟩]; rfl
theorem openPair_p (t : Tsk) (c : Int) (pr : Int × Int) (h : TskOk t) : PC Tryz.prog 61 [.agg (tskC t), .v (.int .i64 (c)), .agg (shC pr)] (.tup [.pt (tkC t) 0, .v (.int .i64 (oprE t c pr))]) := by
 have hn1 := h.n1
 have hn2 := h.n2
 obtain ⟨hg, _, _⟩ := ckG_ok h.gr
 refine pc_of_awpN Tryz.func61 rfl Tryz.ntmps61 (rs := [.tmp 6, .tmp 7]) Tryz.results61 (by simp) fun w0 hmine hrnd hpn => ?_
 refine awp_seq ?_
 refine xa 4 ?_
 refine rg_q (q_box rfl (by exact .inr ⟨_, rfl⟩)) ?_
 refine rg_q (q_box rfl (by exact .inr ⟨_, rfl⟩)) ?_
 refine rg_q (q_a rfl) (rg_q (q_a rfl) ?_)
 refine rs (xa 7 ?_)
 refine rg_q (q_loadA sz55 rfl rfl rfl) ?_
 refine rg_q (q_call en84 (.cons rfl .nil) rfl (open_p t h)) ?_
 refine rg_q (q_move (x := .d (.tup _)) rfl) (rg_q (q_extract rfl rfl) (rg_q (q_extract rfl rfl) (rg_q (q_assign (x := .d (.pt _ _)) rfl) (rg_q (q_a rfl) ?_))))
 refine rs (awp_seq ?_)
 refine xa 2 ?_
 refine rg_q (q_m rfl) (rg_q (q_neq rfl rfl) ?_)
 refine xc (awp_cond rfl (fun hc2 => ?_) (fun hc2 => ?_))
 ·
  simp at hc2
 ·
  (try simp only [nb, ne_eq] at hc2)
  refine awp_skip ?_
  change Awp _ _ _ _ _
  refine awp_seq ?_
  refine xa 6 ?_
  refine rg_q (q_move (x := .d (.pt _ _)) rfl) (rg_q (q_nilCheck rfl) (rg_q (q_fieldAddr fld142_2 rfl) (rg_q (q_load sz3 rfl rfl) ?_)))
  refine rg_q (q_sub rfl rfl xi) ?_
  refine rg_q (q_a rfl) ?_
  refine rs (xa 24 ?_)
  refine rg_q (q_move (x := .d (.pt _ _)) rfl) (rg_q (q_move (x := .d (.pt _ _)) rfl) (rg_q (q_nilCheck rfl) (rg_q (q_fieldAddr fld142_0 rfl) ?_)))
  refine rg_q (q_loadA (ds := [_, _, _, _, _]) sz70 rfl rfl rfl) ?_
  refine rg_q (q_m rfl) ?_
  refine rg_q (q_call en86 (.cons rfl (.cons rfl .nil)) rfl (fcellErr_p t.g c hg)) ?_
  refine rg_q (q_indexAddr_ar ar106 rfl rfl (by omega) (by omega)) ?_
  refine rg_q (q_load sz3 rfl rfl) (rg_q (q_m rfl) ?_)
  refine rg_q (q_call en43 (.cons rfl (.cons rfl (.cons rfl .nil))) rfl (fwithin_p _ _ _)) ?_
  refine rg_q (q_not rfl) (rg_q (q_m rfl) ?_)
  refine rg_g rfl rfl (fun hG => (q_indexAddr_ar ar106 rfl rfl (by (have hg0 := T.bool_inj (a := _) hG.1; (try simp only [nb, ne_eq] at hg0); omega)) (by (have hg0 := T.bool_inj (a := _) hG.1; (try simp only [nb, ne_eq] at hg0); omega)))) ?_
  refine rg_g rfl rfl (fun hG => (q_load sz3 rfl rfl)) ?_
  refine rg_g rfl rfl (fun hG => (q_m rfl)) ?_
  refine rg_g rfl rfl (fun hG => (q_call en43 (.cons rfl (.cons rfl (.cons rfl .nil))) rfl (fwithin_p _ _ _))) ?_
  refine rg_g rfl rfl (fun hG => (q_not rfl)) ?_
  refine rg_pick rfl rfl rfl rfl rfl rfl ?_
  refine rg_q (q_call en48 (.cons rfl (.cons rfl .nil)) rfl (fwhen_p _ _)) ?_
  refine rg_q (q_buildSlice sl199 zr29 rfl rfl (by decide) (.cons rfl (by exact .inl rfl) (.cons rfl (by exact .inl rfl) .nil)) ⟨rfl, rfl, rfl, rfl, trivial⟩ rfl (by decide) rfl) ?_
  refine rg_q (q_call en85 (.cons rfl .nil) rfl (ffirst_p [_, _])) ?_
  refine rg_q (q_assign (x := .d (.pt _ _)) rfl) (rg_q (q_a rfl) ?_)
  refine xc (awp_ret ?_)
  refine ⟨_, xk2, ?_⟩
  unfold oprE; (try simp only [bif_or]); rfl
theorem openCell_p (t : Tsk) (c : Int) (h : TskOk t) : PC Tryz.prog 32 [.agg (tskC t), .v (.int .i64 (c))] (.tup [.pt (tkC t) 0, .v (.int .i64 (clE t.g c))]) := by
 have hz := oprE_zero (t := t) (c := c) h.n1
 refine pc_of_awpN Tryz.func32 rfl Tryz.ntmps32 (rs := [.tmp 4, .tmp 5]) Tryz.results32 (by simp) fun w0 hmine hrnd hpn => ?_
 refine awp_seq ?_
 refine xa 3 ?_
 refine rg_q (q_box rfl (by exact .inr ⟨_, rfl⟩)) ?_
 refine rg_q (q_a rfl) (rg_q (q_a rfl) ?_)
 refine rs (xa 8 ?_)
 refine rg_q (q_loadA sz55 rfl rfl rfl) ?_
 refine rg_q (q_m rfl) ?_
 refine rg_q (q_buildA (cs := [_, _]) ar106 zr106 rfl .nil trivial rfl) ?_
 refine rg_q (q_call en61 (.cons rfl (.cons rfl (.cons rfl .nil))) rfl ((by have h := openPair_p t c (0, 0) h; rw [hz] at h; exact h))) ?_
 refine rg_q (q_extract rfl rfl) (rg_q (q_extract rfl rfl) (rg_q (q_assign (x := .d (.pt _ _)) rfl) (rg_q (q_a rfl) ?_)))
 refine xc (awp_ret ?_)
 refine ⟨_, xk2, ?_⟩
 rfl

def allL (n : Nat) : List Int := (List.range n).map fun i : Nat => (i : Int)
theorem allL_succ (n : Nat) : allL (n + 1) = allL n ++ [(n : Int)] := by unfold allL; rw [List.range_succ, List.map_append]; rfl
theorem allL_len (n : Nat) : (allL n).length = n := by unfold allL; rw [List.length_map, List.length_range]
theorem allL_in {n : Nat} {i : Int} (h : i ∈ allL n) : 0 ≤ i ∧ i < n := by
  unfold allL at h
  obtain ⟨k, hk, rfl⟩ := List.mem_map.1 h
  have := List.mem_range.1 hk
  omega
theorem all_p (t : Tsk) (h1 : 1 ≤ t.ne) (h2 : t.ne ≤ 16) : PC Tryz.prog 34 [.pt (tkC t) 0] (.sl 1 ((allL t.ne.toNat).map iC)) := by
 refine pc_of_awpN Tryz.func34 rfl Tryz.ntmps34 (rs := [.tmp 2]) Tryz.results34 (by simp) fun w0 hmine hrnd hpn => ?_
 refine awp_seq ?_
 refine xa 1 ?_
 refine rg_q (q_assign (x := .d (.sl _ _)) rfl) ?_
 refine rs (xa 1 ?_)
 refine rg_q (q_assign_nil) ?_
 refine rn ?_
 change Awp _ _ _ _ _
 refine Awp.le (le_own (k := 3) (e := 3) (sz := 1) rfl rfl) ?_
 refine awp_seq ?_
 refine awp_seq ?_
 refine xa 5 ?_
 refine rg_q (q_move (x := .d (.pt _ _)) rfl) (rg_q (q_nilCheck rfl) (rg_q (q_fieldAddr fld142_2 rfl) (rg_q (q_load sz3 rfl rfl) (rg_q (q_m rfl) ?_))))
 refine xc (awp_block ?_)
 refine awp_loopH [3, 4, 9, 10, 11, 12, 13, 14, 15, 16] [3] (α := Nat) (fun k => [(9, T.i (k : Int)), (3, .rs 3)]) (fun k => [(3, .row 3 1 ((allL k).map iC))]) (fun k => k ≤ t.ne.toNat) (fun k => t.ne.toNat - k) 0 (Nat.zero_le _) ?_ ?_
 · exact xh (ms := [3]) (by repeat (exact Out.refl _)) ⟨(by rfl), (by rfl), trivial⟩ ⟨(by rfl), trivial⟩
 ·
  intro k hk
  have hal := allL_len k
  refine awp_seq ?_
  refine xa 1 ?_
  refine rg_q (q_lss rfl rfl) ?_
  refine rs (awp_cond rfl (fun hc3 => ?_) (fun hc3 => ?_))
  ·
   (try simp only [nb, ne_eq] at hc3)
   have hsk : (allL (k + 1)).map iC = (allL k).map iC ++ [[.v (.int .i64 (k : Int))]] := by rw [allL_succ, List.map_append]; rfl
   refine awp_skip ?_
   change Awp _ _ _ _ _
   refine awp_seq ?_
   refine awp_block ?_
   refine awp_seq ?_
   refine xa 2 ?_
   refine rg_q (q_m rfl) (rg_q (q_a rfl) ?_)
   refine rn ?_
   change Awp _ _ _ _ _
   refine xa 3 ?_
   refine rg_q (q_move (x := .rs _) rfl) (rg_q (q_m rfl) ?_)
   refine rg_q (q_buildSlice sl26 zr3 rfl rfl (by decide) (.cons rfl (by exact .inl rfl) .nil) ⟨rfl, rfl, trivial⟩ rfl (by decide) rfl) ?_
   refine rg_nil ?_
   refine aops_append sl26 zr3 by3 rfl (by decide) rfl rfl rfl rfl (by (try simp only [List.length_map, List.length_append, List.length_cons, List.length_nil]); omega) (by (try simp only [List.length_map, List.length_append, List.length_cons, List.length_nil]); omega) rfl rfl ?_
   refine aops_q rfl (q_assign (x := .rs _) rfl) ?_
   refine aops_nil ?_
   change Awp _ _ _ _ _
   refine xa 2 ?_
   refine rg_q (q_add rfl rfl xi) ?_
   refine rg_q (q_m rfl) ?_
   refine rn ?_
   refine ⟨k + 1, by omega, by omega, ?_⟩
   exact xh (ms := [3]) (by repeat (first | exact Out.head rfl rfl | (refine Out.put ?_ rfl) | (refine Out.site ?_ rfl) | (refine Out.killS ?_ rfl))) ⟨(by rfl), (by rfl), trivial⟩ ⟨(by ((show Site.row 3 1 _ = Site.row 3 1 _; rw [hsk]; rfl))), trivial⟩
  ·
   (try simp only [nb, ne_eq] at hc3)
   have hkn : k = t.ne.toNat := by omega
   subst hkn
   refine awp_exit ?_
   change Awp _ _ _ _ _
   refine awp_seq ?_
   refine xa 2 ?_
   refine rg_q (q_move (x := .rs _) rfl) (rg_q (q_assign (x := .rs _) rfl) ?_)
   refine xc (awp_ret ?_)
   refine ⟨_, (.cons (.tmp (by exact .rs rfl)) .nil), ?_⟩
   rfl
theorem nearest_p (t : Tsk) (tm : Int) (h : ArrOk t.ar) (h1 : -1000000000000 ≤ tm) (h2 : tm ≤ 1000000000000) : PC Tryz.prog 68 [.pt (tkC t) 0, .v (.int .i64 (tm))] (.v (.int .i64 (rndI (tm - t.ar.ts.1) t.ar.ts.2))) := by
 obtain ⟨_, _, _, _, _, _, t1, t2, t3, t4⟩ := h
 have hq := tdiv_sm (a := 2 * (tm - t.ar.ts.1) + t.ar.ts.2) (b := 2 * t.ar.ts.2) ⟨by omega, by omega⟩ (by omega)
 obtain ⟨h5, h6⟩ := hq
 have hl := floor_law (n := 2 * (tm - t.ar.ts.1) + t.ar.ts.2) (b := 2 * t.ar.ts.2) (by omega)
 refine pc_of_awp Tryz.func68 rfl Tryz.ntmps68 (rs := [.tmp 4]) Tryz.results68 (by simp) fun w0 => ?_
 refine awp_seq ?_
 refine xa 1 ?_
 refine rg_q (q_a rfl) ?_
 refine rs (xa 25 ?_)
 refine rg_q (q_m rfl) (rg_q (q_move (x := .d (.pt _ _)) rfl) (rg_q (q_nilCheck rfl) (rg_q (q_fieldAddr fld142_1 rfl) (rg_q (q_fieldAddr fld50_3 rfl) (rg_q (q_fieldAddr fld48_0 rfl) ?_)))))
 refine rg_q (q_load sz3 rfl rfl) ?_
 refine rg_q (q_sub rfl rfl xi) ?_
 refine rg_q (q_mul rfl rfl xi) ?_
 refine rg_q (q_move (x := .d (.pt _ _)) rfl) (rg_q (q_nilCheck rfl) (rg_q (q_fieldAddr fld142_1 rfl) (rg_q (q_fieldAddr fld50_3 rfl) (rg_q (q_fieldAddr fld48_1 rfl) (rg_q (q_load sz3 rfl rfl) ?_)))))
 refine rg_q (q_add rfl rfl xi) ?_
 refine rg_q (q_move (x := .d (.pt _ _)) rfl) (rg_q (q_nilCheck rfl) (rg_q (q_fieldAddr fld142_1 rfl) (rg_q (q_fieldAddr fld50_3 rfl) (rg_q (q_fieldAddr fld48_1 rfl) (rg_q (q_load sz3 rfl rfl) ?_)))))
 refine rg_q (q_mul rfl rfl xi) ?_
 refine rg_q (q_a rfl) (rg_q (q_a rfl) ?_)
 refine rs (xa 4 ?_)
 refine rg_q (q_m rfl) (rg_q (q_m rfl) ?_)
 refine rg_q (q_quo rfl rfl (by omega) xi) ?_
 refine rg_q (q_a rfl) ?_
 refine rs (awp_seq ?_)
 refine xa 4 ?_
 refine rg_q (q_m rfl) (rg_q (q_m rfl) ?_)
 refine rg_q (q_rem rfl rfl (by omega)) ?_
 refine rg_q (q_lss rfl rfl) ?_
 refine xc (awp_cond rfl (fun hc3 => ?_) (fun hc3 => ?_))
 ·
  (try simp only [nb, ne_eq] at hc3)
  rw [if_pos hc3] at hl
  refine xa 3 ?_
  refine rg_q (q_m rfl) ?_
  refine rg_q (q_sub rfl rfl xi) ?_
  refine rg_q (q_a rfl) ?_
  refine rs (xa 2 ?_)
  refine rg_q (q_m rfl) (rg_q (q_a rfl) ?_)
  refine xc (awp_ret ?_)
  refine ⟨_, xk1, ?_⟩
  unfold rndI; rw [← hl]; rfl
 ·
  (try simp only [nb, ne_eq] at hc3)
  rw [if_neg (by omega)] at hl
  refine awp_skip ?_
  change Awp _ _ _ _ _
  refine awp_seq ?_
  refine xa 2 ?_
  refine rg_q (q_m rfl) (rg_q (q_a rfl) ?_)
  refine xc (awp_ret ?_)
  refine ⟨_, xk1, ?_⟩
  unfold rndI; rw [← hl]; rfl
theorem number_p (t : Tsk) (c : Int) (pr : Int × Int) (h : TskOk t) (hc : clE t.g c = 0) (hp : (0 ≤ pr.1 ∧ pr.1 < t.ne) ∧ 0 ≤ pr.2 ∧ pr.2 < t.ne) : PC Tryz.prog 63 [.pt (tkC t) 0, .v (.int .i64 (c)), .agg (shC pr)] (.tup [.v (.int .i64 (smpI t.ar (spI t.g c) pr)), .v (.bool (inR 0 (smpI t.ar (spI t.g c) pr) 60))]) := by
 obtain ⟨hg, _, _⟩ := ckG_ok h.gr
 obtain ⟨c1, c2⟩ := clE_ok hc
 have hci := cells_in hg
 obtain ⟨hao, _⟩ := ckArr_ok h.ck
 have ho := op_zero h hc hp
 have he : echR t.ar (spI t.g c) pr = (echI t.ar (spI t.g c) pr, 0) := by unfold echR; rw [if_neg (fun q => q ho)]
 have hei := ech_in t.ar (spI t.g c) pr
 refine pc_of_awpN Tryz.func63 rfl Tryz.ntmps63 (rs := [.tmp 6, .tmp 7]) Tryz.results63 (by simp) fun w0 hmine hrnd hpn => ?_
 refine awp_seq ?_
 refine xa 3 ?_
 refine rg_q (q_box rfl (by exact .inr ⟨_, rfl⟩)) ?_
 refine rg_q (q_a rfl) (rg_q (q_a rfl) ?_)
 refine rs (xa 17 ?_)
 refine rg_q (q_move (x := .d (.pt _ _)) rfl) (rg_q (q_nilCheck rfl) (rg_q (q_fieldAddr fld142_1 rfl) ?_))
 refine rg_q (q_loadA (ds := [_, _, _, _, _, _, _, _, _, _, _]) sz50 rfl rfl rfl) ?_
 refine rg_q (q_move (x := .d (.pt _ _)) rfl) (rg_q (q_nilCheck rfl) (rg_q (q_fieldAddr fld142_0 rfl) ?_))
 refine rg_q (q_loadA (ds := [_, _, _, _, _]) sz70 rfl rfl rfl) ?_
 refine rg_q (q_m rfl) ?_
 refine rg_q (q_call en67 (.cons rfl (.cons rfl .nil)) rfl (fspot_p t.g c hg c1 (by omega))) ?_
 refine rg_q (q_loadA (ds := [_, _]) sz106 rfl rfl rfl) ?_
 refine rg_q (q_call en88 (.cons rfl (.cons rfl (.cons rfl .nil))) rfl ((by have h := echoAt_p t.ar (spI t.g c) pr; rw [he] at h; exact h))) ?_
 refine rg_q (q_move (x := .d (.tup _)) rfl) (rg_q (q_extract rfl rfl) (rg_q (q_extract rfl rfl) (rg_q (q_a rfl) (rg_q (q_a rfl) ?_))))
 refine rs (xa 4 ?_)
 refine rg_q (q_move (x := .d (.pt _ _)) rfl) (rg_q (q_m rfl) ?_)
 refine rg_q (q_call en68 (.cons rfl (.cons rfl .nil)) rfl (nearest_p t _ hao (by omega) (by omega))) ?_
 refine rg_q (q_a rfl) ?_
 refine rs (xa 5 ?_)
 refine rg_q (q_m rfl) (rg_q (q_m rfl) ?_)
 refine rg_q (q_call en43 (.cons rfl (.cons rfl (.cons rfl .nil))) rfl (fwithin_p _ _ _)) ?_
 refine rg_q (q_a rfl) (rg_q (q_a rfl) ?_)
 refine xc (awp_ret ?_)
 refine ⟨_, xk2, ?_⟩
 rfl
end Go.Proofs.YtcdccdcbfbakfaaGreatDoor.Am.M
-- mini
set_option maxRecDepth 100000
namespace Go.Proofs.YtcdccdcbfbakfaaGreatDoor.Am.M
open Go
theorem index5_p (l : List Int) (n : Int) : PC Tryz.prog 87 [.sl 1 (l.map iC), .v (.int .i64 (n))] (.v (.int .i64 (idxOf (fun x => decide (n = x)) 0 l))) := by
 refine pc_of_awp Tryz.func87 rfl Tryz.ntmps87 (rs := [.tmp 4]) Tryz.results87 (by simp) fun w0 => ?_
 refine awp_seq ?_
 refine xa 1 ?_
 refine rg_q (q_a rfl) ?_
 refine rs (awp_seq ?_)
 refine xa 3 ?_
 refine rg_q (q_move (x := .d (.sl _ _)) rfl) ?_
 refine rg_q (q_len isl26 rfl (by exact len_map _ _)) ?_
 refine rg_q (q_m rfl) ?_
 refine xc (awp_len (t := 6) rfl (fun hl6 => ?_))
 (try simp only [List.length_map] at hl6)
 refine awp_block ?_
 refine awp_loopH [4, 5, 8, 9, 10, 11, 12, 13, 14, 15, 16, 17, 18] [] (α := Nat) (fun k => [(8, T.i (k : Int))]) (fun k => []) (fun k => k ≤ l.length ∧ idxOf (fun x => decide (n = x)) 0 l = idxOf (fun x => decide (n = x)) k (l.drop k)) (fun k => l.length - k) 0 ⟨Nat.zero_le _, rfl⟩ ?_ ?_
 · exact xh (ms := []) (by repeat (exact Out.refl _)) ⟨(by rfl), trivial⟩ trivial
 ·
  intro k ⟨hk, hh⟩
  refine awp_seq ?_
  refine xa 1 ?_
  refine rg_q (q_lss rfl rfl) ?_
  refine rs (awp_cond rfl (fun hc2 => ?_) (fun hc2 => ?_))
  ·
   (try simp only [nb, ne_eq] at hc2)
   have hlt : k < l.length := by omega
   have hx := List.getElem?_eq_getElem hlt
   have hd : idxOf (fun x => decide (n = x)) k (l.drop k) = if decide (n = l[k]) = true then (k : Int) else idxOf (fun x => decide (n = x)) (k + 1) (l.drop (k + 1)) := by rw [List.drop_eq_getElem_cons hlt]; rfl
   generalize l[k] = x at *
   refine awp_skip ?_
   change Awp _ _ _ _ _
   refine awp_seq ?_
   refine awp_block ?_
   refine awp_seq ?_
   refine xa 2 ?_
   refine rg_q (q_m rfl) (rg_q (q_a rfl) ?_)
   refine rs (xa 6 ?_)
   refine rg_q (q_m rfl) (rg_q (q_move (x := .d (.sl _ _)) rfl) (rg_q (q_m rfl) ?_))
   refine rg_q (q_indexAddr sl26 rfl rfl (by omega) (map_at (by omega) hx)) ?_
   refine rg_q (q_load sz3 rfl rfl) (rg_q (q_eql rfl rfl) ?_)
   refine xc (awp_cond rfl (fun hc4 => ?_) (fun hc4 => ?_))
   ·
    (try simp only [nb, ne_eq] at hc4)
    refine awp_seq ?_
    refine xa 2 ?_
    refine rg_q (q_m rfl) (rg_q (q_a rfl) ?_)
    refine xc (awp_ret ?_)
    refine ⟨_, xk1, ?_⟩
    rw [hh, hd, if_pos (by simpa using hc4)]; rfl
   ·
    (try simp only [nb, ne_eq] at hc4)
    refine awp_skip ?_
    change Awp _ _ _ _ _
    refine xa 2 ?_
    refine rg_q (q_add rfl rfl xi) ?_
    refine rg_q (q_m rfl) ?_
    refine rn ?_
    refine ⟨k + 1, ⟨by omega, by rw [hh, hd, if_neg (by simpa using hc4)]⟩, by omega, ?_⟩
    exact xh (ms := []) (by repeat (first | exact Out.head rfl rfl | (refine Out.put ?_ rfl))) ⟨(by rfl), trivial⟩ trivial
  ·
   (try simp only [nb, ne_eq] at hc2)
   refine awp_exit ?_
   change Awp _ _ _ _ _
   refine awp_seq ?_
   refine xa 1 ?_
   refine rg_q (q_a rfl) ?_
   refine xc (awp_ret ?_)
   refine ⟨_, xk1, ?_⟩
   rw [hh, List.drop_of_length_le (by omega)]; rfl
theorem contains5_p (l : List Int) (n : Int) : PC Tryz.prog 62 [.sl 1 (l.map iC), .v (.int .i64 (n))] (.v (.bool (l.any fun x => decide (n = x)))) := by
 refine pc_of_awp Tryz.func62 rfl Tryz.ntmps62 (rs := [.tmp 4]) Tryz.results62 (by simp) fun w0 => ?_
 refine awp_seq ?_
 refine xa 1 ?_
 refine rg_q (q_a rfl) ?_
 refine rs (xa 5 ?_)
 refine rg_q (q_move (x := .d (.sl _ _)) rfl) (rg_q (q_m rfl) ?_)
 refine rg_q (q_call en87 (.cons rfl (.cons rfl .nil)) rfl (index5_p _ _)) ?_
 refine rg_q (q_geq rfl rfl) (rg_q (q_a rfl) ?_)
 refine xc (awp_ret ?_)
 refine ⟨_, xk1, ?_⟩
 rw [← idxOf_mem]; rfl
theorem fpairs_p (t : Tsk) (l : List Int) : PC Tryz.prog 37 [.pt (tkC t) 0, .sl 1 (l.map iC)] (.fn (.func 65) [.pt [.sl 1 (l.map iC)] 0, .pt [.pt (tkC t) 0] 0]) := by
 refine pc_of_awp Tryz.func37 rfl Tryz.ntmps37 (rs := [.tmp 4]) Tryz.results37 (by simp) fun w0 => ?_
 refine awp_seq ?_
 refine xa 3 ?_
 refine rg_q (q_box rfl (by exact .inl rfl)) ?_
 refine rg_q (q_box rfl (by exact .inl rfl)) ?_
 refine rg_q (q_assign (x := .d (.v .nilFunc)) rfl) ?_
 refine rs (xa 2 ?_)
 refine rg_q (q_makeFunc (.cons rfl (.cons rfl .nil))) ?_
 refine rg_q (q_assign (x := .d (.fn _ _)) rfl) ?_
 refine xc (awp_ret ?_)
 refine ⟨_, xk1, ?_⟩
 rfl

def pqR (x : Int) (j : Nat) : List (Int × Int) := (List.range j).map fun r : Nat => (x, (r : Int))
def pqF (l : List Int) (n i : Nat) : List (Int × Int) := (l.take i).flatMap fun x => pqR x n
def pqL (l : List Int) (n : Nat) : List (Int × Int) := l.flatMap fun x => pqR x n
theorem pqR_succ (x : Int) (j : Nat) : pqR x (j + 1) = pqR x j ++ [(x, (j : Int))] := by unfold pqR; rw [List.range_succ, List.map_append]; rfl
theorem pqF_succ {l : List Int} {n i : Nat} {x : Int} (h : l[i]? = some x) : pqF l n (i + 1) = pqF l n i ++ pqR x n := by
  obtain ⟨hlt, hx⟩ := List.getElem?_eq_some_iff.1 h
  unfold pqF
  rw [List.take_succ_eq_append_getElem hlt, hx, List.flatMap_append]; simp
theorem pqF_all (l : List Int) (n : Nat) : pqF l n l.length = pqL l n := by unfold pqF pqL; rw [List.take_length]
theorem pqR_pre (x : Int) {j : Nat} : ∀ {n : Nat}, j ≤ n → pqR x j <+: pqR x n
  | 0, h => by have : j = 0 := by omega
               subst this; exact List.prefix_rfl
  | n + 1, h => by
    by_cases e : j = n + 1
    · subst e; exact List.prefix_rfl
    · rw [pqR_succ]; exact (pqR_pre x (show j ≤ n by omega)).trans (List.prefix_append _ _)
theorem pqF_pre {l : List Int} {n i : Nat} {x : Int} (h : l[i]? = some x) : pqF l n i ++ pqR x n <+: pqL l n := by
  obtain ⟨hlt, hx⟩ := List.getElem?_eq_some_iff.1 h
  rw [← pqF_succ h]
  unfold pqF pqL
  conv => rhs; rw [← List.take_append_drop (i + 1) l]
  rw [List.flatMap_append]
  exact List.prefix_append _ _
theorem pq_pre {l : List Int} {n i j : Nat} {x : Int} (h : l[i]? = some x) (hj : j < n) : pqF l n i ++ pqR x j ++ [(x, (j : Int))] <+: pqL l n := by
  rw [List.append_assoc, ← pqR_succ]
  have h1 := pqR_pre x (show j + 1 ≤ n by omega)
  obtain ⟨t, ht⟩ := h1
  refine List.IsPrefix.trans ?_ (pqF_pre (n := n) h)
  rw [← ht, ← List.append_assoc]
  exact List.prefix_append _ _
theorem pqL_in {l : List Int} {n : Nat} {y : Int × Int} (h : y ∈ pqL l n) : y.1 ∈ l ∧ 0 ≤ y.2 ∧ y.2 < n := by
  unfold pqL at h
  obtain ⟨x, hx, h⟩ := List.mem_flatMap.1 h
  unfold pqR at h
  obtain ⟨r, hr, rfl⟩ := List.mem_map.1 h
  have := List.mem_range.1 hr
  exact ⟨hx, by simp only; omega, by simp only; omega⟩
theorem pqL_len (l : List Int) (n : Nat) : (pqL l n).length = l.length * n := by
  unfold pqL
  induction l with
  | nil => simp
  | cons x l ih =>
    rw [List.flatMap_cons, List.length_append, ih, List.length_cons, Nat.succ_mul]
    unfold pqR
    rw [List.length_map, List.length_range]; omega
def smpS (t : Tsk) (y : Int × Int) : List Int := (chK t.bf (y.1 * t.ne + y.2).toNat).map vI
def encQ (t : Tsk) (y : Int × Int) : List D := [.agg (shC y), .pt (anL (smpS t y)) 0]
theorem smR_at {l : List Nat} {m i : Nat} (h : i < m) : (smR l m)[i]? = some (anL ((chK l i).map vI)) := by
  unfold smR chF
  rw [List.getElem?_map, List.getElem?_map, List.getElem?_range h]; rfl
theorem pr_idx {t : Tsk} (h : TskOk t) {x : Int} {j : Nat} (h1 : 0 ≤ x) (h2 : x < t.ne) (hj : (j : Int) < t.ne) : (0 ≤ x * t.ne ∧ x * t.ne ≤ 256) ∧ x * t.ne + (j : Int) < t.ne * t.ne := by
  have a1 := h.n1
  have a2 := h.n2
  have m := mulb (a := x) (b := t.ne) (A := 16) (B := 16) (by omega) (by omega) (by omega) (by omega)
  have p := Int.mul_nonneg h1 (show 0 ≤ t.ne by omega)
  have q := Int.mul_le_mul_of_nonneg_right (show x ≤ t.ne - 1 by omega) (show 0 ≤ t.ne by omega)
  rw [Int.sub_mul] at q
  omega
theorem fpairs_i (t : Tsk) (l : List Int) (h : TskOk t) (hl : ∀ x ∈ l, 0 ≤ x ∧ x < t.ne) (hll : l.length ≤ 10000) : PI Tryz.prog 65 [] [.pt [.sl 1 (l.map iC)] 0, .pt [.pt (tkC t) 0] 0] ((encQ t)) (pqL l t.ne.toNat) true := by
  have hn1 := h.n1
  have hn2 := h.n2
  obtain ⟨_, _, hm3⟩ := tsk_len h
  refine pi_of_iwp Tryz.func65 rfl Tryz.ntmps65 rfl rfl fun J c l0 hJ hy hdat hfin => ?_
  refine iwp_seq ?_
  apply iwp_reg hJ
  ·
    intro c1 hmine hrnd
    refine xa 3 ?_
    refine rg_q (q_load sz26 rfl rfl) ?_
    refine rg_q (q_len isl26 rfl (by exact len_map _ _)) ?_
    refine rg_q (q_m rfl) ?_
    refine rn ?_
    exact ⟨rfl, rfl⟩
  change Iwp _ _ _ _ _ _ _
  refine iwp_len (t := 7) rfl (fun hl7 => ?_)
  (try simp only [List.length_map] at hl7)
  refine iwp_block ?_
  refine iwp_loopH [5, 6, 9, 10, 11, 12, 13, 14, 15, 16, 17, 18, 19, 20, 21, 22, 23, 24, 25, 26, 27, 28, 29, 30, 31, 32, 33, 34, 35, 36, 37, 38, 39, 40] [] (β := Nat) (fun i => [(9, T.i (i : Int))]) (fun i => []) (fun i => (true, pqF l t.ne.toNat i)) (fun i => i ≤ l.length) (fun i => l.length - i) 0 (Nat.zero_le _) rfl (fun c1 => ?_) ?_
  · exact xh (ms := []) (by repeat (exact Out.refl _)) ⟨(by rfl), trivial⟩ trivial
  ·
    intro i hi
    refine iwp_seq ?_
    apply iwp_reg hJ
    ·
      intro c1 hmine hrnd
      refine xa 1 ?_
      refine rg_q (q_lss rfl rfl) ?_
      refine rn ?_
      exact ⟨rfl, rfl⟩
    change Iwp _ _ _ _ _ _ _
    refine iwp_seq ?_
    refine iwp_cond rfl (fun hc1 => ?_) (fun hc1 => ?_)
    ·
      (try simp only [nb, ne_eq] at hc1)
      have hlt : i < l.length := by omega
      obtain ⟨x, hx⟩ : ∃ x, l[i]? = some x := ⟨_, List.getElem?_eq_getElem hlt⟩
      obtain ⟨hx1, hx2⟩ := hl x (List.mem_of_getElem? hx)
      refine iwp_skip ?_
      change Iwp _ _ _ _ _ _ _
      refine iwp_seq ?_
      refine iwp_block ?_
      refine iwp_seq ?_
      apply iwp_reg hJ
      ·
        intro c1 hmine hrnd
        refine xa 3 ?_
        refine rg_q (q_indexAddr sl26 rfl rfl (by omega) (map_at (by omega) hx)) ?_
        refine rg_q (q_load sz3 rfl rfl) (rg_q (q_a rfl) ?_)
        refine rn ?_
        exact ⟨rfl, rfl⟩
      change Iwp _ _ _ _ _ _ _
      refine iwp_seq ?_
      apply iwp_reg hJ
      ·
        intro c1 hmine hrnd
        refine xa 5 ?_
        refine rg_q (q_load sz90 rfl rfl) (rg_q (q_nilCheck rfl) (rg_q (q_fieldAddr fld142_2 rfl) (rg_q (q_load sz3 rfl rfl) (rg_q (q_m rfl) ?_))))
        refine rn ?_
        exact ⟨rfl, rfl⟩
      change Iwp _ _ _ _ _ _ _
      refine iwp_block ?_
      refine iwp_loopH [6, 17, 18, 19, 20, 21, 22, 23, 24, 25, 26, 27, 28, 29, 30, 31, 32, 33, 34, 35, 36, 37, 38, 39] [] (β := Nat) (fun j => [(17, T.i (j : Int))]) (fun j => []) (fun j => (true, pqF l t.ne.toNat i ++ pqR x j)) (fun j => j ≤ t.ne.toNat) (fun j => t.ne.toNat - j) 0 (Nat.zero_le _) (by show (true, _ ++ pqR x 0) = (true, _); simp [pqR]) (fun c1 => ?_) ?_
      · exact xh (ms := []) (by repeat (exact Out.refl _)) ⟨(by rfl), trivial⟩ trivial
      ·
        intro j hj
        refine iwp_seq ?_
        apply iwp_reg hJ
        ·
          intro c1 hmine hrnd
          refine xa 1 ?_
          refine rg_q (q_lss rfl rfl) ?_
          refine rn ?_
          exact ⟨rfl, rfl⟩
        change Iwp _ _ _ _ _ _ _
        refine iwp_seq ?_
        refine iwp_cond rfl (fun hc4 => ?_) (fun hc4 => ?_)
        ·
          (try simp only [nb, ne_eq] at hc4)
          have hlj : j < t.ne.toNat := by omega
          have hpre := pq_pre (n := t.ne.toNat) hx hlj
          obtain ⟨⟨hq1, hq2⟩, hq3⟩ := pr_idx h (j := j) hx1 hx2 (by omega)
          have hsm : (smR t.bf (tkM t))[(x * t.ne + (j : Int)).toNat]? = some (anL (smpS t (x, (j : Int)))) := smR_at (by omega)
          refine iwp_skip ?_
          change Iwp _ _ _ _ _ _ _
          refine iwp_seq ?_
          refine iwp_block ?_
          refine iwp_seq ?_
          apply iwp_reg hJ
          ·
            intro c1 hmine hrnd
            refine xa 2 ?_
            refine rg_q (q_m rfl) (rg_q (q_a rfl) ?_)
            refine rn ?_
            exact ⟨rfl, rfl⟩
          change Iwp _ _ _ _ _ _ _
          refine iwp_seq ?_
          refine iwp_regionD 17 mixed hJ (by kernel_rfl) (fun c1 hmine => ?_)
          refine rg_q (q_move (x := .d (.fn _ _)) rfl) (rg_q (q_m rfl) (rg_q (q_m rfl) ?_))
          refine rg_q (q_buildA (cs := [_, _]) ar106 zr106 rfl (.cons rfl (by exact .inl rfl) (.cons rfl (by exact .inl rfl) .nil)) ⟨⟨rfl, by decide⟩, ⟨rfl, by decide⟩, trivial⟩ rfl) ?_
          refine rg_q (q_load sz90 rfl rfl) (rg_q (q_nilCheck rfl) (rg_q (q_fieldAddr fld142_3 rfl) (rg_q (q_load sz140 rfl rfl) (rg_q (q_m rfl) (rg_q (q_load sz90 rfl rfl) ?_)))))
          refine rg_q (q_nilCheck rfl) (rg_q (q_fieldAddr fld142_2 rfl) (rg_q (q_load sz3 rfl rfl) ?_))
          refine rg_q (q_mul rfl rfl xi) ?_
          refine rg_q (q_m rfl) ?_
          refine rg_q (q_add rfl rfl xi) ?_
          refine rg_q (q_indexAddr sl140 rfl rfl (by omega) (hsm)) ?_
          refine rg_nil ?_
          refine iops_yield (x := (x, (j : Int))) hy hdat rfl (.cons rfl (.cons rfl .nil)) hpre rfl (fun yb => ?_)
          refine iops_of hJ rfl (fun c1 _ _ _ h => by exact aops_q rfl ((q_not rfl)) h) ?_
          refine iops_nil ?_
          change Iwp _ _ _ _ _ _ _
          refine iwp_cond rfl (fun hc6 => ?_) (fun hc6 => ?_)
          ·
            (try simp only [nb, ne_eq] at hc6)
            have hyb : yb = false := by cases yb <;> first | rfl | (exfalso; simp_all; done)
            refine iwp_ret ?_
            exact ⟨.inl rfl, fun h => by rw [hyb] at h; cases h⟩
          ·
            (try simp only [nb, ne_eq] at hc6)
            have hyb : yb = true := by cases yb <;> first | rfl | (exfalso; simp_all; done)
            refine iwp_skip ?_
            change Iwp _ _ _ _ _ _ _
            apply iwp_reg hJ
            ·
              intro c1 hmine hrnd
              refine xa 2 ?_
              refine rg_q (q_add rfl rfl xi) ?_
              refine rg_q (q_m rfl) ?_
              refine rn ?_
              exact ⟨rfl, rfl⟩
            refine ⟨j + 1, by omega, by omega, by rw [hyb, pqR_succ, List.append_assoc], fun c1 => ?_⟩
            exact xh (ms := []) (by repeat (first | exact Out.head rfl rfl | (refine Out.put ?_ rfl))) ⟨(by rfl), trivial⟩ trivial
        ·
          (try simp only [nb, ne_eq] at hc4)
          have hjn : j = t.ne.toNat := by omega
          refine iwp_exit ?_
          change Iwp _ _ _ _ _ _ _
          apply iwp_reg hJ
          ·
            intro c1 hmine hrnd
            refine xa 2 ?_
            refine rg_q (q_add rfl rfl xi) ?_
            refine rg_q (q_m rfl) ?_
            refine rn ?_
            exact ⟨rfl, rfl⟩
          refine ⟨i + 1, by omega, by omega, by rw [hjn, pqF_succ hx], fun c1 => ?_⟩
          exact xh (ms := []) (by repeat (first | exact Out.head rfl rfl | (refine Out.put ?_ rfl) | (refine Out.headIn ?_ rfl rfl rfl))) ⟨(by rfl), trivial⟩ trivial
    ·
      (try simp only [nb, ne_eq] at hc1)
      have hin : i = l.length := by omega
      refine iwp_exit ?_
      exact ⟨.inr rfl, fun _ => by rw [hin, pqF_all]⟩
theorem fplus_p (a b c d : Int) (h1 : -1000000000000 ≤ a ∧ a ≤ 1000000000000) (h2 : -1000000000000 ≤ b ∧ b ≤ 1000000000000) (h3 : -1000000000000 ≤ c ∧ c ≤ 1000000000000) (h4 : -1000000000000 ≤ d ∧ d ≤ 1000000000000) : PC Tryz.prog 64 [.agg [.v (.int .i64 (a)), .v (.int .i64 (b))], .agg [.v (.int .i64 (c)), .v (.int .i64 (d))]] (.agg [.v (.int .i64 (a + c)), .v (.int .i64 (b + d))]) := by
 refine pc_of_awp Tryz.func64 rfl Tryz.ntmps64 (rs := [.cell 4 94]) Tryz.results64 (by simp) fun w0 => ?_
 refine awp_seq ?_
 refine xa 2 ?_
 refine rg_q (q_box rfl (by exact .inr ⟨_, rfl⟩)) ?_
 refine rg_q (q_box rfl (by exact .inr ⟨_, rfl⟩)) ?_
 refine rg_nil ?_
 refine aops_alloc zr94 rfl rfl rfl ?_
 refine aops_nil (xq (xa 11 ?_))
 refine rg_q (q_fieldAddr fld94_0 rfl) (rg_q (q_load sz3 rfl rfl) (rg_q (q_fieldAddr fld94_0 rfl) (rg_q (q_load sz3 rfl rfl) ?_)))
 refine rg_q (q_add rfl rfl xi) ?_
 refine rg_q (q_fieldAddr fld94_1 rfl) (rg_q (q_load sz3 rfl rfl) (rg_q (q_fieldAddr fld94_1 rfl) (rg_q (q_load sz3 rfl rfl) ?_)))
 refine rg_q (q_add rfl rfl xi) ?_
 refine rg_q (q_build (cs := [_, _]) pl94 zr94 rfl (.cons rfl (by exact .inl rfl) (.cons rfl (by exact .inl rfl) .nil)) ⟨⟨rfl, by decide⟩, ⟨rfl, by decide⟩, trivial⟩ rfl) ?_
 refine rg_nil ?_
 refine aops_store sz94 rfl rfl (by exact .inr ⟨_, rfl⟩) rfl rfl (by decide) rfl ?_
 refine aops_nil ?_
 change Awp _ _ _ _ _
 refine awp_ret ?_
 refine ⟨_, (.cons (.cellA rfl rfl sz94 rfl) .nil), ?_⟩
 rfl
theorem fsample_p (re im : Int) (h1 : -4094 ≤ re ∧ re ≤ 4094) (h2 : -4094 ≤ im ∧ im ≤ 4094) : PC Tryz.prog 39 [cx re im] (.agg [.v (.int .i64 (re)), .v (.int .i64 (im))]) := by
 refine pc_of_awp Tryz.func39 rfl Tryz.ntmps39 (rs := [.cell 2 94]) Tryz.results39 (by simp) fun w0 => ?_
 refine awp_seq ?_
 refine xa 0 ?_
 refine rg_nil ?_
 refine aops_alloc zr94 rfl rfl rfl ?_
 refine aops_nil (xq (xa 7 ?_))
 refine rg_q (q_m rfl) ?_
 refine rg_q (q_real rfl) ?_
 refine rg_q (q_convfi flt99 int3 rfl (f32_int (f32_of (by omega) (by omega)))) ?_
 refine rg_q (q_m rfl) ?_
 refine rg_q (q_imag rfl) ?_
 refine rg_q (q_convfi flt99 int3 rfl (f32_int (f32_of (by omega) (by omega)))) ?_
 refine rg_q (q_build (cs := [_, _]) pl94 zr94 rfl (.cons rfl (by exact .inl rfl) (.cons rfl (by exact .inl rfl) .nil)) ⟨⟨rfl, by decide⟩, ⟨rfl, by decide⟩, trivial⟩ rfl) ?_
 refine rg_nil ?_
 refine aops_store sz94 rfl rfl (by exact .inr ⟨_, rfl⟩) rfl rfl (by decide) rfl ?_
 refine aops_nil ?_
 change Awp _ _ _ _ _
 refine awp_ret ?_
 refine ⟨_, (.cons (.cellA rfl rfl sz94 rfl) .nil), ?_⟩
 rfl

def cz (re im : Int) : D := .v (.complex .f64 (FloatKind.f64.nearest re) (FloatKind.f64.nearest im))
theorem fnumber_p (re im : Int) : PC Tryz.prog 35 [.agg [.v (.int .i64 (re)), .v (.int .i64 (im))]] (cz re im) := by
 refine pc_of_awp Tryz.func35 rfl Tryz.ntmps35 (rs := [.tmp 2]) Tryz.results35 (by simp) fun w0 => ?_
 refine awp_seq ?_
 refine xa 2 ?_
 refine rg_q (q_box rfl (by exact .inr ⟨_, rfl⟩)) ?_
 refine rg_q (q_a rfl) ?_
 refine rs (xa 8 ?_)
 refine rg_q (q_fieldAddr fld94_0 rfl) (rg_q (q_load sz3 rfl rfl) ?_)
 refine rg_q (q_convf int3 flt119 rfl) ?_
 refine rg_q (q_fieldAddr fld94_1 rfl) (rg_q (q_load sz3 rfl rfl) ?_)
 refine rg_q (q_convf int3 flt119 rfl) ?_
 refine rg_q (q_complex rfl rfl) ?_
 refine rg_q (q_a rfl) ?_
 refine xc (awp_ret ?_)
 refine ⟨_, xk1, ?_⟩
 rfl
end Go.Proofs.YtcdccdcbfbakfaaGreatDoor.Am.M
-- mini
set_option maxRecDepth 100000
namespace Go.Proofs.YtcdccdcbfbakfaaGreatDoor.Am.M
open Go

def hasI (l : List Int) (n : Int) : Bool := l.any fun x => decide (n = x)
theorem reim_in {t : Tsk} (h : TskOk t) (y : Int × Int) (k : Nat) : (-4094 ≤ reI (smpS t y) k ∧ reI (smpS t y) k ≤ 4094) ∧ (-4094 ≤ imI (smpS t y) k ∧ imI (smpS t y) k ≤ 4094) := sq_bnd (vI_in (chK_wh h.wh _)) k
theorem anL_at {S : List Int} {k : Nat} (hk : k < 61) : (anL S)[k]? = some (cx (reI S k) (imI S k)) := by unfold anL; rw [List.getElem?_map, List.getElem?_range hk]; rfl
def vlF (t : Tsk) (c : Int) (dd : List Int) (s : (Int × Int) × Int) (y : Int × Int) : (Int × Int) × Int :=
  if (hasI dd y.1 || hasI dd y.2) = true then s
  else if inR 0 (smpI t.ar (spI t.g c) y) 60 = true then ((s.1.1 + reI (smpS t y) (smpI t.ar (spI t.g c) y).toNat, s.1.2 + imI (smpS t y) (smpI t.ar (spI t.g c) y).toNat), s.2 + 1)
  else s
def vlA (t : Tsk) (c : Int) (dd : List Int) (l : List (Int × Int)) : (Int × Int) × Int := l.foldl (vlF t c dd) ((0, 0), 0)
theorem vlA_snoc {t : Tsk} {c : Int} {dd : List Int} {l : List (Int × Int)} {k : Nat} {y : Int × Int} (h : l[k]? = some y) : vlA t c dd (l.take (k + 1)) = vlF t c dd (vlA t c dd (l.take k)) y := by
  obtain ⟨hlt, hx⟩ := List.getElem?_eq_some_iff.1 h
  unfold vlA
  rw [List.take_succ_eq_append_getElem hlt, hx, List.foldl_append]; rfl
theorem vlA_in {t : Tsk} (h : TskOk t) {c : Int} {dd : List Int} {l : List (Int × Int)} : ∀ k : Nat, k ≤ l.length → (-(4094 * (k : Int)) ≤ (vlA t c dd (l.take k)).1.1 ∧ (vlA t c dd (l.take k)).1.1 ≤ 4094 * (k : Int)) ∧ (-(4094 * (k : Int)) ≤ (vlA t c dd (l.take k)).1.2 ∧ (vlA t c dd (l.take k)).1.2 ≤ 4094 * (k : Int)) ∧ 0 ≤ (vlA t c dd (l.take k)).2 ∧ (vlA t c dd (l.take k)).2 ≤ (k : Int)
  | 0, _ => by
    have e : vlA t c dd (l.take 0) = ((0, 0), 0) := rfl
    rw [e]
    simp only; omega
  | k + 1, hk => by
    have ih := vlA_in h (c := c) (dd := dd) (l := l) k (by omega)
    have hy : l[k]? = some l[k] := List.getElem?_eq_getElem (by omega)
    have hb := reim_in h l[k] (smpI t.ar (spI t.g c) l[k]).toNat
    rw [vlA_snoc hy]
    unfold vlF
    split
    · omega
    · split
      · simp only; omega
      · omega
theorem value_p (t : Tsk) (c : Int) (fs dd : List Int) (h : TskOk t) (hc : clE t.g c = 0) (hf : ∀ x ∈ fs, 0 ≤ x ∧ x < t.ne) (hfl : fs.length ≤ 100) : PC Tryz.prog 33 [.pt (tkC t) 0, .v (.int .i64 (c)), .sl 1 (fs.map iC), .sl 1 (dd.map iC)] (.tup [.agg [.v (.int .i64 ((vlA t c dd (pqL fs t.ne.toNat)).1.1)), .v (.int .i64 ((vlA t c dd (pqL fs t.ne.toNat)).1.2))], .v (.int .i64 ((vlA t c dd (pqL fs t.ne.toNat)).2))]) := by
  have hn1 := h.n1
  have hn2 := h.n2
  have hlen : (pqL fs t.ne.toNat).length ≤ 1600 := by
    rw [pqL_len]
    have := Nat.mul_le_mul hfl (show t.ne.toNat ≤ 16 by omega)
    omega
  refine pc_of_awpN Tryz.func33 rfl Tryz.ntmps33 (rs := [.cell 8 94, .tmp 9]) Tryz.results33 (by simp) fun w0 hmine hrnd hpn => ?_
  refine awp_seq ?_
  refine xa 3 ?_
  refine rg_q (q_box rfl (by exact .inl rfl)) ?_
  refine rg_q (q_box rfl (by exact .inl rfl)) ?_
  refine rg_q (q_box rfl (by exact .inl rfl)) ?_
  refine rg_nil ?_
  refine aops_alloc zr94 rfl rfl rfl ?_
  refine aops_q rfl (q_a rfl) ?_
  refine aops_nil (xq (xa 0 ?_))
  refine rg_nil ?_
  refine aops_alloc zr94 rfl rfl rfl ?_
  refine aops_nil (xq (xa 0 ?_))
  refine rg_nil ?_
  refine aops_alloc zr3 rfl rfl rfl ?_
  refine aops_store sz3 rfl rfl (by exact .inl rfl) rfl rfl (by decide) rfl ?_
  refine aops_nil (xq (awp_seq ?_))
  refine xa 3 ?_
  refine rg_q (q_load sz90 rfl rfl) (rg_q (q_move (x := .d (.sl _ _)) rfl) ?_)
  refine rg_q (q_call en37 (.cons rfl (.cons rfl .nil)) rfl (fpairs_p t fs)) ?_
  refine xc (awp_block ?_)
  refine awp_rangeFC (α := Int × Int) (β := Nat) (n := 51) (enc := (encQ t)) (items := pqL fs t.ne.toNat) 1000 [(4, .d (.pt [.pt (tkC t) 0] 0)), (5, .d (.pt [.v (.int .i64 (c))] 0)), (7, .d (.pt [.sl 1 (dd.map iC)] 0)), (8, .ref 8 0), (10, .ref 10 0), (11, .ref 11 0), (18, .d (.fn (.func 65) [.pt [.sl 1 (fs.map iC)] 0, .pt [.pt (tkC t) 0] 0]))] (fun x => [(8, .box [.v (.int .i64 (0)), .v (.int .i64 (0))]), (10, .box [.v (.int .i64 ((vlA t c dd ((pqL fs t.ne.toNat).take x)).1.1)), .v (.int .i64 ((vlA t c dd ((pqL fs t.ne.toNat).take x)).1.2))]), (11, .box [.v (.int .i64 ((vlA t c dd ((pqL fs t.ne.toNat).take x)).2))])]) (fun k x => x = k) (fun e x => False) 0 hrnd ?_ (.inr ⟨rfl, rfl⟩) en65 (fpairs_i t fs h hf (by omega)) rfl (fun _ => rfl) rfl (fun x => fsl_mem (fsl_cons (fst_box (by repeat (first | exact trivial | refine ⟨.v _, ?_⟩))) (fsl_cons (fst_box (by repeat (first | exact trivial | refine ⟨.v _, ?_⟩))) (fsl_cons (fst_box (by repeat (first | exact trivial | refine ⟨.v _, ?_⟩))) fsl_nil)))) (fun _ => rfl) rfl (fun h => by cases h) ?_ ?_ ?_
  · exact le_cst (fun k => k) _ _ rfl ⟨rfl, rfl, rfl, rfl, rfl, rfl, rfl, trivial⟩ ⟨rfl, rfl, rfl, trivial⟩ rfl (fun k b h => by rw [hpn k] at h; cases h)
  ·
    intro w1 hw1 k x y hI hy
    subst hI
    have hmy := pqL_in (List.mem_of_getElem? hy)
    obtain ⟨hy0, hy3, hy4⟩ := hmy
    obtain ⟨hy1, hy2⟩ := hf _ hy0
    have hxl : x < (pqL fs t.ne.toNat).length := (List.getElem?_eq_some_iff.1 hy).1
    obtain ⟨⟨b1, b2⟩, ⟨b3, b4⟩, b5, b6⟩ := vlA_in h (c := c) (dd := dd) (l := pqL fs t.ne.toNat) x (by omega)
    obtain ⟨hre, him⟩ := reim_in h y (smpI t.ar (spI t.g c) y).toNat
    have hst := vlA_snoc (t := t) (c := c) (dd := dd) hy
    unfold vlF at hst
    refine awp_seq ?_
    refine xa 0 ?_
    refine rg_nil ?_
    refine aops_allocD zr106 rfl sz106 rfl rfl (by exact .inr ⟨_, rfl⟩) rfl rfl ?_
    refine aops_nil ?_
    change Awp _ _ _ _ _
    refine xa 1 ?_
    refine rg_q (q_assign (x := .d (.pt _ _)) rfl) ?_
    refine rn ?_
    refine ⟨rfl, fun w2 hw2 => ?_⟩
    refine awp_block ?_
    refine awp_seq ?_
    refine awp_seq ?_
    refine xa 10 ?_
    refine rg_q (q_load sz26 rfl rfl) ?_
    refine rg_q (q_indexAddr_ar ar106 rfl rfl (by omega) (by omega)) ?_
    refine rg_q (q_load sz3 rfl rfl) ?_
    refine rg_q (q_call en62 (.cons rfl (.cons rfl .nil)) rfl (contains5_p dd y.1)) ?_
    refine rg_q (q_m rfl) ?_
    refine rg_g rfl rfl (fun hG => (q_load sz26 rfl rfl)) ?_
    refine rg_g rfl rfl (fun hG => (q_indexAddr_ar ar106 rfl rfl (by (have hg0 := T.bool_inj (a := _) hG.1; (try simp only [nb, ne_eq] at hg0); omega)) (by (have hg0 := T.bool_inj (a := _) hG.1; (try simp only [nb, ne_eq] at hg0); omega)))) ?_
    refine rg_g rfl rfl (fun hG => (q_load sz3 rfl rfl)) ?_
    refine rg_g rfl rfl (fun hG => (q_call en62 (.cons rfl (.cons rfl .nil)) rfl (contains5_p dd y.2))) ?_
    refine rg_pick rfl rfl rfl rfl rfl rfl ?_
    refine xc (awp_cond rfl (fun hc6 => ?_) (fun hc6 => ?_))
    ·
      (try simp only [nb, ne_eq] at hc6)
      have hd : (hasI dd y.1 || hasI dd y.2) = true := by unfold hasI; simpa using hc6
      rw [if_pos hd] at hst
      refine awp_exit ?_
      refine .inl ⟨rfl, x + 1, rfl, ?_⟩
      exact le_round [] _ hw2 rfl ⟨(by rfl), (by (show Site.box _ = Site.box _; (rw [hst]; done))), (by (show Site.box _ = Site.box _; (rw [hst]; done))), trivial⟩ rfl
    ·
      (try simp only [nb, ne_eq] at hc6)
      have hd : ¬ (hasI dd y.1 || hasI dd y.2) = true := by
        intro q
        rw [Bool.or_eq_true] at q
        unfold hasI at q
        rcases q with q | q
        · rw [hc6.1] at q; cases q
        · rw [hc6.2] at q; cases q
      rw [if_neg hd] at hst
      refine awp_skip ?_
      change Awp _ _ _ _ _
      refine awp_seq ?_
      refine xa 9 ?_
      refine rg_q (q_load sz90 rfl rfl) (rg_q (q_load sz3 rfl rfl) ?_)
      refine rg_q (q_loadA (ds := [_, _]) sz106 rfl rfl rfl) ?_
      refine rg_q (q_call en63 (.cons rfl (.cons rfl (.cons rfl .nil))) rfl (number_p t c y h hc ⟨⟨hy1, hy2⟩, hy3, by omega⟩)) ?_
      refine rg_q (q_move (x := .d (.tup _)) rfl) (rg_q (q_extract rfl rfl) (rg_q (q_extract rfl rfl) (rg_q (q_a rfl) (rg_q (q_a rfl) ?_))))
      refine rs (xa 1 ?_)
      refine rg_q (q_m rfl) ?_
      refine xc (awp_cond rfl (fun hc8 => ?_) (fun hc8 => ?_))
      ·
        (try simp only [nb, ne_eq] at hc8)
        rw [if_pos hc8] at hst
        have hin := inR_iff.1 hc8
        refine awp_regionL 10 1 [8, 9] mixed (by kernel_rfl) ?_
        refine rg_q (q_load_refA (ds := [_, _]) sz94 rfl rfl rfl rfl) ?_
        refine rg_q (q_move (x := .d (.pt _ _)) rfl) (rg_q (q_m rfl) (rg_q (q_nilCheck rfl) ?_))
        refine rg_q (q_indexAddr_ar ar147 rfl rfl (by omega) (by omega)) ?_
        refine rg_q (q_load sz111 rfl (by rw [Nat.zero_add, Nat.mul_one]; exact anL_at (S := smpS t y) (by omega))) ?_
        refine rg_q (q_call en39 (.cons rfl .nil) rfl (fsample_p _ _ hre him)) ?_
        refine rg_q (q_call en64 (.cons rfl (.cons rfl .nil)) rfl (fplus_p _ _ _ _ (by omega) (by omega) (by omega) (by omega))) ?_
        refine rg_q (q_load_ref sz3 rfl rfl rfl) ?_
        refine rg_q (q_add rfl rfl xi) ?_
        refine rg_nil ?_
        refine late_set (c_store sz94 rfl rfl (by exact .inr ⟨_, rfl⟩) rfl rfl (by simp) rfl) ?_ ?_
        · refine fl_cons rfl rfl rfl (c_q (q_load_ref sz3 rfl rfl rfl)) ?_
          first | refine fl_cons rfl rfl rfl (c_q (q_add rfl rfl xi)) ?_
          exact fl_nil
        refine late_nil ?_
        refine aops_store sz3 rfl rfl (by exact .inl rfl) rfl rfl (by simp; done) rfl ?_
        refine aops_nil ?_
        refine .inl ⟨rfl, x + 1, rfl, ?_⟩
        exact le_round [] _ hw2 rfl ⟨(by rfl), (by (show Site.box _ = Site.box _; (rw [hst]; rfl))), (by (show Site.box _ = Site.box _; (rw [hst]; rfl))), trivial⟩ rfl
      ·
        (try simp only [nb, ne_eq] at hc8)
        rw [if_neg (by rw [hc8]; decide)] at hst
        refine awp_skip ?_
        refine .inl ⟨rfl, x + 1, rfl, ?_⟩
        exact le_round [] _ hw2 rfl ⟨(by rfl), (by (show Site.box _ = Site.box _; (rw [hst]; done))), (by (show Site.box _ = Site.box _; (rw [hst]; done))), trivial⟩ rfl
  ·
    intro x hI
    have hI2 : x = (pqL fs t.ne.toNat).length := hI
    subst hI2
    rw [List.take_length] at *
    change Awp _ _ _ _ _
    refine awp_seq ?_
    refine awp_regionM 4 [none, none, some 8, none] mixed (by kernel_rfl) ?_
    refine rgm_q rfl (q_load_refA (ds := [_, _]) sz94 rfl rfl rfl rfl) ?_
    refine rgm_q rfl (q_load_ref sz3 rfl rfl rfl) ?_
    refine rgm_m (k := 8) rfl rfl (by rfl) (m_store sz94 rfl rfl (by exact .inr ⟨_, rfl⟩) rfl rfl (by decide) rfl) ?_
    refine rgm_q rfl (q_a rfl) ?_
    refine rgm_nil (aops_nil ?_)
    change Awp _ _ _ _ _
    refine awp_ret ?_
    refine ⟨_, (.cons (.cellA rfl rfl sz94 rfl) xk1), ?_⟩
    rfl
  ·
    exact fun e x h => h.elim

def evL (t : Tsk) : List (Int × Int) := pqL (allL t.ne.toNat) t.ne.toNat
def vlI (t : Tsk) (c : Int) : (Int × Int) × Int := vlA t c [] (evL t)
theorem allL_ok {t : Tsk} (h : TskOk t) : (∀ x ∈ allL t.ne.toNat, 0 ≤ x ∧ x < t.ne) ∧ (allL t.ne.toNat).length ≤ 16 := by
  have h1 := h.n1
  have h2 := h.n2
  refine ⟨fun x hx => ?_, by rw [allL_len]; omega⟩
  have := allL_in hx
  omega
theorem valueAt_p (t : Tsk) (c : Int) (h : TskOk t) (hc : clE t.g c = 0) : PC Tryz.prog 13 [.agg (tskC t), .v (.int .i64 (c))] (.tup [cz (vlI t c).1.1 (vlI t c).1.2, .v (.int .i64 ((vlI t c).2)), .v (.int .i64 (0))]) := by
 have hn1 := h.n1
 have hn2 := h.n2
 obtain ⟨ha1, ha2⟩ := allL_ok h
 refine pc_of_awpN Tryz.func13 rfl Tryz.ntmps13 (rs := [.tmp 4, .tmp 5, .tmp 6]) Tryz.results13 (by simp) fun w0 hmine hrnd hpn => ?_
 refine awp_seq ?_
 refine xa 4 ?_
 refine rg_q (q_box rfl (by exact .inr ⟨_, rfl⟩)) ?_
 refine rg_q (q_a rfl) (rg_q (q_a rfl) (rg_q (q_a rfl) ?_))
 refine rs (xa 8 ?_)
 refine rg_q (q_loadA sz55 rfl rfl rfl) ?_
 refine rg_q (q_m rfl) ?_
 refine rg_q (q_call en32 (.cons rfl (.cons rfl .nil)) rfl ((by have h := openCell_p t c h; rw [hc] at h; exact h))) ?_
 refine rg_q (q_move (x := .d (.tup _)) rfl) (rg_q (q_extract rfl rfl) (rg_q (q_extract rfl rfl) (rg_q (q_assign (x := .d (.pt _ _)) rfl) (rg_q (q_a rfl) ?_))))
 refine rs (awp_seq ?_)
 refine xa 2 ?_
 refine rg_q (q_m rfl) (rg_q (q_neq rfl rfl) ?_)
 refine xc (awp_cond rfl (fun hc2 => ?_) (fun hc2 => ?_))
 ·
  simp at hc2
 ·
  (try simp only [nb, ne_eq] at hc2)
  refine awp_skip ?_
  change Awp _ _ _ _ _
  refine awp_seq ?_
  refine xa 8 ?_
  refine rg_q (q_move (x := .d (.pt _ _)) rfl) (rg_q (q_m rfl) (rg_q (q_move (x := .d (.pt _ _)) rfl) ?_))
  refine rg_q (q_call en34 (.cons rfl .nil) rfl (all_p t hn1 hn2)) ?_
  refine rg_q (q_call en33 (.cons rfl (.cons rfl (.cons rfl (.cons rfl .nil)))) rfl (value_p t c (allL t.ne.toNat) [] h hc ha1 (by omega))) ?_
  refine rg_q (q_move (x := .d (.tup _)) rfl) (rg_q (q_extract rfl rfl) (rg_q (q_extract rfl rfl) ?_))
  refine rg_nil ?_
  refine aops_allocD zr94 rfl sz94 rfl rfl (by exact .inr ⟨_, rfl⟩) rfl rfl ?_
  refine aops_q rfl (q_a rfl) ?_
  refine aops_nil (xq (xa 6 ?_))
  refine rg_q (q_loadA (ds := [_, _]) sz94 rfl rfl rfl) ?_
  refine rg_q (q_call en35 (.cons rfl .nil) rfl (fnumber_p _ _)) ?_
  refine rg_q (q_m rfl) (rg_q (q_a rfl) (rg_q (q_a rfl) (rg_q (q_a rfl) ?_)))
  refine xc (awp_ret ?_)
  refine ⟨_, xk3, ?_⟩
  rfl
end Go.Proofs.YtcdccdcbfbakfaaGreatDoor.Am.M
-- mini
set_option maxRecDepth 100000
namespace Go.Proofs.YtcdccdcbfbakfaaGreatDoor.Am.M
open Go

theorem mp115 : mpB Tryz.prog 115 4 = true := by kernel_rfl
def frR (n : Int) : List Int → List Int → Int × List Int
  | ks, [] => (0, ks)
  | ks, x :: l => if ¬ inR 0 x (n - 1) = true then (6, ks) else if x ∈ ks then (24, ks) else frR n (ks ++ [x]) l
theorem frR_at {n : Int} {ks l : List Int} {k : Nat} {x : Int} (h : l[k]? = some x) : frR n ks (l.drop k) = if ¬ inR 0 x (n - 1) = true then (6, ks) else if x ∈ ks then (24, ks) else frR n (ks ++ [x]) (l.drop (k + 1)) := by
  obtain ⟨hlt, rfl⟩ := List.getElem?_eq_some_iff.1 h
  rw [List.drop_eq_getElem_cons hlt]; rfl
def lC (l : List Int) : List D := [.sl 1 (l.map iC)]
def dlT (n : Int) : List Int → Int → List (List Int) → Int × (List Int × Int)
  | ks, b, [] => (0, (ks, b))
  | ks, b, l :: dl => if (frR n ks l).1 ≠ 0 then ((frR n ks l).1, (ks, b)) else dlT n (frR n ks l).2 (if 0 < l.length then b + 1 else b) dl
theorem dlT_at {n : Int} {ks : List Int} {b : Int} {dl : List (List Int)} {k : Nat} {l : List Int} (h : dl[k]? = some l) : dlT n ks b (dl.drop k) = if (frR n ks l).1 ≠ 0 then ((frR n ks l).1, (ks, b)) else dlT n (frR n ks l).2 (if 0 < l.length then b + 1 else b) (dl.drop (k + 1)) := by
  obtain ⟨hlt, rfl⟩ := List.getElem?_eq_some_iff.1 h
  rw [List.drop_eq_getElem_cons hlt]; rfl
def dealR (n : Int) (dl : List (List Int)) : Int × Int :=
  if ¬ inR 1 n 16 = true then (0, 2) else if 16 < dl.length then (0, 8)
  else if (dlT n [] 0 dl).1 ≠ 0 then (0, (dlT n [] 0 dl).1) else if ((dlT n [] 0 dl).2.1.length : Int) < n then (0, 14) else ((dlT n [] 0 dl).2.2, 0)
theorem firingsErr_p (n : Int) (l ks : List Int) (h1 : -1000000 ≤ n) (h2 : n ≤ 1000000) : PCS Tryz.prog 44 [.d (.v (.int .i64 (n))), .d (.sl 1 (l.map iC)), .mp 0] [.mp (mpE ks) ks.length] (.d (.v (.int .i64 ((frR n ks l).1)))) [.mp (mpE (frR n ks l).2) (frR n ks l).2.length] := by
 refine pcs_of_awp Tryz.func44 rfl Tryz.ntmps44 (rs := [.tmp 6]) Tryz.results44 (by simp) fun w0 => ?_
 refine awp_seq ?_
 refine xa 1 ?_
 refine rg_q (q_a rfl) ?_
 refine rs (awp_seq ?_)
 refine xa 3 ?_
 refine rg_q (q_move (x := .d (.sl _ _)) rfl) ?_
 refine rg_q (q_len isl26 rfl (by exact len_map _ _)) ?_
 refine rg_q (q_m rfl) ?_
 refine xc (awp_len (t := 9) rfl (fun hl9 => ?_))
 (try simp only [List.length_map] at hl9)
 refine awp_block ?_
 refine awp_loopH [6, 8, 11, 12, 13, 14, 15, 16, 17, 18, 19, 20, 21, 22, 23, 24, 25, 26, 27] [28] (α := Nat) (fun k => [(11, T.i (k : Int))]) (fun k => [(28, .mp (mpE (ks ++ l.take k)) (ks ++ l.take k).length)]) (fun k => k ≤ l.length ∧ frR n ks l = frR n (ks ++ l.take k) (l.drop k)) (fun k => l.length - k) 0 ⟨Nat.zero_le _, by simp⟩ ?_ ?_
 · exact xh (ms := [28]) (by repeat (exact Out.refl _)) ⟨(by rfl), trivial⟩ ⟨(by ((show Site.mp _ _ = Site.mp _ _; (simp; done)))), trivial⟩
 ·
  intro k ⟨hk, hh⟩
  refine awp_seq ?_
  refine xa 1 ?_
  refine rg_q (q_lss rfl rfl) ?_
  refine rs (awp_cond rfl (fun hc2 => ?_) (fun hc2 => ?_))
  ·
   (try simp only [nb, ne_eq] at hc2)
   have hlt : k < l.length := by omega
   obtain ⟨x, hx⟩ : ∃ x, l[k]? = some x := ⟨_, List.getElem?_eq_getElem hlt⟩
   rw [frR_at hx] at hh
   have hsn : ks ++ l.take (k + 1) = ks ++ l.take k ++ [x] := by rw [List.take_succ_eq_append_getElem hlt, (List.getElem?_eq_some_iff.1 hx).2, List.append_assoc]
   refine awp_skip ?_
   change Awp _ _ _ _ _
   refine awp_seq ?_
   refine awp_block ?_
   refine awp_seq ?_
   refine xa 3 ?_
   refine rg_q (q_indexAddr sl26 rfl rfl (by omega) (map_at (by omega) hx)) ?_
   refine rg_q (q_load sz3 rfl rfl) (rg_q (q_a rfl) ?_)
   refine rs (awp_block ?_)
   refine awp_seq ?_
   refine xa 6 ?_
   refine rg_q (q_m rfl) (rg_q (q_m rfl) ?_)
   refine rg_q (q_sub rfl rfl xi) ?_
   refine rg_q (q_call en43 (.cons rfl (.cons rfl (.cons rfl .nil))) rfl (fwithin_p _ _ _)) ?_
   refine rg_q (q_not rfl) (rg_q (q_a rfl) ?_)
   refine xc (awp_cond rfl (fun hc4 => ?_) (fun hc4 => ?_))
   ·
    (try simp only [nb, ne_eq] at hc4)
    have hz : frR n ks l = (6, ks ++ l.take k) := by rw [hh, if_pos (by rw [hc4]; decide)]
    refine awp_seq ?_
    refine xa 1 ?_
    refine rg_q (q_a rfl) ?_
    refine xc (awp_ret ?_)
    rw [hz]
    exact end_mk (.inl rfl) [28] (.tmp rfl) (by repeat (first | exact trivial | refine ⟨(by rfl), ?_⟩)) rfl
   ·
    (try simp only [nb, ne_eq] at hc4)
    rw [if_neg (fun q => q hc4)] at hh
    refine awp_seq ?_
    refine xa 4 ?_
    refine rg_q (q_move (x := .own _ _ _ _) rfl) (rg_q (q_m rfl) ?_)
    refine rg_q (q_lookmap mp115 zr4 rfl rfl rfl) ?_
    refine rg_q (q_a rfl) ?_
    refine xc (awp_cond rfl (fun hc6 => ?_) (fun hc6 => ?_))
    ·
     (try simp only [nb, ne_eq] at hc6)
     have hz : frR n ks l = (24, ks ++ l.take k) := by rw [hh, if_pos hc6]
     refine awp_seq ?_
     refine xa 1 ?_
     refine rg_q (q_a rfl) ?_
     refine xc (awp_ret ?_)
     rw [hz]
     exact end_mk (.inl rfl) [28] (.tmp rfl) (by repeat (first | exact trivial | refine ⟨(by rfl), ?_⟩)) rfl
    ·
     (try simp only [nb, ne_eq] at hc6)
     rw [if_neg hc6] at hh
     refine awp_skip ?_
     change Awp _ _ _ _ _
     refine xa 2 ?_
     refine rg_q (q_move (x := .own _ _ _ _) rfl) (rg_q (q_m rfl) ?_)
     refine rg_nil ?_
     refine aops_mapUpdate mp115 rfl rfl rfl rfl hc6 ?_
     refine aops_nil ?_
     change Awp _ _ _ _ _
     refine xa 2 ?_
     refine rg_q (q_add rfl rfl xi) ?_
     refine rg_q (q_m rfl) ?_
     refine rn ?_
     refine ⟨k + 1, ⟨by omega, by rw [hh, hsn]⟩, by omega, ?_⟩
     exact xh (ms := [28]) (by repeat (first | exact Out.head rfl rfl | (refine Out.put ?_ rfl) | (refine Out.site ?_ rfl))) ⟨(by rfl), trivial⟩ ⟨(by ((show Site.mp _ _ = Site.mp _ _; (rw [hsn]; done)))), trivial⟩
  ·
   (try simp only [nb, ne_eq] at hc2)
   have hkn : k = l.length := by omega
   have hz : frR n ks l = (0, ks ++ l.take k) := by rw [hh, hkn, List.drop_length]; rfl
   refine awp_exit ?_
   change Awp _ _ _ _ _
   refine awp_seq ?_
   refine xa 1 ?_
   refine rg_q (q_a rfl) ?_
   refine xc (awp_ret ?_)
   rw [hz]
   exact end_mk (.inl rfl) [28] (.tmp rfl) (by repeat (first | exact trivial | refine ⟨(by rfl), ?_⟩)) rfl
theorem checkDeal_p (n : Int) (dl : List (List Int)) : PC Tryz.prog 17 [.v (.int .i64 (n)), .sl 1 (dl.map lC)] (.tup [.v (.int .i64 ((dealR n dl).1)), .v (.int .i64 ((dealR n dl).2))]) := by
 refine pc_of_awpN Tryz.func17 rfl Tryz.ntmps17 (rs := [.tmp 4, .tmp 5]) Tryz.results17 (by simp) fun w0 hmine hrnd hpn => ?_
 refine awp_seq ?_
 refine xa 2 ?_
 refine rg_q (q_a rfl) (rg_q (q_a rfl) ?_)
 refine rs (awp_block ?_)
 refine awp_seq ?_
 refine xa 4 ?_
 refine rg_q (q_m rfl) ?_
 refine rg_q (q_call en43 (.cons rfl (.cons rfl (.cons rfl .nil))) rfl (fwithin_p _ _ _)) ?_
 refine rg_q (q_not rfl) (rg_q (q_a rfl) ?_)
 refine xc (awp_cond rfl (fun hc1 => ?_) (fun hc1 => ?_))
 ·
  (try simp only [nb, ne_eq] at hc1)
  have hz : dealR n dl = (0, 2) := by unfold dealR; rw [if_pos (by rw [hc1]; decide)]
  refine awp_seq ?_
  refine xa 2 ?_
  refine rg_q (q_a rfl) (rg_q (q_a rfl) ?_)
  refine xc (awp_ret ?_)
  refine ⟨_, xk2, ?_⟩
  rw [hz]; rfl
 ·
  (try simp only [nb, ne_eq] at hc1)
  have hn : 1 ≤ n ∧ n ≤ 16 := inR_iff.1 hc1
  refine awp_seq ?_
  refine xa 4 ?_
  refine rg_q (q_move (x := .d (.sl _ _)) rfl) ?_
  refine rg_q (q_len isl66 rfl (by exact len_map _ _)) ?_
  refine rg_q (q_gtr rfl rfl) (rg_q (q_a rfl) ?_)
  refine xc (awp_len (t := 16) rfl (fun hl16 => ?_))
  (try simp only [List.length_map] at hl16)
  refine awp_cond rfl (fun hc3 => ?_) (fun hc3 => ?_)
  ·
   (try simp only [nb, ne_eq] at hc3)
   have hz : dealR n dl = (0, 8) := by unfold dealR; rw [if_neg (fun q => q hc1), if_pos (by omega)]
   refine awp_seq ?_
   refine xa 2 ?_
   refine rg_q (q_a rfl) (rg_q (q_a rfl) ?_)
   refine xc (awp_ret ?_)
   refine ⟨_, xk2, ?_⟩
   rw [hz]; rfl
  ·
   (try simp only [nb, ne_eq] at hc3)
   have hz0 : dealR n dl = if (dlT n [] 0 dl).1 ≠ 0 then (0, (dlT n [] 0 dl).1) else if ((dlT n [] 0 dl).2.1.length : Int) < n then (0, 14) else ((dlT n [] 0 dl).2.2, 0) := by unfold dealR; rw [if_neg (fun q => q hc1), if_neg (by omega)]
   refine awp_skip ?_
   change Awp _ _ _ _ _
   refine awp_seq ?_
   refine xa 0 ?_
   refine rg_nil ?_
   refine aops_makeMap rfl rfl ?_
   refine aops_q rfl (q_assign (x := .own _ _ _ _) rfl) ?_
   refine aops_nil (xq (xa 1 ?_))
   refine rg_q (q_a rfl) ?_
   refine rs (awp_seq ?_)
   refine xa 3 ?_
   refine rg_q (q_move (x := .d (.sl _ _)) rfl) ?_
   refine rg_q (q_len isl66 rfl (by exact len_map _ _)) ?_
   refine rg_q (q_m rfl) ?_
   refine xc (awp_len (t := 20) rfl (fun hl20 => ?_))
   (try simp only [List.length_map] at hl20)
   refine awp_block ?_
   refine awp_loopH [4, 5, 7, 9, 10, 22, 23, 24, 25, 26, 27, 28, 29, 30, 31, 32, 33, 34, 35, 36, 37, 38] [19] (α := Nat × List Int × Int) (fun x => [(22, T.i (x.1 : Int)), (7, .d (.v (.int .i64 (x.2.2))))]) (fun x => [(19, .mp (mpE x.2.1) x.2.1.length)]) (fun x => x.1 ≤ dl.length ∧ dlT n [] 0 dl = dlT n x.2.1 x.2.2 (dl.drop x.1) ∧ 0 ≤ x.2.2 ∧ x.2.2 ≤ (x.1 : Int)) (fun x => dl.length - x.1) (0, [], 0) ⟨Nat.zero_le _, rfl, by decide, by decide⟩ ?_ ?_
   · exact xh (ms := [19]) (by repeat (exact Out.refl _)) ⟨(by rfl), (by rfl), trivial⟩ ⟨(by rfl), trivial⟩
   ·
    intro x ⟨hk, hh, hb1, hb2⟩
    refine awp_seq ?_
    refine xa 1 ?_
    refine rg_q (q_lss rfl rfl) ?_
    refine rs (awp_cond rfl (fun hc8 => ?_) (fun hc8 => ?_))
    ·
     (try simp only [nb, ne_eq] at hc8)
     have hlt : x.1 < dl.length := by omega
     obtain ⟨l, hx⟩ : ∃ l, dl[x.1]? = some l := ⟨_, List.getElem?_eq_getElem hlt⟩
     rw [dlT_at hx] at hh
     refine awp_skip ?_
     change Awp _ _ _ _ _
     refine awp_seq ?_
     refine awp_block ?_
     refine awp_seq ?_
     refine xa 3 ?_
     refine rg_q (q_indexAddr sl66 rfl rfl (by omega) (map_at (by omega) hx)) ?_
     refine rg_q (q_load sz26 rfl rfl) (rg_q (q_assign (x := .d (.sl _ _)) rfl) ?_)
     refine rs (awp_seq ?_)
     refine xa 3 ?_
     refine rg_q (q_m rfl) (rg_q (q_move (x := .d (.sl _ _)) rfl) (rg_q (q_move (x := .own _ _ _ _) rfl) ?_))
     refine rg_nil ?_
     refine aops_callL [19] [] en44 (firingsErr_p n l x.2.1 (by omega) (by omega)) (.cons rfl (.cons rfl (.cons rfl .nil))) rfl rfl rfl (by repeat (first | exact trivial | refine ⟨rfl, ?_⟩)) (by repeat (exact trivial)) rfl ?_
     refine aops_q rfl (q_a rfl) ?_
     refine aops_nil (xq (xa 2 ?_))
     refine rg_q (q_m rfl) (rg_q (q_neq rfl rfl) ?_)
     refine xc (awp_cond rfl (fun hc11 => ?_) (fun hc11 => ?_))
     ·
      (try simp only [nb, ne_eq] at hc11)
      have hz : dealR n dl = (0, (frR n x.2.1 l).1) := by rw [hz0, hh, if_pos hc11, if_pos hc11]
      refine awp_seq ?_
      refine xa 3 ?_
      refine rg_q (q_m rfl) (rg_q (q_a rfl) (rg_q (q_a rfl) ?_))
      refine xc (awp_ret ?_)
      refine ⟨_, xk2, ?_⟩
      rw [hz]; rfl
     ·
      (try simp only [nb, ne_eq] at hc11)
      rw [if_neg (fun q => q hc11)] at hh
      refine awp_skip ?_
      change Awp _ _ _ _ _
      refine awp_seq ?_
      refine xa 3 ?_
      refine rg_q (q_move (x := .d (.sl _ _)) rfl) ?_
      refine rg_q (q_len isl26 rfl (by exact len_map _ _)) ?_
      refine rg_q (q_gtr rfl rfl) ?_
      refine xc (awp_len (t := 33) rfl (fun hl33 => ?_))
      (try simp only [List.length_map] at hl33)
      refine awp_cond rfl (fun hc13 => ?_) (fun hc13 => ?_)
      ·
       (try simp only [nb, ne_eq] at hc13)
       rw [if_pos (by omega)] at hh
       refine xa 3 ?_
       refine rg_q (q_m rfl) ?_
       refine rg_q (q_add rfl rfl xi) ?_
       refine rg_q (q_a rfl) ?_
       refine rn ?_
       change Awp _ _ _ _ _
       refine xa 2 ?_
       refine rg_q (q_add rfl rfl xi) ?_
       refine rg_q (q_m rfl) ?_
       refine rn ?_
       refine ⟨(x.1 + 1, (frR n x.2.1 l).2, x.2.2 + 1), ⟨by show x.1 + 1 ≤ _; omega, hh, by show 0 ≤ x.2.2 + 1; omega, by show x.2.2 + 1 ≤ ((x.1 + 1 : Nat) : Int); omega⟩, by show dl.length - (x.1 + 1) < _; omega, ?_⟩
       exact xh (ms := [19]) (by repeat (first | exact Out.head rfl rfl | (refine Out.put ?_ rfl) | (refine Out.called ?_ rfl rfl))) ⟨(by rfl), (by rfl), trivial⟩ ⟨(by rfl), trivial⟩
      ·
       (try simp only [nb, ne_eq] at hc13)
       rw [if_neg (by omega)] at hh
       refine awp_skip ?_
       change Awp _ _ _ _ _
       refine xa 2 ?_
       refine rg_q (q_add rfl rfl xi) ?_
       refine rg_q (q_m rfl) ?_
       refine rn ?_
       refine ⟨(x.1 + 1, (frR n x.2.1 l).2, x.2.2), ⟨by show x.1 + 1 ≤ _; omega, hh, by show 0 ≤ x.2.2; omega, by show x.2.2 ≤ ((x.1 + 1 : Nat) : Int); omega⟩, by show dl.length - (x.1 + 1) < _; omega, ?_⟩
       exact xh (ms := [19]) (by repeat (first | exact Out.head rfl rfl | (refine Out.put ?_ rfl) | (refine Out.called ?_ rfl rfl))) ⟨(by rfl), (by rfl), trivial⟩ ⟨(by rfl), trivial⟩
    ·
     (try simp only [nb, ne_eq] at hc8)
     have hkn : x.1 = dl.length := by omega
     rw [hkn, List.drop_length, show dlT n x.2.1 x.2.2 [] = (0, (x.2.1, x.2.2)) from rfl] at hh
     rw [hh, if_neg (show ¬ ((0 : Int), (x.2.1, x.2.2)).1 ≠ 0 from fun q => q rfl)] at hz0
     refine awp_exit ?_
     change Awp _ _ _ _ _
     refine awp_seq ?_
     refine awp_seq ?_
     refine xa 4 ?_
     refine rg_q (q_move (x := .own _ _ _ _) rfl) ?_
     refine rg_q (q_lenmap mp115 rfl rfl rfl) ?_
     refine rg_q (q_m rfl) (rg_q (q_lss rfl rfl) ?_)
     refine xc (awp_cond rfl (fun hc16 => ?_) (fun hc16 => ?_))
     ·
      (try simp only [nb, ne_eq] at hc16)
      have hz : dealR n dl = (0, 14) := by rw [hz0, if_pos (show (((0 : Int), (x.2.1, x.2.2)).2.1.length : Int) < n from hc16)]
      refine awp_seq ?_
      refine xa 2 ?_
      refine rg_q (q_a rfl) (rg_q (q_a rfl) ?_)
      refine xc (awp_ret ?_)
      refine ⟨_, xk2, ?_⟩
      rw [hz]; rfl
     ·
      (try simp only [nb, ne_eq] at hc16)
      have hz : dealR n dl = (x.2.2, 0) := by rw [hz0, if_neg (show ¬ (((0 : Int), (x.2.1, x.2.2)).2.1.length : Int) < n from by show ¬ (x.2.1.length : Int) < n; omega)]
      refine awp_skip ?_
      change Awp _ _ _ _ _
      refine awp_seq ?_
      refine xa 3 ?_
      refine rg_q (q_m rfl) (rg_q (q_a rfl) (rg_q (q_a rfl) ?_))
      refine xc (awp_ret ?_)
      refine ⟨_, xk2, ?_⟩
      rw [hz]; rfl
end Go.Proofs.YtcdccdcbfbakfaaGreatDoor.Am.M
-- mini
set_option maxRecDepth 100000
namespace Go.Proofs.YtcdccdcbfbakfaaGreatDoor.Am.M
open Go

def pwB (n : Int) : Bool := !inR 0 n 1000000000000000
def fdC (g : Grd) (pw : List Int) : List D := grdC g ++ [.sl 1 (pw.map iC)]
def ofE (g : Grd) (pw : List Int) : Int := if ckG g ≠ 0 then ckG g else if (pw.length : Int) ≠ g.co * g.ro then 10 else whenI (pw.any pwB) 2
def z6 : List D := [.v (.int .i64 0), .v (.int .i64 0), .v (.int .i64 0), .v (.int .i64 0), .v (.int .i64 0), .v (.slice none 0 0)]
def ofD (g : Grd) (pw : List Int) : List D := if ckG g ≠ 0 then z6 else if (pw.length : Int) ≠ g.co * g.ro then z6 else fdC g pw
theorem openField1_p (n : Int) : PC Tryz.prog 50 [.v (.int .i64 (n))] (.v (.bool (pwB n))) := by
 refine pc_of_awp Tryz.func50 rfl Tryz.ntmps50 (rs := [.tmp 2]) Tryz.results50 (by simp) fun w0 => ?_
 refine awp_seq ?_
 refine xa 1 ?_
 refine rg_q (q_a rfl) ?_
 refine rs (xa 4 ?_)
 refine rg_q (q_m rfl) ?_
 refine rg_q (q_call en43 (.cons rfl (.cons rfl (.cons rfl .nil))) rfl (fwithin_p _ _ _)) ?_
 refine rg_q (q_not rfl) (rg_q (q_a rfl) ?_)
 refine xc (awp_ret ?_)
 refine ⟨_, xk1, ?_⟩
 rfl
theorem openField_p (g : Grd) (pw : List Int) : PC Tryz.prog 20 [.agg (grdC g), .sl 1 (pw.map iC)] (.tup [.agg (ofD g pw), .v (.int .i64 (ofE g pw))]) := by
 refine pc_of_awpN Tryz.func20 rfl Tryz.ntmps20 (rs := [.cell 4 72, .tmp 5]) Tryz.results20 (by simp) fun w0 hmine hrnd hpn => ?_
 refine awp_seq ?_
 refine xa 1 ?_
 refine rg_q (q_box rfl (by exact .inr ⟨_, rfl⟩)) ?_
 refine rg_nil ?_
 refine aops_alloc zr72 rfl rfl rfl ?_
 refine aops_q rfl (q_a rfl) ?_
 refine aops_nil (xq (awp_seq ?_))
 refine xa 3 ?_
 refine rg_q (q_loadA (ds := [_, _, _, _, _]) sz25 rfl rfl rfl) ?_
 refine rg_q (q_call en46 (.cons rfl .nil) rfl (fcheckGrid_p _)) ?_
 refine rg_q (q_a rfl) ?_
 refine rs (xa 2 ?_)
 refine rg_q (q_m rfl) (rg_q (q_neq rfl rfl) ?_)
 refine xc (awp_cond rfl (fun hc2 => ?_) (fun hc2 => ?_))
 ·
  (try simp only [nb, ne_eq] at hc2)
  have hz1 : ofE g pw = ckG g := by unfold ofE; rw [if_pos hc2]
  have hz2 : ofD g pw = z6 := by unfold ofD; rw [if_pos hc2]
  refine awp_seq ?_
  refine xa 2 ?_
  refine rg_q (q_build (cs := [_, _, _, _, _, _]) pl72 zr72 rfl .nil trivial rfl) ?_
  refine rg_q (q_m rfl) ?_
  refine rg_nil ?_
  refine aops_store sz72 rfl rfl (by exact .inr ⟨_, rfl⟩) rfl rfl (by decide) rfl ?_
  refine aops_q rfl (q_a rfl) ?_
  refine aops_nil ?_
  change Awp _ _ _ _ _
  refine awp_ret ?_
  refine ⟨_, (.cons (.cellA rfl rfl sz72 rfl) xk1), ?_⟩
  rw [hz1, hz2]; rfl
 ·
  (try simp only [nb, ne_eq] at hc2)
  have hg0 : ckG g = 0 := hc2
  obtain ⟨hg, _, _⟩ := ckG_ok hg0
  have hci := cells_in hg
  refine awp_skip ?_
  change Awp _ _ _ _ _
  refine awp_seq ?_
  refine xa 4 ?_
  refine rg_q (q_loadA (ds := [_, _, _, _, _]) sz25 rfl rfl rfl) ?_
  refine rg_q (q_build (cs := [_, _, _, _, _]) pl70 zr70 rfl (.cons rfl (by exact .inr ⟨_, rfl⟩) .nil) ⟨⟨rfl, by decide⟩, trivial⟩ rfl) ?_
  refine rg_q (q_move (x := .d (.sl _ _)) rfl) ?_
  refine rg_q (q_build (cs := [_, _, _, _, _, _]) pl72 zr72 rfl (.cons rfl (by exact .inr ⟨_, rfl⟩) (.cons rfl (by exact .inl rfl) .nil)) ⟨⟨rfl, by decide⟩, ⟨rfl, by decide⟩, trivial⟩ rfl) ?_
  refine rg_nil ?_
  refine aops_allocD zr72 rfl sz72 rfl rfl (by exact .inr ⟨_, rfl⟩) rfl rfl ?_
  refine aops_nil (xq (awp_seq ?_))
  refine xa 6 ?_
  refine rg_q (q_move (x := .d (.sl _ _)) rfl) ?_
  refine rg_q (q_len isl26 rfl (by exact len_map _ _)) ?_
  refine rg_q (q_fieldAddr fld72_0 rfl) ?_
  refine rg_q (q_loadA (ds := [_, _, _, _, _]) sz70 rfl rfl rfl) ?_
  refine rg_q (q_call en47 (.cons rfl .nil) rfl (fcells_p _ (by assumption))) ?_
  refine rg_q (q_neq rfl rfl) ?_
  refine xc (awp_len (t := 18) rfl (fun hl18 => ?_))
  (try simp only [List.length_map] at hl18)
  refine awp_cond rfl (fun hc5 => ?_) (fun hc5 => ?_)
  ·
   (try simp only [nb, ne_eq] at hc5)
   have hz1 : ofE g pw = 10 := by unfold ofE; rw [if_neg (fun q => q hg0), if_pos (by simpa using hc5)]
   have hz2 : ofD g pw = z6 := by unfold ofD; rw [if_neg (fun q => q hg0), if_pos (by simpa using hc5)]
   refine awp_seq ?_
   refine xa 1 ?_
   refine rg_q (q_build (cs := [_, _, _, _, _, _]) pl72 zr72 rfl .nil trivial rfl) ?_
   refine rg_nil ?_
   refine aops_store sz72 rfl rfl (by exact .inr ⟨_, rfl⟩) rfl rfl (by decide) rfl ?_
   refine aops_q rfl (q_a rfl) ?_
   refine aops_nil ?_
   change Awp _ _ _ _ _
   refine awp_ret ?_
   refine ⟨_, (.cons (.cellA rfl rfl sz72 rfl) xk1), ?_⟩
   rw [hz1, hz2]; rfl
  ·
   (try simp only [nb, ne_eq] at hc5)
   have hz1 : ofE g pw = whenI (pw.any pwB) 2 := by unfold ofE; rw [if_neg (fun q => q hg0), if_neg (by simpa using hc5)]
   have hz2 : ofD g pw = fdC g pw := by unfold ofD; rw [if_neg (fun q => q hg0), if_neg (by simpa using hc5)]
   refine awp_skip ?_
   change Awp _ _ _ _ _
   refine awp_seq ?_
   refine awp_regionM 6 [none, none, none, none, some 4, none] mixed (by kernel_rfl) ?_
   refine rgm_q rfl (q_loadA (ds := [_, _, _, _, _, _]) sz72 rfl rfl rfl) ?_
   refine rgm_q rfl (q_move (x := .d (.sl _ _)) rfl) ?_
   refine rgm_q rfl (q_call en49 (.cons rfl (.cons rfl .nil)) rfl (containsInt_p pwB 50 [] en50 pw (fun a _ => openField1_p a))) ?_
   refine rgm_q rfl (q_call en48 (.cons rfl (.cons rfl .nil)) rfl (fwhen_p _ _)) ?_
   refine rgm_m (k := 4) rfl rfl (by rfl) (m_store sz72 rfl rfl (by exact .inr ⟨_, rfl⟩) rfl rfl (by decide) rfl) ?_
   refine rgm_q rfl (q_a rfl) ?_
   refine rgm_nil (aops_nil ?_)
   change Awp _ _ _ _ _
   refine awp_ret ?_
   refine ⟨_, (.cons (.cellA rfl rfl sz72 rfl) xk1), ?_⟩
   rw [hz1, hz2]; rfl

structure FldOk (g : Grd) (pw : List Int) : Prop where
  gr : GrdOk g
  len : (pw.length : Int) = g.co * g.ro
  pw : ∀ p ∈ pw, 0 ≤ p ∧ p ≤ 1000000000000000
theorem of_ok {g : Grd} {pw : List Int} (h : ofE g pw = 0) : FldOk g pw ∧ ofD g pw = fdC g pw := by
  unfold ofE at h
  by_cases h1 : ckG g ≠ 0
  · rw [if_pos h1] at h; exact absurd h h1
  rw [if_neg h1] at h
  by_cases h2 : (pw.length : Int) ≠ g.co * g.ro
  · rw [if_pos h2] at h; cases h
  rw [if_neg h2, when_zero (by decide)] at h
  refine ⟨⟨(ckG_ok (Decidable.not_not.1 h1)).1, Decidable.not_not.1 h2, fun p hp => ?_⟩, ?_⟩
  · have := List.any_eq_false.1 h p hp
    unfold pwB at this
    simp [inR] at this
    omega
  · unfold ofD
    rw [if_neg h1, if_neg h2]
theorem around_p (g : Grd) (pw : List Int) (c : Int) : PC Tryz.prog 69 [.agg (fdC g pw), .v (.int .i64 (c))] (.fn (.func 91) [.pt [.v (.int .i64 (c))] 0, .pt (fdC g pw) 0]) := by
 refine pc_of_awp Tryz.func69 rfl Tryz.ntmps69 (rs := [.tmp 4]) Tryz.results69 (by simp) fun w0 => ?_
 refine awp_seq ?_
 refine xa 3 ?_
 refine rg_q (q_box rfl (by exact .inr ⟨_, rfl⟩)) ?_
 refine rg_q (q_box rfl (by exact .inl rfl)) ?_
 refine rg_q (q_assign (x := .d (.v .nilFunc)) rfl) ?_
 refine rs (xa 2 ?_)
 refine rg_q (q_makeFunc (.cons rfl (.cons rfl .nil))) ?_
 refine rg_q (q_assign (x := .d (.fn _ _)) rfl) ?_
 refine xc (awp_ret ?_)
 refine ⟨_, xk1, ?_⟩
 rfl

def arR (g : Grd) (c r : Int) (j : Nat) : List Int := ((List.range j).map fun q : Nat => r * g.co + (max 0 (c.tmod g.co - 1) + (q : Int))).filter fun n => decide (n ≠ c)
def arN (g : Grd) (c : Int) : Nat := (min (g.co - 1) (c.tmod g.co + 1) - max 0 (c.tmod g.co - 1) + 1).toNat
def arM (g : Grd) (c : Int) : Nat := (min (g.ro - 1) (c.tdiv g.co + 1) - max 0 (c.tdiv g.co - 1) + 1).toNat
def arF (g : Grd) (c : Int) (i : Nat) : List Int := (List.range i).flatMap fun p : Nat => arR g c (max 0 (c.tdiv g.co - 1) + (p : Int)) (arN g c)
theorem arR_succ {g : Grd} {c r : Int} {j : Nat} : arR g c r (j + 1) = arR g c r j ++ (if decide (r * g.co + (max 0 (c.tmod g.co - 1) + (j : Int)) ≠ c) = true then [r * g.co + (max 0 (c.tmod g.co - 1) + (j : Int))] else []) := by
  unfold arR
  rw [List.range_succ, List.map_append, List.filter_append]
  congr 1
  by_cases h : decide (r * g.co + (max 0 (c.tmod g.co - 1) + (j : Int)) ≠ c) = true
  · rw [if_pos h, List.map_singleton]; simp at h; simp [h]
  · rw [if_neg h, List.map_singleton]; simp at h; simp [h]
theorem arF_succ {g : Grd} {c : Int} {i : Nat} : arF g c (i + 1) = arF g c i ++ arR g c (max 0 (c.tdiv g.co - 1) + (i : Int)) (arN g c) := by unfold arF; rw [List.range_succ, List.flatMap_append]; simp
theorem arR_pre {g : Grd} {c r : Int} {j : Nat} : ∀ {n : Nat}, j ≤ n → arR g c r j <+: arR g c r n
  | 0, h => by have : j = 0 := by omega
               subst this; exact List.prefix_rfl
  | n + 1, h => by
    by_cases e : j = n + 1
    · subst e; exact List.prefix_rfl
    · rw [arR_succ]; exact (arR_pre (show j ≤ n by omega)).trans (List.prefix_append _ _)
theorem arF_pre {g : Grd} {c : Int} {i : Nat} : ∀ {m : Nat}, i ≤ m → arF g c i <+: arF g c m
  | 0, h => by have : i = 0 := by omega
               subst this; exact List.prefix_rfl
  | m + 1, h => by
    by_cases e : i = m + 1
    · subst e; exact List.prefix_rfl
    · rw [arF_succ]; exact (arF_pre (show i ≤ m by omega)).trans (List.prefix_append _ _)

theorem ar_pre {g : Grd} {c : Int} {i j : Nat} (hi : i < arM g c) (hj : j < arN g c) (hb : decide ((max 0 (c.tdiv g.co - 1) + (i : Int)) * g.co + (max 0 (c.tmod g.co - 1) + (j : Int)) ≠ c) = true) :
    arF g c i ++ arR g c (max 0 (c.tdiv g.co - 1) + (i : Int)) j ++ [(max 0 (c.tdiv g.co - 1) + (i : Int)) * g.co + (max 0 (c.tmod g.co - 1) + (j : Int))] <+: arF g c (arM g c) := by
  have e : arR g c (max 0 (c.tdiv g.co - 1) + (i : Int)) (j + 1) = arR g c (max 0 (c.tdiv g.co - 1) + (i : Int)) j ++ [(max 0 (c.tdiv g.co - 1) + (i : Int)) * g.co + (max 0 (c.tmod g.co - 1) + (j : Int))] := by rw [arR_succ, if_pos hb]
  rw [List.append_assoc, ← e]
  obtain ⟨t, ht⟩ := arR_pre (g := g) (c := c) (r := max 0 (c.tdiv g.co - 1) + (i : Int)) (show j + 1 ≤ arN g c by omega)
  refine List.IsPrefix.trans ?_ (arF_pre (show i + 1 ≤ arM g c by omega))
  rw [arF_succ, ← ht, ← List.append_assoc]
  exact List.prefix_append _ _
def encA (n : Int) : List D := [.v (.int .i64 n)]
theorem ar_bnd {g : Grd} (hg : GrdOk g) {c : Int} (h1 : 0 ≤ c) {i : Nat} (hi : (max 0 (c.tdiv g.co - 1) + (i : Int)) ≤ g.ro - 1) : 0 ≤ (max 0 (c.tdiv g.co - 1) + (i : Int)) * g.co ∧ (max 0 (c.tdiv g.co - 1) + (i : Int)) * g.co ≤ 1600 := by
  have c1 := hg.c1
  have c2 := hg.c2
  have r2 := hg.r2
  have h := mulb (a := max 0 (c.tdiv g.co - 1) + (i : Int)) (b := g.co) (A := 40) (B := 40) (by omega) (by omega) (by omega) (by omega)
  have := Int.mul_nonneg (show 0 ≤ max 0 (c.tdiv g.co - 1) + (i : Int) by omega) (show 0 ≤ g.co by omega)
  omega
theorem around_i (g : Grd) (pw : List Int) (ce : Int) (h : FldOk g pw) (h1 : 0 ≤ ce) (h2 : ce ≤ 10000) : PI Tryz.prog 91 [] [.pt [.v (.int .i64 (ce))] 0, .pt (fdC g pw) 0] (encA) (arF g ce (arM g ce)) true := by
  have hg := h.gr
  have hgg := hg
  obtain ⟨x1, x2, z1, z2, c1, c2, r1, r2, s1, s2⟩ := hgg
  obtain ⟨m1, m2⟩ := tmodP_in h1 c1
  obtain ⟨d1, d2⟩ := tdivP_in h1 c1
  have hM : arM g ce = (min (g.ro - 1) (ce.tdiv g.co + 1) - max 0 (ce.tdiv g.co - 1) + 1).toNat := rfl
  have hN : arN g ce = (min (g.co - 1) (ce.tmod g.co + 1) - max 0 (ce.tmod g.co - 1) + 1).toNat := rfl
  refine pi_of_iwp Tryz.func91 rfl Tryz.ntmps91 rfl rfl fun J c l0 hJ hy hdat hfin => ?_
  refine iwp_seq ?_
  apply iwp_reg hJ
  ·
    intro c1 hmine hrnd
    refine xa 14 ?_
    refine rg_q (q_load sz3 rfl rfl) (rg_q (q_fieldAddr fld72_0 rfl) (rg_q (q_fieldAddr fld70_0 rfl) (rg_q (q_fieldAddr fld25_1 rfl) (rg_q (q_load sz3 rfl rfl) ?_))))
    refine rg_q (q_rem rfl rfl (by omega)) ?_
    refine rg_q (q_load sz3 rfl rfl) (rg_q (q_fieldAddr fld72_0 rfl) (rg_q (q_fieldAddr fld70_0 rfl) (rg_q (q_fieldAddr fld25_1 rfl) (rg_q (q_load sz3 rfl rfl) ?_))))
    refine rg_q (q_quo rfl rfl (by omega) xi) ?_
    refine rg_q (q_a rfl) (rg_q (q_a rfl) ?_)
    refine rn ?_
    exact ⟨rfl, rfl⟩
  change Iwp _ _ _ _ _ _ _
  refine iwp_seq ?_
  apply iwp_reg hJ
  ·
    intro c1 hmine hrnd
    refine xa 4 ?_
    refine rg_q (q_m rfl) ?_
    refine rg_q (q_sub rfl rfl xi) ?_
    refine rg_q (q_max rfl rfl) ?_
    refine rg_q (q_a rfl) ?_
    refine rn ?_
    exact ⟨rfl, rfl⟩
  change Iwp _ _ _ _ _ _ _
  refine iwp_block ?_
  refine iwp_loopH [6, 7, 8, 24, 25, 26, 27, 28, 29, 30, 31, 32, 33, 34, 35, 36, 37, 38, 39, 40, 41, 42, 43, 44, 45, 46, 47, 48, 49, 50, 51, 52, 53, 54, 55, 56, 57, 58, 59, 60, 61, 62, 63, 64, 65, 66, 67] [] (β := Nat) (fun i => [(6, T.i (max 0 (ce.tdiv g.co - 1) + (i : Int)))]) (fun i => []) (fun i => (true, arF g ce i)) (fun i => i ≤ arM g ce) (fun i => arM g ce - i) 0 (Nat.zero_le _) rfl (fun c1 => ?_) ?_
  · exact xh (ms := []) (by repeat (exact Out.refl _)) ⟨(by (show T.i _ = T.i _; congr 1; omega)), trivial⟩ trivial
  ·
    intro i hi
    refine iwp_seq ?_
    refine iwp_seq ?_
    apply iwp_reg hJ
    ·
      intro c1 hmine hrnd
      refine xa 10 ?_
      refine rg_q (q_m rfl) (rg_q (q_fieldAddr fld72_0 rfl) (rg_q (q_fieldAddr fld70_0 rfl) (rg_q (q_fieldAddr fld25_2 rfl) (rg_q (q_load sz3 rfl rfl) ?_))))
      refine rg_q (q_sub rfl rfl xi) ?_
      refine rg_q (q_m rfl) ?_
      refine rg_q (q_add rfl rfl xi) ?_
      refine rg_q (q_min rfl rfl) ?_
      refine rg_q (q_leq rfl rfl) ?_
      refine rn ?_
      exact ⟨rfl, rfl⟩
    change Iwp _ _ _ _ _ _ _
    refine iwp_cond rfl (fun hc2 => ?_) (fun hc2 => ?_)
    ·
      (try simp only [nb, ne_eq] at hc2)
      have hlt : i < arM g ce := by omega
      obtain ⟨hp1, hp2⟩ := ar_bnd hg h1 (i := i) (by omega)
      refine iwp_skip ?_
      change Iwp _ _ _ _ _ _ _
      refine iwp_seq ?_
      refine iwp_block ?_
      refine iwp_seq ?_
      apply iwp_reg hJ
      ·
        intro c1 hmine hrnd
        refine xa 4 ?_
        refine rg_q (q_m rfl) ?_
        refine rg_q (q_sub rfl rfl xi) ?_
        refine rg_q (q_max rfl rfl) ?_
        refine rg_q (q_a rfl) ?_
        refine rn ?_
        exact ⟨rfl, rfl⟩
      change Iwp _ _ _ _ _ _ _
      refine iwp_block ?_
      refine iwp_loopH [7, 8, 39, 40, 41, 42, 43, 44, 45, 46, 47, 48, 49, 50, 51, 52, 53, 54, 55, 56, 57, 58, 59, 60, 61, 62, 63, 64, 65, 66, 67] [] (β := Nat) (fun j => [(7, T.i (max 0 (ce.tmod g.co - 1) + (j : Int)))]) (fun j => []) (fun j => (true, arF g ce i ++ arR g ce (max 0 (ce.tdiv g.co - 1) + (i : Int)) j)) (fun j => j ≤ arN g ce) (fun j => arN g ce - j) 0 (Nat.zero_le _) (by show (true, _ ++ arR g ce _ 0) = (true, _); simp [arR]) (fun c1 => ?_) ?_
      · exact xh (ms := []) (by repeat (exact Out.refl _)) ⟨(by (show T.i _ = T.i _; congr 1; omega)), trivial⟩ trivial
      ·
        intro j hj
        refine iwp_seq ?_
        refine iwp_seq ?_
        apply iwp_reg hJ
        ·
          intro c1 hmine hrnd
          refine xa 10 ?_
          refine rg_q (q_m rfl) (rg_q (q_fieldAddr fld72_0 rfl) (rg_q (q_fieldAddr fld70_0 rfl) (rg_q (q_fieldAddr fld25_1 rfl) (rg_q (q_load sz3 rfl rfl) ?_))))
          refine rg_q (q_sub rfl rfl xi) ?_
          refine rg_q (q_m rfl) ?_
          refine rg_q (q_add rfl rfl xi) ?_
          refine rg_q (q_min rfl rfl) ?_
          refine rg_q (q_leq rfl rfl) ?_
          refine rn ?_
          exact ⟨rfl, rfl⟩
        change Iwp _ _ _ _ _ _ _
        refine iwp_cond rfl (fun hc5 => ?_) (fun hc5 => ?_)
        ·
          (try simp only [nb, ne_eq] at hc5)
          have hlj : j < arN g ce := by omega
          refine iwp_skip ?_
          change Iwp _ _ _ _ _ _ _
          refine iwp_seq ?_
          refine iwp_block ?_
          refine iwp_seq ?_
          apply iwp_reg hJ
          ·
            intro c1 hmine hrnd
            refine xa 9 ?_
            refine rg_q (q_m rfl) (rg_q (q_fieldAddr fld72_0 rfl) (rg_q (q_fieldAddr fld70_0 rfl) (rg_q (q_fieldAddr fld25_1 rfl) (rg_q (q_load sz3 rfl rfl) ?_))))
            refine rg_q (q_mul rfl rfl xi) ?_
            refine rg_q (q_m rfl) ?_
            refine rg_q (q_add rfl rfl xi) ?_
            refine rg_q (q_a rfl) ?_
            refine rn ?_
            exact ⟨rfl, rfl⟩
          change Iwp _ _ _ _ _ _ _
          refine iwp_seq ?_
          refine iwp_region ?_
          refine iops_of hJ rfl (fun c1 _ _ _ h => by exact aops_q rfl ((q_m rfl)) h) ?_
          refine iops_of hJ rfl (fun c1 _ _ _ h => by exact aops_q rfl ((q_load sz3 rfl rfl)) h) ?_
          refine iops_of hJ rfl (fun c1 _ _ _ h => by exact aops_q rfl ((q_neq rfl rfl)) h) ?_
          refine iops_of hJ rfl (fun c1 _ _ _ h => by exact aops_q rfl ((q_m rfl)) h) ?_
          rcases Bool.eq_false_or_eq_true (decide ((max 0 (ce.tdiv g.co - 1) + (i : Int)) * g.co + (max 0 (ce.tmod g.co - 1) + (j : Int)) ≠ ce)) with hb | hb
          ·
            refine iops_g hJ rfl (congrArg T.bool hb) rfl (by intro d hd; cases hd; exact (by decide : (63 : Nat) < 68)) (fun c1 => ((q_move (x := .d (.fn _ _)) rfl))) ?_
            refine iops_g hJ rfl (congrArg T.bool hb) rfl (by intro d hd; cases hd; exact (by decide : (64 : Nat) < 68)) (fun c1 => ((q_m rfl))) ?_
            refine iops_yieldG (x := (max 0 (ce.tdiv g.co - 1) + (i : Int)) * g.co + (max 0 (ce.tmod g.co - 1) + (j : Int))) rfl (congrArg T.bool hb) rfl hy hdat rfl (.cons rfl .nil) (ar_pre hlt hlj hb) rfl (fun yb => ?_)
            refine iops_g hJ rfl (congrArg T.bool hb) rfl (by intro d hd; cases hd; exact (by decide : (66 : Nat) < 68)) (fun c1 => ((q_not rfl))) ?_
            refine iops_of hJ rfl (fun c1 _ _ _ h => by exact aops_q rfl ((q_pick rfl rfl rfl)) h) ?_
            refine iops_nil ?_
            change Iwp _ _ _ _ _ _ _
            refine iwp_cond rfl (fun hc8 => ?_) (fun hc8 => ?_)
            ·
              (try simp only [nb, ne_eq] at hc8)
              have hyb : yb = false := by cases yb <;> first | rfl | (exfalso; simp_all; done)
              refine iwp_ret ?_
              exact ⟨.inl rfl, fun h => by rw [hyb] at h; cases h⟩
            ·
              (try simp only [nb, ne_eq] at hc8)
              have hyb : yb = true := by cases yb <;> first | rfl | (exfalso; simp_all; done)
              refine iwp_skip ?_
              change Iwp _ _ _ _ _ _ _
              apply iwp_reg hJ
              ·
                intro c1 hmine hrnd
                refine xa 3 ?_
                refine rg_q (q_m rfl) ?_
                refine rg_q (q_add rfl rfl xi) ?_
                refine rg_q (q_a rfl) ?_
                refine rn ?_
                exact ⟨rfl, rfl⟩
              refine ⟨j + 1, by omega, by omega, by rw [hyb, arR_succ, if_pos hb, List.append_assoc], fun c1 => ?_⟩
              exact xh (ms := []) (by repeat (first | exact Out.head rfl rfl | (refine Out.put ?_ rfl))) ⟨(by (show T.i _ = T.i _; congr 1; omega)), trivial⟩ trivial
          ·
            refine iops_skip (g := false) (b := true) rfl rfl (congrArg T.bool hb) rfl rfl (by intro d hd; cases hd; exact (by decide : (63 : Nat) < 68)) ?_
            refine iops_skip (g := false) (b := true) rfl rfl (congrArg T.bool hb) rfl rfl (by intro d hd; cases hd; exact (by decide : (64 : Nat) < 68)) ?_
            refine iops_skip (g := false) (b := true) rfl rfl (congrArg T.bool hb) rfl rfl (by intro d hd; cases hd; exact (by decide : (65 : Nat) < 68)) ?_
            refine iops_skip (g := false) (b := true) rfl rfl (congrArg T.bool hb) rfl rfl (by intro d hd; cases hd; exact (by decide : (66 : Nat) < 68)) ?_
            refine iops_of hJ rfl (fun c1 _ _ _ h => by exact aops_q rfl (q_pickF (congrArg T.bool hb) rfl) h) ?_
            refine iops_nil ?_
            change Iwp _ _ _ _ _ _ _
            refine iwp_cond rfl (fun hc8 => ?_) (fun hc8 => ?_)
            ·
              exfalso; (try simp only [nb, ne_eq] at hc8); simp_all
            ·
              (try simp only [nb, ne_eq] at hc8)
              refine iwp_skip ?_
              change Iwp _ _ _ _ _ _ _
              apply iwp_reg hJ
              ·
                intro c1 hmine hrnd
                refine xa 3 ?_
                refine rg_q (q_m rfl) ?_
                refine rg_q (q_add rfl rfl xi) ?_
                refine rg_q (q_a rfl) ?_
                refine rn ?_
                exact ⟨rfl, rfl⟩
              refine ⟨j + 1, by omega, by omega, by rw [arR_succ, if_neg (by rw [hb]; decide), List.append_nil], fun c1 => ?_⟩
              exact xh (ms := []) (by repeat (first | exact Out.head rfl rfl | (refine Out.put ?_ rfl))) ⟨(by (show T.i _ = T.i _; congr 1; omega)), trivial⟩ trivial
        ·
          (try simp only [nb, ne_eq] at hc5)
          have hjn : j = arN g ce := by omega
          refine iwp_exit ?_
          change Iwp _ _ _ _ _ _ _
          apply iwp_reg hJ
          ·
            intro c1 hmine hrnd
            refine xa 3 ?_
            refine rg_q (q_m rfl) ?_
            refine rg_q (q_add rfl rfl xi) ?_
            refine rg_q (q_a rfl) ?_
            refine rn ?_
            exact ⟨rfl, rfl⟩
          refine ⟨i + 1, by omega, by omega, by rw [hjn, arF_succ], fun c1 => ?_⟩
          exact xh (ms := []) (by repeat (first | exact Out.head rfl rfl | (refine Out.put ?_ rfl) | (refine Out.headIn ?_ rfl rfl rfl))) ⟨(by (show T.i _ = T.i _; congr 1; omega)), trivial⟩ trivial
    ·
      (try simp only [nb, ne_eq] at hc2)
      have him : i = arM g ce := by omega
      refine iwp_exit ?_
      exact ⟨.inr rfl, fun _ => by rw [him]⟩
end Go.Proofs.YtcdccdcbfbakfaaGreatDoor.Am.M
-- mini
set_option maxRecDepth 100000
namespace Go.Proofs.YtcdccdcbfbakfaaGreatDoor.Am.M
open Go

theorem arF_in {g : Grd} (hg : GrdOk g) {c : Int} (h1 : 0 ≤ c) {n : Int} (h : n ∈ arF g c (arM g c)) : 0 ≤ n ∧ n < g.co * g.ro := by
  have c1 := hg.c1
  have r1 := hg.r1
  unfold arF at h
  obtain ⟨p, hp, h⟩ := List.mem_flatMap.1 h
  unfold arR at h
  obtain ⟨h, _⟩ := List.mem_filter.1 h
  obtain ⟨q, hq, rfl⟩ := List.mem_map.1 h
  have hp := List.mem_range.1 hp
  have hq := List.mem_range.1 hq
  have hM : arM g c = (min (g.ro - 1) (c.tdiv g.co + 1) - max 0 (c.tdiv g.co - 1) + 1).toNat := rfl
  have hN : arN g c = (min (g.co - 1) (c.tmod g.co + 1) - max 0 (c.tmod g.co - 1) + 1).toNat := rfl
  generalize hr : max 0 (c.tdiv g.co - 1) + (p : Int) = r at *
  have e1 : 0 ≤ r ∧ r ≤ g.ro - 1 := by omega
  have e2 := Int.mul_nonneg e1.1 (show 0 ≤ g.co by omega)
  have e3 := Int.mul_le_mul_of_nonneg_right e1.2 (show 0 ≤ g.co by omega)
  rw [Int.sub_mul, Int.one_mul, Int.mul_comm g.ro g.co] at e3
  omega
theorem takeSnoc {α : Type} {l : List α} {k : Nat} {y : α} (h : l[k]? = some y) : l.take (k + 1) = l.take k ++ [y] := by
  obtain ⟨hlt, rfl⟩ := List.getElem?_eq_some_iff.1 h
  rw [List.take_succ_eq_append_getElem hlt]
theorem anySnoc {α : Type} {p : α → Bool} {l : List α} {y : α} (h : l.any p = false) (hy : p y = false) : (l ++ [y]).any p = false := by rw [List.any_append, h]; simp [hy]
def pwA (pw : List Int) (n : Int) : Int := pw.getD n.toNat 0
def pkB (pw : List Int) (c n : Int) : Bool := decide (pwA pw c < pwA pw n) || (decide (n < c) && decide (pwA pw n = pwA pw c))
def pkR (g : Grd) (pw : List Int) (c : Int) : Bool := !(arF g c (arM g c)).any (pkB pw c) && decide (0 < pwA pw c)
theorem pwA_at {pw : List Int} {n : Int} (h1 : 0 ≤ n) (h2 : n < (pw.length : Int)) : pw[n.toNat]? = some (pwA pw n) := by
  unfold pwA
  rw [List.getD_eq_getElem?_getD, List.getElem?_eq_getElem (by omega)]; rfl
theorem isPeak_p (g : Grd) (pw : List Int) (c : Int) (h : FldOk g pw) (h1 : 0 ≤ c) (h2 : c < (pw.length : Int)) : PC Tryz.prog 42 [.agg (fdC g pw), .v (.int .i64 (c))] (.v (.bool (pkR g pw c))) := by
 have hg := h.gr
 have hci := cells_in hg
 have hlen := h.len
 have hat := pwA_at h1 h2
 refine pc_of_awpN Tryz.func42 rfl Tryz.ntmps42 (rs := [.cell 4 4]) Tryz.results42 (by simp) fun w0 hmine hrnd hpn => ?_
 refine awp_seq ?_
 refine xa 2 ?_
 refine rg_q (q_box rfl (by exact .inr ⟨_, rfl⟩)) ?_
 refine rg_q (q_box rfl (by exact .inl rfl)) ?_
 refine rg_nil ?_
 refine aops_alloc zr4 rfl rfl rfl ?_
 refine aops_nil (xq (xa 5 ?_))
 refine rg_q (q_fieldAddr fld72_1 rfl) (rg_q (q_load sz26 rfl rfl) (rg_q (q_load sz3 rfl rfl) ?_))
 refine rg_q (q_indexAddr sl26 rfl rfl (by omega) (map_at (k := c.toNat) (by omega) hat)) ?_
 refine rg_q (q_load sz3 rfl rfl) ?_
 refine rg_nil ?_
 refine aops_alloc zr3 rfl rfl rfl ?_
 refine aops_store sz3 rfl rfl (by exact .inl rfl) rfl rfl (by decide) rfl ?_
 refine aops_nil (xq (awp_seq ?_))
 refine xa 3 ?_
 refine rg_q (q_loadA (ds := [_, _, _, _, _, _]) sz72 rfl rfl rfl) ?_
 refine rg_q (q_load sz3 rfl rfl) ?_
 refine rg_q (q_call en69 (.cons rfl (.cons rfl .nil)) rfl (around_p _ _ _)) ?_
 refine xc (awp_block ?_)
 refine Awp.le (le_freeze 5 5 0 (cs := iC (pwA pw c)) rfl rfl rfl rfl hmine) ?_
 refine awp_rangeFC (α := Int) (β := Nat) (n := 39) (enc := encA) (items := arF g c (arM g c)) 1000 [(2, .d (.pt (fdC g pw) 0)), (3, .d (.pt [.v (.int .i64 (c))] 0)), (4, .ref 4 0), (5, .d (.pt [.v (.int .i64 (pwA pw c))] 0)), (14, .d (.fn (.func 91) [.pt [.v (.int .i64 (c))] 0, .pt (fdC g pw) 0]))] (fun x => [(4, .box [.v (.bool (false))])]) (fun k x => x = k ∧ ((arF g c (arM g c)).take k).any (pkB pw c) = false) (fun e x => e = Exit.ret ∧ pkR g pw c = false) 0 hrnd ?_ (.inr ⟨rfl, rfl⟩) en91 (around_i g pw c h h1 (by omega)) rfl (fun _ => rfl) rfl (fun x => fsl_mem (fsl_cons (fst_box (by repeat first | exact trivial | refine ⟨.v _, ?_⟩)) fsl_nil)) (fun _ => rfl) ⟨rfl, rfl⟩ (fun h => by cases h) ?_ ?_ ?_
 · exact le_cst (fun k => k) _ _ rfl ⟨rfl, rfl, rfl, rfl, rfl, trivial⟩ ⟨rfl, trivial⟩ rfl (fun k b h => by rw [hpn k] at h; cases h)
 ·
  intro w1 hw1 k x y hI hy
  obtain ⟨rfl, hf⟩ := hI
  obtain ⟨hy1, hy2⟩ := arF_in hg h1 (List.mem_of_getElem? hy)
  have hya := pwA_at (pw := pw) hy1 (by omega)
  refine xa 1 ?_
  refine rg_q (q_a rfl) ?_
  refine rn ?_
  refine ⟨rfl, fun w2 hw2 => ?_⟩
  refine awp_block ?_
  refine awp_seq ?_
  refine xa 21 ?_
  refine rg_q (q_fieldAddr fld72_1 rfl) (rg_q (q_load sz26 rfl rfl) (rg_q (q_m rfl) ?_))
  refine rg_q (q_indexAddr sl26 rfl rfl (by omega) (map_at (k := y.toNat) (by omega) hya)) ?_
  refine rg_q (q_load sz3 rfl rfl) (rg_q (q_load sz3 rfl rfl) (rg_q (q_gtr rfl rfl) (rg_q (q_m rfl) ?_)))
  refine rg_g rfl rfl (fun hG => (q_m rfl)) ?_
  refine rg_g rfl rfl (fun hG => (q_load sz3 rfl rfl)) ?_
  refine rg_g rfl rfl (fun hG => (q_lss rfl rfl)) ?_
  refine rg_g rfl rfl (fun hG => (q_m rfl)) ?_
  refine rg_g rfl rfl (fun hG => (q_fieldAddr fld72_1 rfl)) ?_
  refine rg_g rfl rfl (fun hG => (q_load sz26 rfl rfl)) ?_
  refine rg_g rfl rfl (fun hG => (q_m rfl)) ?_
  refine rg_g rfl rfl (fun hG => (q_indexAddr sl26 rfl rfl (by (have hg0 := T.bool_inj (a := _) hG.1; (try simp only [nb, ne_eq] at hg0); have hg1 := T.bool_inj (a := _) hG.2.1; (try simp only [nb, ne_eq] at hg1); omega)) (map_at (k := y.toNat) (by (have hg0 := T.bool_inj (a := _) hG.1; (try simp only [nb, ne_eq] at hg0); have hg1 := T.bool_inj (a := _) hG.2.1; (try simp only [nb, ne_eq] at hg1); omega)) hya))) ?_
  refine rg_g rfl rfl (fun hG => (q_load sz3 rfl rfl)) ?_
  refine rg_g rfl rfl (fun hG => (q_load sz3 rfl rfl)) ?_
  refine rg_g rfl rfl (fun hG => (q_eql rfl rfl)) ?_
  refine rg_pickg rfl rfl rfl rfl rfl rfl rfl rfl ?_
  refine rg_pick rfl rfl rfl rfl rfl rfl ?_
  refine xc (awp_cond rfl (fun hc4 => ?_) (fun hc4 => ?_))
  ·
   (try simp only [nb, ne_eq] at hc4)
   have hb : pkB pw c y = true := by unfold pkB; (simp; omega)
   have hno : pkR g pw c = false := by unfold pkR; rw [List.any_eq_true.2 ⟨y, List.mem_of_getElem? hy, hb⟩]; rfl
   refine awp_seq ?_
   refine xa 0 ?_
   refine rg_nil ?_
   refine aops_store sz4 rfl rfl (by exact .inl rfl) rfl rfl (by decide) rfl ?_
   refine aops_nil ?_
   change Awp _ _ _ _ _
   refine awp_ret ?_
   refine .inr ⟨rfl, x, ⟨rfl, hno⟩, ?_⟩
   exact le_round [] _ hw2 rfl ⟨(by rfl), trivial⟩ rfl
  ·
   (try simp only [nb, ne_eq] at hc4)
   have hb : pkB pw c y = false := by unfold pkB; (simp; omega)
   refine awp_skip ?_
   refine .inl ⟨rfl, x + 1, ⟨rfl, by rw [takeSnoc hy]; exact anySnoc hf hb⟩, ?_⟩
   exact le_round [] _ hw2 rfl ⟨(by rfl), trivial⟩ rfl
 ·
  intro x hI
  obtain ⟨hI2, hf⟩ := hI
  rw [List.take_length] at hf
  have hz : pkR g pw c = decide (0 < pwA pw c) := by unfold pkR; rw [hf]; rfl
  change Awp _ _ _ _ _
  refine awp_seq ?_
  refine xa 2 ?_
  refine rg_q (q_load sz3 rfl rfl) (rg_q (q_gtr rfl rfl) ?_)
  refine rg_nil ?_
  refine aops_store sz4 rfl rfl (by exact .inl rfl) rfl rfl (by decide) rfl ?_
  refine aops_nil ?_
  change Awp _ _ _ _ _
  refine awp_ret ?_
  refine ⟨_, (.cons (.cell1 rfl rfl sz4) .nil), ?_⟩
  rw [hz]; rfl
 ·
  rintro e x (⟨rfl, hX⟩)
  ·
   refine ⟨_, (.cons (.cell1 rfl rfl sz4) .nil), ?_⟩
   rw [hX]; rfl

def choL (p : Int → Bool) (n : Nat) : List Int := (allL n).filter p
theorem choL_succ {p : Int → Bool} {k : Nat} : choL p (k + 1) = choL p k ++ (if p (k : Int) = true then [(k : Int)] else []) := by
  unfold choL
  rw [allL_succ, List.filter_append]
  congr 1
  by_cases h : p (k : Int) = true
  · rw [if_pos h]; simp [h]
  · rw [if_neg h]; simp [h]
theorem choL_len {p : Int → Bool} {k : Nat} : (choL p k).length ≤ k := by
  have := List.length_filter_le p (allL k)
  unfold choL
  rw [allL_len] at this
  exact this
theorem chosen_p (g : Grd) (pw : List Int) (p : Int → Bool) (fn : FuncId) (cap : List D) (hen : enB Tryz.prog fn = true) (hl : pw.length ≤ 1600) (hp : ∀ n : Nat, n < pw.length → PC Tryz.prog fn (cap ++ [.v (.int .i64 ((n : Int)))]) (.v (.bool (p n)))) : PC Tryz.prog 41 [.agg (fdC g pw), .mfn (.func fn) cap] (.sl 1 ((choL p pw.length).map iC)) := by
 refine pc_of_awpN Tryz.func41 rfl Tryz.ntmps41 (rs := [.tmp 4]) Tryz.results41 (by simp) fun w0 hmine hrnd hpn => ?_
 refine awp_seq ?_
 refine xa 2 ?_
 refine rg_q (q_box rfl (by exact .inr ⟨_, rfl⟩)) ?_
 refine rg_q (q_assign (x := .d (.sl _ _)) rfl) ?_
 refine rs (xa 1 ?_)
 refine rg_q (q_assign_nil) ?_
 refine rn ?_
 change Awp _ _ _ _ _
 refine Awp.le (le_own (k := 5) (e := 3) (sz := 1) rfl rfl) ?_
 refine awp_seq ?_
 refine awp_seq ?_
 refine xa 4 ?_
 refine rg_q (q_fieldAddr fld72_1 rfl) (rg_q (q_load sz26 rfl rfl) ?_)
 refine rg_q (q_len isl26 rfl (by exact len_map _ _)) ?_
 refine rg_q (q_m rfl) ?_
 refine xc (awp_len (t := 8) rfl (fun hl8 => ?_))
 (try simp only [List.length_map] at hl8)
 refine awp_block ?_
 refine awp_loopH [5, 6, 10, 11, 12, 13, 14, 15, 16, 17, 18, 19, 20] [5] (α := Nat) (fun k => [(10, T.i (k : Int)), (5, .rs 5)]) (fun k => [(5, .row 3 1 ((choL p k).map iC))]) (fun k => k ≤ pw.length) (fun k => pw.length - k) 0 (Nat.zero_le _) ?_ ?_
 · exact xh (ms := [5]) (by repeat (exact Out.refl _)) ⟨(by rfl), (by rfl), trivial⟩ ⟨(by rfl), trivial⟩
 ·
  intro k hk
  have hal := choL_len (p := p) (k := k)
  refine awp_seq ?_
  refine xa 1 ?_
  refine rg_q (q_lss rfl rfl) ?_
  refine rs (awp_cond rfl (fun hc3 => ?_) (fun hc3 => ?_))
  ·
   (try simp only [nb, ne_eq] at hc3)
   have hlt : k < pw.length := by omega
   refine awp_skip ?_
   change Awp _ _ _ _ _
   refine awp_seq ?_
   refine awp_block ?_
   refine awp_seq ?_
   refine xa 2 ?_
   refine rg_q (q_m rfl) (rg_q (q_a rfl) ?_)
   refine rs (xa 3 ?_)
   refine rg_q (q_move (x := .d (.mfn _ _)) rfl) (rg_q (q_m rfl) ?_)
   refine rg_q (q_callM hen rfl (.cons rfl .nil) ((hp k hlt))) ?_
   refine xc (awp_cond rfl (fun hc5 => ?_) (fun hc5 => ?_))
   ·
    (try simp only [nb, ne_eq] at hc5)
    have hsk : (choL p (k + 1)).map iC = (choL p k).map iC ++ [[.v (.int .i64 (k : Int))]] := by rw [choL_succ, if_pos hc5, List.map_append]; rfl
    refine xa 3 ?_
    refine rg_q (q_move (x := .rs _) rfl) (rg_q (q_m rfl) ?_)
    refine rg_q (q_buildSlice sl26 zr3 rfl rfl (by decide) (.cons rfl (by exact .inl rfl) .nil) ⟨rfl, rfl, trivial⟩ rfl (by decide) rfl) ?_
    refine rg_nil ?_
    refine aops_append sl26 zr3 by3 rfl (by decide) rfl rfl rfl rfl (by (try simp only [List.length_map, List.length_append, List.length_cons, List.length_nil]); omega) (by (try simp only [List.length_map, List.length_append, List.length_cons, List.length_nil]); omega) rfl rfl ?_
    refine aops_q rfl (q_assign (x := .rs _) rfl) ?_
    refine aops_nil ?_
    change Awp _ _ _ _ _
    refine xa 2 ?_
    refine rg_q (q_add rfl rfl xi) ?_
    refine rg_q (q_m rfl) ?_
    refine rn ?_
    refine ⟨k + 1, by omega, by omega, ?_⟩
    exact xh (ms := [5]) (by repeat (first | exact Out.head rfl rfl | (refine Out.put ?_ rfl) | (refine Out.site ?_ rfl) | (refine Out.killS ?_ rfl))) ⟨(by rfl), (by rfl), trivial⟩ ⟨(by ((show Site.row 3 1 _ = Site.row 3 1 _; (rw [hsk]; rfl)))), trivial⟩
   ·
    (try simp only [nb, ne_eq] at hc5)
    have hsk : (choL p (k + 1)).map iC = (choL p k).map iC := by rw [choL_succ, if_neg (by rw [hc5]; decide), List.append_nil]
    refine awp_skip ?_
    change Awp _ _ _ _ _
    refine xa 2 ?_
    refine rg_q (q_add rfl rfl xi) ?_
    refine rg_q (q_m rfl) ?_
    refine rn ?_
    refine ⟨k + 1, by omega, by omega, ?_⟩
    exact xh (ms := [5]) (by repeat (first | exact Out.head rfl rfl | (refine Out.put ?_ rfl))) ⟨(by rfl), (by rfl), trivial⟩ ⟨(by ((show Site.row 3 1 _ = Site.row 3 1 _; (rw [hsk]; done)))), trivial⟩
  ·
   (try simp only [nb, ne_eq] at hc3)
   have hkn : k = pw.length := by omega
   subst hkn
   refine awp_exit ?_
   change Awp _ _ _ _ _
   refine awp_seq ?_
   refine xa 2 ?_
   refine rg_q (q_move (x := .rs _) rfl) (rg_q (q_assign (x := .rs _) rfl) ?_)
   refine xc (awp_ret ?_)
   refine ⟨_, (.cons (.tmp (by exact .rs rfl)) .nil), ?_⟩
   rfl

theorem ofD_len (g : Grd) (pw : List Int) : (ofD g pw).length = 6 := by
  unfold ofD
  split
  · rfl
  · split <;> rfl
def peaksR (g : Grd) (pw : List Int) : List Int × Int := if ofE g pw ≠ 0 then ([], ofE g pw) else (choL (pkR g pw) pw.length, 0)
theorem peaks_p (g : Grd) (pw : List Int) : PC Tryz.prog 16 [.agg (grdC g), .sl 1 (pw.map iC)] (.tup [.sl 1 ((peaksR g pw).1.map iC), .v (.int .i64 ((peaksR g pw).2))]) := by
 refine pc_of_awpN Tryz.func16 rfl Tryz.ntmps16 (rs := [.tmp 4, .tmp 5]) Tryz.results16 (by simp) fun w0 hmine hrnd hpn => ?_
 refine awp_seq ?_
 refine xa 3 ?_
 refine rg_q (q_box rfl (by exact .inr ⟨_, rfl⟩)) ?_
 refine rg_q (q_assign (x := .d (.sl _ _)) rfl) (rg_q (q_a rfl) ?_)
 refine rs (xa 6 ?_)
 refine rg_q (q_loadA (ds := [_, _, _, _, _]) sz25 rfl rfl rfl) ?_
 refine rg_q (q_move (x := .d (.sl _ _)) rfl) ?_
 refine rg_q (q_call en20 (.cons rfl (.cons rfl .nil)) rfl (openField_p _ _)) ?_
 refine rg_q (q_move (x := .d (.tup _)) rfl) (rg_q (q_extract rfl rfl) (rg_q (q_extract rfl rfl) ?_))
 refine rg_nil ?_
 refine aops_allocD zr72 rfl sz72 rfl rfl (by exact .inr ⟨_, rfl⟩) (ofD_len g pw) rfl ?_
 refine aops_q rfl (q_a rfl) ?_
 refine aops_nil (xq (awp_seq ?_))
 refine xa 2 ?_
 refine rg_q (q_m rfl) (rg_q (q_neq rfl rfl) ?_)
 refine xc (awp_cond rfl (fun hc2 => ?_) (fun hc2 => ?_))
 ·
  (try simp only [nb, ne_eq] at hc2)
  have hz : peaksR g pw = ([], ofE g pw) := by unfold peaksR; rw [if_pos hc2]
  refine awp_seq ?_
  refine xa 3 ?_
  refine rg_q (q_m rfl) (rg_q (q_assign (x := .d (.sl _ _)) rfl) (rg_q (q_a rfl) ?_))
  refine xc (awp_ret ?_)
  refine ⟨_, xk2, ?_⟩
  rw [hz]; rfl
 ·
  (try simp only [nb, ne_eq] at hc2)
  have h0 : ofE g pw = 0 := by simpa using hc2
  obtain ⟨hfk, hfd⟩ := of_ok h0
  have hci := cells_in hfk.gr
  have hlen := hfk.len
  have hz : peaksR g pw = (choL (pkR g pw) pw.length, 0) := by unfold peaksR; rw [if_neg (fun q => q h0)]
  rw [hfd]
  refine awp_skip ?_
  change Awp _ _ _ _ _
  refine awp_seq ?_
  refine xa 6 ?_
  refine rg_q (q_loadA (ds := [_, _, _, _, _, _]) sz72 rfl rfl rfl) ?_
  refine rg_q (q_loadA (ds := [_, _, _, _, _, _]) sz72 rfl rfl rfl) ?_
  refine rg_q (q_makeMfn (.cons rfl .nil)) ?_
  refine rg_q (q_call en41 (.cons rfl (.cons rfl .nil)) rfl (chosen_p g pw (pkR g pw) 42 [.agg (fdC g pw)] en42 (by omega) (fun n hn => isPeak_p g pw n hfk (by omega) (by omega)))) ?_
  refine rg_q (q_assign (x := .d (.sl _ _)) rfl) (rg_q (q_a rfl) ?_)
  refine xc (awp_ret ?_)
  refine ⟨_, xk2, ?_⟩
  rw [hz]; rfl
end Go.Proofs.YtcdccdcbfbakfaaGreatDoor.Am.M
-- mini
set_option maxRecDepth 100000
namespace Go.Proofs.YtcdccdcbfbakfaaGreatDoor.Am.M
open Go

def huA (r : Int × Int) (n : Int) : Int × Int := (min r.1 n, max r.2 n)
theorem er_in (a : Arr) (t p : Int × Int) : (0 ≤ (erI a t p).1 ∧ (erI a t p).1 ≤ 40000000000) ∧ 0 ≤ (erI a t p).2 ∧ (erI a t p).2 ≤ 40000000000 := by
  obtain ⟨a1, a2, a3, a4⟩ := lt_in a.ou (elAt a p.1) t
  obtain ⟨b1, b2, b3, b4⟩ := lt_in a.ba (elAt a p.2) t
  unfold erI
  simp only
  omega
def neI (t : Tsk) (c : Int) (y : Int × Int) : Int × Int := (rndI ((erI t.ar (spI t.g c) y).1 - t.ar.ts.1) t.ar.ts.2, rndI ((erI t.ar (spI t.g c) y).2 - t.ar.ts.1) t.ar.ts.2)
def nrI (t : Tsk) (c : Int) (y : Int × Int) : Int × Int := (max 0 (neI t c y).1, min 60 (neI t c y).2)
def nwI (t : Tsk) (c : Int) (y : Int × Int) : Bool := decide ([(nrI t c y).1, (nrI t c y).2] = [(neI t c y).1, (neI t c y).2])
theorem hull_p (a b n : Int) : PC Tryz.prog 40 [.agg [.v (.int .i64 (a)), .v (.int .i64 (b))], .v (.int .i64 (n))] (.agg [.v (.int .i64 ((huA (a, b) n).1)), .v (.int .i64 ((huA (a, b) n).2))]) := by
 refine pc_of_awp Tryz.func40 rfl Tryz.ntmps40 (rs := [.cell 4 58]) Tryz.results40 (by simp) fun w0 => ?_
 refine awp_seq ?_
 refine xa 1 ?_
 refine rg_q (q_box rfl (by exact .inr ⟨_, rfl⟩)) ?_
 refine rg_nil ?_
 refine aops_alloc zr58 rfl rfl rfl ?_
 refine aops_nil (xq (xa 9 ?_))
 refine rg_q (q_fieldAddr fld58_0 rfl) (rg_q (q_load sz3 rfl rfl) (rg_q (q_m rfl) ?_))
 refine rg_q (q_min rfl rfl) ?_
 refine rg_q (q_fieldAddr fld58_1 rfl) (rg_q (q_load sz3 rfl rfl) (rg_q (q_m rfl) ?_))
 refine rg_q (q_max rfl rfl) ?_
 refine rg_q (q_build (cs := [_, _]) pl58 zr58 rfl (.cons rfl (by exact .inl rfl) (.cons rfl (by exact .inl rfl) .nil)) ⟨⟨rfl, by decide⟩, ⟨rfl, by decide⟩, trivial⟩ rfl) ?_
 refine rg_nil ?_
 refine aops_store sz58 rfl rfl (by exact .inr ⟨_, rfl⟩) rfl rfl (by decide) rfl ?_
 refine aops_nil ?_
 change Awp _ _ _ _ _
 refine awp_ret ?_
 refine ⟨_, (.cons (.cellA rfl rfl sz58 rfl) .nil), ?_⟩
 rfl
theorem numbers_p (t : Tsk) (c : Int) (pr : Int × Int) (h : TskOk t) (hc : clE t.g c = 0) (hp : (0 ≤ pr.1 ∧ pr.1 < t.ne) ∧ 0 ≤ pr.2 ∧ pr.2 < t.ne) : PC Tryz.prog 38 [.pt (tkC t) 0, .v (.int .i64 (c)), .agg (shC pr)] (.tup [.agg [.v (.int .i64 ((nrI t c pr).1)), .v (.int .i64 ((nrI t c pr).2))], .v (.bool (nwI t c pr))]) := by
  obtain ⟨hg, _, _⟩ := ckG_ok h.gr
  obtain ⟨c1, c2⟩ := clE_ok hc
  have hci := cells_in hg
  obtain ⟨hao, _⟩ := ckArr_ok h.ck
  have ho := op_zero h hc hp
  have he : erR t.ar (spI t.g c) pr = (erI t.ar (spI t.g c) pr, 0) := by unfold erR; rw [if_neg (fun q => q ho)]
  obtain ⟨⟨e1, e2⟩, e3, e4⟩ := er_in t.ar (spI t.g c) pr
  refine pc_of_awpN Tryz.func38 rfl Tryz.ntmps38 (rs := [.cell 6 58, .tmp 7]) Tryz.results38 (by simp) fun w0 hmine hrnd hpn => ?_
  refine awp_seq ?_
  refine xa 1 ?_
  refine rg_q (q_box rfl (by exact .inr ⟨_, rfl⟩)) ?_
  refine rg_nil ?_
  refine aops_alloc zr58 rfl rfl rfl ?_
  refine aops_q rfl (q_a rfl) ?_
  refine aops_nil (xq (awp_regionM 18 [none, none, none, none, none, none, none, none, none, none, none, none, none, none, none, some 8, some 8, none] mixed (by kernel_rfl) ?_))
  refine rgm_q rfl (q_move (x := .d (.pt _ _)) rfl) ?_
  refine rgm_q rfl (q_nilCheck rfl) ?_
  refine rgm_q rfl (q_fieldAddr fld142_1 rfl) ?_
  refine rgm_q rfl (q_loadA (ds := [_, _, _, _, _, _, _, _, _, _, _]) sz50 rfl rfl rfl) ?_
  refine rgm_q rfl (q_move (x := .d (.pt _ _)) rfl) ?_
  refine rgm_q rfl (q_nilCheck rfl) ?_
  refine rgm_q rfl (q_fieldAddr fld142_0 rfl) ?_
  refine rgm_q rfl (q_loadA (ds := [_, _, _, _, _]) sz70 rfl rfl rfl) ?_
  refine rgm_q rfl (q_m rfl) ?_
  refine rgm_q rfl (q_call en67 (.cons rfl (.cons rfl .nil)) rfl (fspot_p t.g c hg c1 (by omega))) ?_
  refine rgm_q rfl (q_loadA (ds := [_, _]) sz106 rfl rfl rfl) ?_
  refine rgm_q rfl (q_call en66 (.cons rfl (.cons rfl (.cons rfl .nil))) rfl ((by have h := echoRange_p t.ar (spI t.g c) pr; rw [he] at h; exact h))) ?_
  refine rgm_q rfl (q_move (x := .d (.tup _)) rfl) ?_
  refine rgm_q rfl (q_extract rfl rfl) ?_
  refine rgm_q rfl (q_extract rfl rfl) ?_
  refine rgm_m (k := 8) rfl rfl (by rfl) (m_alloc zr58 rfl rfl) ?_
  refine rgm_m (k := 8) rfl rfl (by rfl) (m_store sz58 rfl rfl (by exact .inr ⟨_, rfl⟩) rfl rfl (by decide) rfl) ?_
  refine rgm_q rfl (q_a rfl) ?_
  refine rgm_nil (aops_nil ?_)
  change Awp _ _ _ _ _
  refine awp_seq ?_
  refine xa 10 ?_
  refine rg_q (q_move (x := .d (.pt _ _)) rfl) (rg_q (q_fieldAddr_ref fld58_0 rfl) (rg_q (q_load_ref sz3 rfl rfl rfl) ?_))
  refine rg_q (q_call en68 (.cons rfl (.cons rfl .nil)) rfl (nearest_p t (erI t.ar (spI t.g c) pr).1 hao (by omega) (by omega))) ?_
  refine rg_q (q_move (x := .d (.pt _ _)) rfl) (rg_q (q_fieldAddr_ref fld58_1 rfl) (rg_q (q_load_ref sz3 rfl rfl rfl) ?_))
  refine rg_q (q_call en68 (.cons rfl (.cons rfl .nil)) rfl (nearest_p t (erI t.ar (spI t.g c) pr).2 hao (by omega) (by omega))) ?_
  refine rg_q (q_a rfl) (rg_q (q_a rfl) ?_)
  refine rs (xa 5 ?_)
  refine rg_q (q_m rfl) ?_
  refine rg_q (q_max rfl rfl) ?_
  refine rg_q (q_m rfl) ?_
  refine rg_q (q_min rfl rfl) ?_
  refine rg_q (q_build (cs := [_, _]) pl58 zr58 rfl (.cons rfl (by exact .inl rfl) (.cons rfl (by exact .inl rfl) .nil)) ⟨⟨rfl, by decide⟩, ⟨rfl, by decide⟩, trivial⟩ rfl) ?_
  refine rg_nil ?_
  refine aops_alloc zr58 rfl rfl rfl ?_
  refine aops_store sz58 rfl rfl (by exact .inr ⟨_, rfl⟩) rfl rfl (by decide) rfl ?_
  refine aops_nil (xq (awp_regionL 6 1 [1, 2, 3, 4, 5] mixed (by kernel_rfl) ?_))
  refine rg_q (q_load_refA (ds := [_, _]) sz58 rfl rfl rfl rfl) ?_
  refine rg_q (q_load_refA (ds := [_, _]) sz58 rfl rfl rfl rfl) ?_
  refine rg_q (q_m rfl) (rg_q (q_m rfl) ?_)
  refine rg_q (q_build (cs := [_, _]) pl58 zr58 rfl (.cons rfl (by exact .inl rfl) (.cons rfl (by exact .inl rfl) .nil)) ⟨⟨rfl, by decide⟩, ⟨rfl, by decide⟩, trivial⟩ rfl) ?_
  refine rg_q (q_eqlI (xs := [_, _]) (ys := [_, _]) eqi58 rfl rfl rfl rfl) ?_
  refine rg_nil ?_
  refine late_set (c_store sz58 rfl rfl (by exact .inr ⟨_, rfl⟩) rfl rfl (by decide) rfl) ?_ ?_
  · refine fl_cons rfl rfl rfl (c_q (q_load_refA (ds := [_, _]) sz58 rfl rfl rfl rfl)) ?_
    first | refine fl_cons rfl rfl rfl (c_q (q_m rfl)) ?_
    first | refine fl_cons rfl rfl rfl (c_q (q_m rfl)) ?_
    first | refine fl_cons rfl rfl rfl (c_q (q_build (cs := [_, _]) pl58 zr58 rfl (.cons rfl (by exact .inl rfl) (.cons rfl (by exact .inl rfl) .nil)) ⟨⟨rfl, by decide⟩, ⟨rfl, by decide⟩, trivial⟩ rfl)) ?_
    first | refine fl_cons rfl rfl rfl (c_q (q_eqlI (xs := [_, _]) (ys := [_, _]) eqi58 rfl rfl rfl rfl)) ?_
    exact fl_nil
  refine late_nil ?_
  refine aops_q rfl (q_a rfl) ?_
  refine aops_nil ?_
  change Awp _ _ _ _ _
  refine awp_ret ?_
  refine ⟨_, (.cons (.cellA rfl rfl sz58 rfl) xk1), ?_⟩
  rfl

abbrev RR := (Int × Int) × Int × Int
def rgS (o : RR) (i : Nat) : Int × Int := if i = 0 then o.1 else o.2
def rgW (o : RR) (i : Nat) (r : Int × Int) : RR := if i = 0 then (r, o.2) else (o.1, r)
def rgC (o : RR) : List D := [.v (.int .i64 o.1.1), .v (.int .i64 o.1.2), .v (.int .i64 o.2.1), .v (.int .i64 o.2.2)]
def ptS (re im : Int) (i : Nat) : Int := if i = 0 then re else im
def owP (b : Bool) (o : RR) (re im : Int) : Nat → RR
  | 0 => o
  | i + 1 => rgW (owP b o re im i) i (huA (if b = true then rgS (owP b o re im i) i else (ptS re im i, ptS re im i)) (ptS re im i))
def owF (t : Tsk) (y : Int × Int) (s : Bool × RR) (n : Int) : Bool × RR := (true, owP s.1 s.2 (reI (smpS t y) n.toNat) (imI (smpS t y) n.toNat) 2)
def owK (t : Tsk) (y : Int × Int) (lo : Int) (w : Bool) : Nat → Bool × RR
  | 0 => (!w, ((0, 0), 0, 0))
  | k + 1 => owF t y (owK t y lo w k) (lo + (k : Int))
def ouP (o w : RR) : Nat → RR
  | 0 => o
  | i + 1 => rgW (ouP o w i) i ((rgS (ouP o w i) i).1 + (rgS w i).1, (rgS (ouP o w i) i).2 + (rgS w i).2)
def owE (t : Tsk) (c : Int) (y : Int × Int) : RR := (owK t y (nrI t c y).1 (nwI t c y) ((nrI t c y).2 - (nrI t c y).1 + 1).toNat).2
def enA (t : Tsk) (c : Int) (l : List (Int × Int)) : RR := l.foldl (fun o y => ouP o (owE t c y) 2) ((0, 0), 0, 0)
theorem enA_snoc {t : Tsk} {c : Int} {l : List (Int × Int)} {k : Nat} {y : Int × Int} (h : l[k]? = some y) : enA t c (l.take (k + 1)) = ouP (enA t c (l.take k)) (owE t c y) 2 := by
  obtain ⟨hlt, hx⟩ := List.getElem?_eq_some_iff.1 h
  unfold enA
  rw [List.take_succ_eq_append_getElem hlt, hx, List.foldl_append]; rfl
def Bd (A : Int) (r : Int × Int) : Prop := (-A ≤ r.1 ∧ r.1 ≤ A) ∧ -A ≤ r.2 ∧ r.2 ≤ A
def Bd2 (A : Int) (o : RR) : Prop := Bd A o.1 ∧ Bd A o.2
theorem bd_S {A : Int} {o : RR} (h : Bd2 A o) (i : Nat) : Bd A (rgS o i) := by unfold rgS; split <;> first | exact h.1 | exact h.2
theorem bd_W {A : Int} {o : RR} (h : Bd2 A o) (i : Nat) {r : Int × Int} (hr : Bd A r) : Bd2 A (rgW o i r) := by unfold rgW; split <;> first | exact ⟨hr, h.2⟩ | exact ⟨h.1, hr⟩
theorem bd_hu {A : Int} {r : Int × Int} (h : Bd A r) {n : Int} (hn : -A ≤ n ∧ n ≤ A) : Bd A (huA r n) := by
  obtain ⟨⟨h1, h2⟩, h3, h4⟩ := h
  unfold huA Bd
  simp only; omega
theorem bd_owP {A : Int} {b : Bool} {o : RR} {re im : Int} (h : Bd2 A o) (h1 : -A ≤ re ∧ re ≤ A) (h2 : -A ≤ im ∧ im ≤ A) : ∀ i, Bd2 A (owP b o re im i)
  | 0 => h
  | i + 1 => by
    have ih := bd_owP (b := b) h h1 h2 i
    have hp : -A ≤ ptS re im i ∧ ptS re im i ≤ A := by unfold ptS; split <;> assumption
    refine bd_W ih i (bd_hu ?_ hp)
    split
    · exact bd_S ih i
    · exact ⟨hp, hp⟩
theorem bd_owK {t : Tsk} (h : TskOk t) (y : Int × Int) (lo : Int) (w : Bool) : ∀ k, Bd2 4094 (owK t y lo w k).2
  | 0 => by show Bd2 4094 ((0, 0), 0, 0); unfold Bd2 Bd; decide
  | k + 1 => by
    obtain ⟨h1, h2⟩ := reim_in h y (lo + (k : Int)).toNat
    exact bd_owP (bd_owK h y lo w k) h1 h2 2
theorem bd_ouP {A : Int} {o w : RR} (ho : Bd2 A o) (hA : 0 ≤ A) (hw : Bd2 4094 w) : Bd2 (A + 4094) (ouP o w 2) := by
  obtain ⟨⟨⟨a1, a2⟩, a3, a4⟩, ⟨a5, a6⟩, a7, a8⟩ := ho
  obtain ⟨⟨⟨b1, b2⟩, b3, b4⟩, ⟨b5, b6⟩, b7, b8⟩ := hw
  show Bd2 _ (rgW (rgW o 0 _) 1 _)
  unfold Bd2 Bd rgW rgS
  simp [ouP, rgW, rgS]
  omega
theorem bd_enA {t : Tsk} (h : TskOk t) {c : Int} {l : List (Int × Int)} : ∀ k : Nat, k ≤ l.length → Bd2 (4094 * (k : Int)) (enA t c (l.take k))
  | 0, _ => by show Bd2 0 ((0, 0), 0, 0); unfold Bd2 Bd; decide
  | k + 1, hk => by
    have ih := bd_enA h (c := c) (l := l) k (by omega)
    rw [enA_snoc (List.getElem?_eq_getElem (by omega))]
    have := bd_ouP ih (by omega) (bd_owK h l[k] (nrI t c l[k]).1 (nwI t c l[k]) ((nrI t c l[k]).2 - (nrI t c l[k]).1 + 1).toNat)
    have e : 4094 * ((k + 1 : Nat) : Int) = 4094 * (k : Int) + 4094 := by omega
    rw [e]; exact this

def endI (t : Tsk) (c : Int) : RR := enA t c (evL t)
theorem two (i : Nat) (h : i < 2) : i = 0 ∨ i = 1 := by omega
theorem rg_ld {o : RR} {i : Nat} (h : i < 2) : ((rgC o).drop (0 + ((i : Nat) : Int).toNat * 2)).take 2 = [.v (.int .i64 (rgS o i).1), .v (.int .i64 (rgS o i).2)] := by rcases two i h with rfl | rfl <;> rfl
theorem rg_ld0 {o : RR} {i : Nat} (h : i < 2) : (rgC o)[0 + ((i : Nat) : Int).toNat * 2 + 0]? = some (.v (.int .i64 (rgS o i).1)) := by rcases two i h with rfl | rfl <;> rfl
theorem rg_ld1 {o : RR} {i : Nat} (h : i < 2) : (rgC o)[0 + ((i : Nat) : Int).toNat * 2 + 1]? = some (.v (.int .i64 (rgS o i).2)) := by rcases two i h with rfl | rfl <;> rfl
theorem rg_st {o : RR} {i : Nat} (h : i < 2) {a b : Int} : setCs (rgC o) (0 + ((i : Nat) : Int).toNat * 2) [.v (.int .i64 a), .v (.int .i64 b)] = rgC (rgW o i (a, b)) := by rcases two i h with rfl | rfl <;> rfl
theorem rg_ln {o : RR} {i : Nat} (h : i < 2) : 0 + ((i : Nat) : Int).toNat * 2 + 2 ≤ (rgC o).length := by show _ ≤ 4; omega
theorem ou_S {o w : RR} {i : Nat} (h : i < 2) : rgS (ouP o w i) i = rgS o i := by rcases two i h with rfl | rfl <;> rfl
theorem rgW_W {o : RR} {i : Nat} {r q : Int × Int} : rgW (rgW o i r) i q = rgW o i q := by unfold rgW; split <;> rfl
theorem rgS_W {o : RR} {i : Nat} {r : Int × Int} : rgS (rgW o i r) i = r := by unfold rgS rgW; split <;> rfl
theorem ow_t {b : Bool} {o : RR} {re im : Int} {i : Nat} (hb : b = false) : owP b o re im (i + 1) = rgW (rgW (owP b o re im i) i (ptS re im i, ptS re im i)) i ((huA ((rgS (rgW (owP b o re im i) i (ptS re im i, ptS re im i)) i).1, (rgS (rgW (owP b o re im i) i (ptS re im i, ptS re im i)) i).2) (ptS re im i)).1, (huA ((rgS (rgW (owP b o re im i) i (ptS re im i, ptS re im i)) i).1, (rgS (rgW (owP b o re im i) i (ptS re im i, ptS re im i)) i).2) (ptS re im i)).2) := by
  rw [rgW_W, rgS_W]
  show rgW _ _ (huA (if b = true then _ else _) _) = _
  rw [if_neg (by rw [hb]; decide)]
theorem ow_f {b : Bool} {o : RR} {re im : Int} {i : Nat} (hb : b = true) : owP b o re im (i + 1) = rgW (owP b o re im i) i ((huA ((rgS (owP b o re im i) i).1, (rgS (owP b o re im i) i).2) (ptS re im i)).1, (huA ((rgS (owP b o re im i) i).1, (rgS (owP b o re im i) i).2) (ptS re im i)).2) := by
  show rgW _ _ (huA (if b = true then _ else _) _) = _
  rw [if_pos hb]
theorem pt_ix {re im : Int} {i : Nat} (h : i < 2) : ([.v (.int .i64 re), .v (.int .i64 im)] : List D)[((i : Nat) : Int).toNat]? = some (.v (.int .i64 (ptS re im i))) := by rcases two i h with rfl | rfl <;> rfl
theorem endsAt_p (t : Tsk) (c : Int) (h : TskOk t) (hc : clE t.g c = 0) : PC Tryz.prog 15 [.agg (tskC t), .v (.int .i64 (c))] (.tup [.agg (rgC (endI t c)), .v (.int .i64 (0))]) := by
 have hn1 := h.n1
 have hn2 := h.n2
 obtain ⟨ha1, ha2⟩ := allL_ok h
 have hlen : (evL t).length ≤ 1600 := by
  unfold evL
  rw [pqL_len, allL_len]
  have := Nat.mul_le_mul (show t.ne.toNat ≤ 16 by omega) (show t.ne.toNat ≤ 16 by omega)
  omega
 refine pc_of_awpN Tryz.func15 rfl Tryz.ntmps15 (rs := [.cell 4 59, .tmp 5]) Tryz.results15 (by simp) fun w0 hmine hrnd hpn => ?_
 refine awp_seq ?_
 refine xa 2 ?_
 refine rg_q (q_box rfl (by exact .inr ⟨_, rfl⟩)) ?_
 refine rg_q (q_box rfl (by exact .inl rfl)) ?_
 refine rg_nil ?_
 refine aops_alloc zr59 rfl rfl rfl ?_
 refine aops_q rfl (q_a rfl) ?_
 refine aops_nil (xq (xa 6 ?_))
 refine rg_q (q_loadA sz55 rfl rfl rfl) ?_
 refine rg_q (q_load sz3 rfl rfl) ?_
 refine rg_q (q_call en32 (.cons rfl (.cons rfl .nil)) rfl ((by have h := openCell_p t c h; rw [hc] at h; exact h))) ?_
 refine rg_q (q_move (x := .d (.tup _)) rfl) (rg_q (q_extract rfl rfl) (rg_q (q_extract rfl rfl) ?_))
 refine rg_nil ?_
 refine aops_alloc zr90 rfl rfl rfl ?_
 refine aops_store sz90 rfl rfl (by exact .inl rfl) rfl rfl (by decide) rfl ?_
 refine aops_q rfl (q_a rfl) ?_
 refine aops_nil (xq (awp_seq ?_))
 refine xa 2 ?_
 refine rg_q (q_m rfl) (rg_q (q_neq rfl rfl) ?_)
 refine xc (awp_cond rfl (fun hc2 => ?_) (fun hc2 => ?_))
 ·
  simp at hc2
 ·
  (try simp only [nb, ne_eq] at hc2)
  refine awp_skip ?_
  change Awp _ _ _ _ _
  refine awp_seq ?_
  refine xa 0 ?_
  refine rg_nil ?_
  refine aops_alloc zr59 rfl rfl rfl ?_
  refine aops_nil (xq (awp_seq ?_))
  refine xa 4 ?_
  refine rg_q (q_load_ref sz90 rfl rfl rfl) (rg_q (q_load_ref sz90 rfl rfl rfl) ?_)
  refine rg_q (q_call en34 (.cons rfl .nil) rfl (all_p t hn1 hn2)) ?_
  refine rg_q (q_call en37 (.cons rfl (.cons rfl .nil)) rfl (fpairs_p t (allL t.ne.toNat))) ?_
  refine xc (awp_block ?_)
  refine Awp.le (le_freeze 6 6 0 (cs := [.pt (tkC t) 0]) rfl rfl rfl rfl hmine) ?_
  refine awp_rangeFC (α := Int × Int) (β := Nat) (n := 109) (enc := (encQ t)) (items := evL t) 1000 [(3, .d (.pt [.v (.int .i64 (c))] 0)), (4, .ref 4 0), (6, .d (.pt [.pt (tkC t) 0] 0)), (8, .ref 8 0), (33, .d (.fn (.func 65) [.pt [.sl 1 ((allL t.ne.toNat).map iC)] 0, .pt [.pt (tkC t) 0] 0]))] (fun x => [(4, .box (rgC ((0, 0), 0, 0))), (8, .box (rgC (enA t c ((evL t).take x))))]) (fun k x => x = k) (fun e x => False) 0 hrnd ?_ (.inr ⟨rfl, rfl⟩) en65 (fpairs_i t (allL t.ne.toNat) h ha1 (by omega)) rfl (fun _ => rfl) rfl (fun x => fsl_mem (fsl_cons (fst_box (by repeat (first | exact trivial | refine ⟨.v _, ?_⟩))) (fsl_cons (fst_box (by repeat (first | exact trivial | refine ⟨.v _, ?_⟩))) fsl_nil))) (fun _ => rfl) rfl (fun h => by cases h) ?_ ?_ ?_
  · exact le_cst (fun k => k) _ _ rfl ⟨rfl, rfl, rfl, rfl, rfl, trivial⟩ ⟨rfl, rfl, trivial⟩ rfl (fun k b h => by rw [hpn k] at h; cases h)
  ·
   intro w1 hw1 k x y hI hy
   subst hI
   have hmy := pqL_in (List.mem_of_getElem? hy)
   obtain ⟨hy0, hy3, hy4⟩ := hmy
   obtain ⟨hy1, hy2⟩ := ha1 _ hy0
   have hxl : x < (evL t).length := (List.getElem?_eq_some_iff.1 hy).1
   have hbd := bd_enA h (c := c) (l := evL t) x (by omega)
   have hnr : 0 ≤ (nrI t c y).1 ∧ (nrI t c y).2 ≤ 60 := by unfold nrI; simp only; omega
   have hst := enA_snoc (t := t) (c := c) hy
   refine awp_seq ?_
   refine xa 0 ?_
   refine rg_nil ?_
   refine aops_alloc zr106 rfl rfl rfl ?_
   refine aops_store sz106 rfl rfl (by exact .inr ⟨_, rfl⟩) rfl rfl (by decide) rfl ?_
   refine aops_nil ?_
   change Awp _ _ _ _ _
   refine xa 1 ?_
   refine rg_q (q_assign (x := .d (.pt _ _)) rfl) ?_
   refine rn ?_
   refine ⟨rfl, fun w2 hw2 => ?_⟩
   refine awp_block ?_
   refine awp_seq ?_
   refine xa 7 ?_
   refine rg_q (q_load sz90 rfl rfl) (rg_q (q_load sz3 rfl rfl) ?_)
   refine rg_q (q_load_refA (ds := [_, _]) sz106 rfl rfl rfl rfl) ?_
   refine rg_q (q_call en38 (.cons rfl (.cons rfl (.cons rfl .nil))) rfl (numbers_p t c y h hc ⟨⟨hy1, hy2⟩, hy3, by omega⟩)) ?_
   refine rg_q (q_move (x := .d (.tup _)) rfl) (rg_q (q_extract rfl rfl) (rg_q (q_extract rfl rfl) ?_))
   refine rg_nil ?_
   refine aops_alloc zr58 rfl rfl rfl ?_
   refine aops_store sz58 rfl rfl (by exact .inr ⟨_, rfl⟩) rfl rfl (by decide) rfl ?_
   refine aops_q rfl (q_a rfl) ?_
   refine aops_nil (xq (xa 0 ?_))
   refine rg_nil ?_
   refine aops_alloc zr59 rfl rfl rfl ?_
   refine aops_nil (xq (xa 3 ?_))
   refine rg_q (q_m rfl) (rg_q (q_not rfl) (rg_q (q_a rfl) ?_))
   refine rs (awp_seq ?_)
   refine xa 3 ?_
   refine rg_q (q_fieldAddr_ref fld58_0 rfl) (rg_q (q_load_ref sz3 rfl rfl rfl) (rg_q (q_a rfl) ?_))
   refine xc (awp_block ?_)
   refine awp_loopH [14, 15, 16, 17, 18, 47, 48, 49, 50, 51, 52, 53, 54, 55, 56, 57, 58, 59, 60, 61, 62, 63, 64, 65, 66, 67, 68, 69, 70, 71, 72, 73, 74, 75, 76, 77, 78, 79, 80, 81, 82] [13] (α := Nat) (fun k => [(15, T.i ((nrI t c y).1 + (k : Int))), (14, .d (.v (.bool ((owK t y (nrI t c y).1 (nwI t c y) k).1))))]) (fun k => [(13, .box (rgC (owK t y (nrI t c y).1 (nwI t c y) k).2))]) (fun k => k ≤ ((nrI t c y).2 - (nrI t c y).1 + 1).toNat) (fun k => ((nrI t c y).2 - (nrI t c y).1 + 1).toNat - k) 0 (Nat.zero_le _) ?_ ?_
   · exact xh (ms := [13]) (by repeat (exact Out.refl _)) ⟨(by ((show T.i _ = T.i _; congr 1; omega))), (by rfl), trivial⟩ ⟨(by rfl), trivial⟩
   ·
    intro k hk
    refine awp_seq ?_
    refine awp_seq ?_
    refine xa 4 ?_
    refine rg_q (q_m rfl) (rg_q (q_fieldAddr_ref fld58_1 rfl) (rg_q (q_load_ref sz3 rfl rfl rfl) (rg_q (q_leq rfl rfl) ?_)))
    refine xc (awp_cond rfl (fun hc12 => ?_) (fun hc12 => ?_))
    ·
     (try simp only [nb, ne_eq] at hc12)
     have hlt : k < ((nrI t c y).2 - (nrI t c y).1 + 1).toNat := by omega
     obtain ⟨hre, him⟩ := reim_in h y ((nrI t c y).1 + (k : Int)).toNat
     refine awp_skip ?_
     change Awp _ _ _ _ _
     refine awp_seq ?_
     refine awp_block ?_
     refine awp_seq ?_
     refine xa 6 ?_
     refine rg_q (q_move (x := .d (.pt _ _)) rfl) (rg_q (q_m rfl) (rg_q (q_nilCheck rfl) ?_))
     refine rg_q (q_indexAddr_ar ar147 rfl rfl (by omega) (by omega)) ?_
     refine rg_q (q_load sz111 rfl (by rw [Nat.zero_add, Nat.mul_one]; exact anL_at (S := smpS t y) (by omega))) ?_
     refine rg_q (q_call en39 (.cons rfl .nil) rfl (fsample_p _ _ hre him)) ?_
     refine rg_nil ?_
     refine aops_alloc zr94 rfl rfl rfl ?_
     refine aops_store sz94 rfl rfl (by exact .inr ⟨_, rfl⟩) rfl rfl (by decide) rfl ?_
     refine aops_nil (xq (awp_seq ?_))
     refine xa 6 ?_
     refine rg_q (q_fieldAddr_ref fld94_0 rfl) (rg_q (q_load_ref sz3 rfl rfl rfl) (rg_q (q_fieldAddr_ref fld94_1 rfl) (rg_q (q_load_ref sz3 rfl rfl rfl) ?_)))
     refine rg_q (q_buildA (cs := [_, _]) ar106 zr106 rfl (.cons rfl (by exact .inl rfl) (.cons rfl (by exact .inl rfl) .nil)) ⟨⟨rfl, by decide⟩, ⟨rfl, by decide⟩, trivial⟩ rfl) ?_
     refine rg_q (q_m rfl) ?_
     refine xc (awp_block ?_)
     refine awp_loopH [17, 18, 64, 65, 66, 67, 68, 69, 70, 71, 72, 73, 74, 75, 76, 77, 78, 79, 80, 81, 82] [13] (α := Nat) (fun i => [(64, T.i (i : Int))]) (fun i => [(13, .box (rgC (owP (owK t y (nrI t c y).1 (nwI t c y) k).1 (owK t y (nrI t c y).1 (nwI t c y) k).2 (reI (smpS t y) ((nrI t c y).1 + (k : Int)).toNat) (imI (smpS t y) ((nrI t c y).1 + (k : Int)).toNat) i)))]) (fun i => i ≤ 2) (fun i => 2 - i) 0 (Nat.zero_le _) ?_ ?_
     · exact xh (ms := [13]) (by repeat (exact Out.refl _)) ⟨(by rfl), trivial⟩ ⟨(by rfl), trivial⟩
     ·
      intro i hi
      refine awp_seq ?_
      refine xa 1 ?_
      refine rg_q (q_lss rfl rfl) ?_
      refine rs (awp_cond rfl (fun hc16 => ?_) (fun hc16 => ?_))
      ·
       (try simp only [nb, ne_eq] at hc16)
       have hi2 : i < 2 := by omega
       have hidx := pt_ix (re := reI (smpS t y) ((nrI t c y).1 + (k : Int)).toNat) (im := imI (smpS t y) ((nrI t c y).1 + (k : Int)).toNat) hi2
       refine awp_skip ?_
       change Awp _ _ _ _ _
       refine awp_seq ?_
       refine awp_block ?_
       refine awp_seq ?_
       refine xa 4 ?_
       refine rg_q (q_m rfl) ?_
       refine rg_q (q_index_ar ar106 sz3 rfl rfl (by omega) (by omega) hidx) ?_
       refine rg_q (q_a rfl) (rg_q (q_a rfl) ?_)
       refine rs (awp_seq ?_)
       refine xa 2 ?_
       refine rg_q (q_m rfl) (rg_q (q_not rfl) ?_)
       refine xc (awp_cond rfl (fun hc18 => ?_) (fun hc18 => ?_))
       ·
        (try simp only [nb, ne_eq] at hc18)
        have hnx := ow_t (o := (owK t y (nrI t c y).1 (nwI t c y) k).2) (re := reI (smpS t y) ((nrI t c y).1 + (k : Int)).toNat) (im := imI (smpS t y) ((nrI t c y).1 + (k : Int)).toNat) (i := i) hc18
        refine xa 5 ?_
        refine rg_q (q_m rfl) (rg_q (q_m rfl) (rg_q (q_m rfl) ?_))
        refine rg_q (q_build (cs := [_, _]) pl58 zr58 rfl (.cons rfl (by exact .inl rfl) (.cons rfl (by exact .inl rfl) .nil)) ⟨⟨rfl, by decide⟩, ⟨rfl, by decide⟩, trivial⟩ rfl) ?_
        refine rg_q (q_indexAddr_aref ar59 rfl rfl (by omega) (by omega)) ?_
        refine rg_nil ?_
        refine aops_store (cs' := _) sz58 rfl rfl (by exact .inr ⟨_, rfl⟩) rfl rfl (rg_ln hi2) (rg_st hi2) ?_
        refine aops_nil ?_
        change Awp _ _ _ _ _
        refine xa 7 ?_
        refine rg_q (q_m rfl) (rg_q (q_m rfl) ?_)
        refine rg_q (q_indexAddr_aref ar59 rfl rfl (by omega) (by omega)) ?_
        refine rg_q (q_load_refA (ds := [_, _]) sz58 rfl rfl (rg_ld hi2) rfl) ?_
        refine rg_q (q_m rfl) ?_
        refine rg_q (q_call en40 (.cons rfl (.cons rfl .nil)) rfl (hull_p _ _ _)) ?_
        refine rg_q (q_indexAddr_aref ar59 rfl rfl (by omega) (by omega)) ?_
        refine rg_nil ?_
        refine aops_store (cs' := _) sz58 rfl rfl (by exact .inr ⟨_, rfl⟩) rfl rfl (rg_ln hi2) (rg_st hi2) ?_
        refine aops_nil ?_
        change Awp _ _ _ _ _
        refine xa 2 ?_
        refine rg_q (q_add rfl rfl xi) ?_
        refine rg_q (q_m rfl) ?_
        refine rn ?_
        refine ⟨i + 1, by omega, by omega, ?_⟩
        exact xh (ms := [13]) (by repeat (first | exact Out.head rfl rfl | (refine Out.put ?_ rfl) | (refine Out.site ?_ rfl))) ⟨(by rfl), trivial⟩ ⟨(by ((show Site.box _ = Site.box _; (rw [hnx]; done)))), trivial⟩
       ·
        (try simp only [nb, ne_eq] at hc18)
        have hnx := ow_f (o := (owK t y (nrI t c y).1 (nwI t c y) k).2) (re := reI (smpS t y) ((nrI t c y).1 + (k : Int)).toNat) (im := imI (smpS t y) ((nrI t c y).1 + (k : Int)).toNat) (i := i) hc18
        refine awp_skip ?_
        change Awp _ _ _ _ _
        refine xa 7 ?_
        refine rg_q (q_m rfl) (rg_q (q_m rfl) ?_)
        refine rg_q (q_indexAddr_aref ar59 rfl rfl (by omega) (by omega)) ?_
        refine rg_q (q_load_refA (ds := [_, _]) sz58 rfl rfl (rg_ld hi2) rfl) ?_
        refine rg_q (q_m rfl) ?_
        refine rg_q (q_call en40 (.cons rfl (.cons rfl .nil)) rfl (hull_p _ _ _)) ?_
        refine rg_q (q_indexAddr_aref ar59 rfl rfl (by omega) (by omega)) ?_
        refine rg_nil ?_
        refine aops_store (cs' := _) sz58 rfl rfl (by exact .inr ⟨_, rfl⟩) rfl rfl (rg_ln hi2) (rg_st hi2) ?_
        refine aops_nil ?_
        change Awp _ _ _ _ _
        refine xa 2 ?_
        refine rg_q (q_add rfl rfl xi) ?_
        refine rg_q (q_m rfl) ?_
        refine rn ?_
        refine ⟨i + 1, by omega, by omega, ?_⟩
        exact xh (ms := [13]) (by repeat (first | exact Out.head rfl rfl | (refine Out.put ?_ rfl) | (refine Out.site ?_ rfl))) ⟨(by rfl), trivial⟩ ⟨(by ((show Site.box _ = Site.box _; (rw [hnx]; done)))), trivial⟩
      ·
       (try simp only [nb, ne_eq] at hc16)
       have hi3 : i = 2 := by omega
       subst hi3
       refine awp_exit ?_
       change Awp _ _ _ _ _
       refine xa 1 ?_
       refine rg_q (q_a rfl) ?_
       refine rn ?_
       change Awp _ _ _ _ _
       refine xa 3 ?_
       refine rg_q (q_m rfl) ?_
       refine rg_q (q_add rfl rfl xi) ?_
       refine rg_q (q_a rfl) ?_
       refine rn ?_
       refine ⟨k + 1, by omega, by omega, ?_⟩
       exact xh (ms := [13]) (by repeat (first | exact Out.head rfl rfl | (refine Out.put ?_ rfl) | (refine Out.site ?_ rfl) | (refine Out.headIn ?_ rfl rfl rfl))) ⟨(by ((show T.i _ = T.i _; congr 1; omega))), (by rfl), trivial⟩ ⟨(by rfl), trivial⟩
    ·
     (try simp only [nb, ne_eq] at hc12)
     have hkn : k = ((nrI t c y).2 - (nrI t c y).1 + 1).toNat := by omega
     have hoe : (owK t y (nrI t c y).1 (nwI t c y) k).2 = owE t c y := by rw [hkn]; rfl
     rw [hoe]
     refine awp_exit ?_
     change Awp _ _ _ _ _
     refine awp_seq ?_
     refine xa 1 ?_
     refine rg_q (q_m rfl) ?_
     refine xc (awp_block ?_)
     refine awp_loopH [19, 83, 84, 85, 86, 87, 88, 89, 90, 91, 92, 93, 94, 95, 96, 97, 98, 99, 100, 101, 102, 103, 104, 105, 106, 107] [1008] (α := Nat) (fun i => [(83, T.i (i : Int))]) (fun i => [(1008, .box (rgC (ouP (enA t c ((evL t).take x)) (owE t c y) i)))]) (fun i => i ≤ 2) (fun i => 2 - i) 0 (Nat.zero_le _) ?_ ?_
     · exact xh (ms := [1008]) (by repeat (exact Out.refl _)) ⟨(by rfl), trivial⟩ ⟨(by rfl), trivial⟩
     ·
      intro i hi
      refine awp_seq ?_
      refine xa 1 ?_
      refine rg_q (q_lss rfl rfl) ?_
      refine rs (awp_cond rfl (fun hc24 => ?_) (fun hc24 => ?_))
      ·
       (try simp only [nb, ne_eq] at hc24)
       have hi2 : i < 2 := by omega
       obtain ⟨⟨q1, q2⟩, q3, q4⟩ := bd_S hbd i
       obtain ⟨⟨q5, q6⟩, q7, q8⟩ := bd_S (show Bd2 4094 (owE t c y) from bd_owK h y _ _ _) i
       have hsi := ou_S (o := enA t c ((evL t).take x)) (w := owE t c y) hi2
       refine awp_skip ?_
       change Awp _ _ _ _ _
       refine awp_seq ?_
       refine awp_block ?_
       refine awp_seq ?_
       refine xa 2 ?_
       refine rg_q (q_m rfl) (rg_q (q_a rfl) ?_)
       refine rn ?_
       change Awp _ _ _ _ _
       refine xa 21 ?_
       refine rg_q (q_m rfl) (rg_q (q_m rfl) ?_)
       refine rg_q (q_indexAddr_aref ar59 rfl rfl (by omega) (by omega)) ?_
       refine rg_q (q_fieldAddr_ref fld58_0 rfl) ?_
       refine rg_q (q_load_ref sz3 rfl rfl (rg_ld0 hi2)) ?_
       refine rg_q (q_m rfl) ?_
       refine rg_q (q_indexAddr_aref ar59 rfl rfl (by omega) (by omega)) ?_
       refine rg_q (q_fieldAddr_ref fld58_0 rfl) ?_
       refine rg_q (q_load_ref sz3 rfl rfl (rg_ld0 hi2)) ?_
       refine rg_q (q_add rfl rfl (In64.mk (by rw [hsi]; omega) (by rw [hsi]; omega))) ?_
       refine rg_q (q_m rfl) ?_
       refine rg_q (q_indexAddr_aref ar59 rfl rfl (by omega) (by omega)) ?_
       refine rg_q (q_fieldAddr_ref fld58_1 rfl) ?_
       refine rg_q (q_load_ref sz3 rfl rfl (rg_ld1 hi2)) ?_
       refine rg_q (q_m rfl) ?_
       refine rg_q (q_indexAddr_aref ar59 rfl rfl (by omega) (by omega)) ?_
       refine rg_q (q_fieldAddr_ref fld58_1 rfl) ?_
       refine rg_q (q_load_ref sz3 rfl rfl (rg_ld1 hi2)) ?_
       refine rg_q (q_add rfl rfl (In64.mk (by rw [hsi]; omega) (by rw [hsi]; omega))) ?_
       refine rg_q (q_build (cs := [_, _]) pl58 zr58 rfl (.cons rfl (by exact .inl rfl) (.cons rfl (by exact .inl rfl) .nil)) ⟨⟨rfl, by decide⟩, ⟨rfl, by decide⟩, trivial⟩ rfl) ?_
       refine rg_q (q_indexAddr_aref ar59 rfl rfl (by omega) (by omega)) ?_
       refine rg_nil ?_
       refine aops_store (cs' := _) sz58 rfl rfl (by exact .inr ⟨_, rfl⟩) rfl rfl (rg_ln hi2) (rg_st hi2) ?_
       refine aops_nil ?_
       change Awp _ _ _ _ _
       refine xa 2 ?_
       refine rg_q (q_add rfl rfl xi) ?_
       refine rg_q (q_m rfl) ?_
       refine rn ?_
       refine ⟨i + 1, by omega, by omega, ?_⟩
       exact xh (ms := [1008]) (by repeat (first | exact Out.head rfl rfl | (refine Out.put ?_ rfl) | (refine Out.site ?_ rfl))) ⟨(by rfl), trivial⟩ ⟨(by rfl), trivial⟩
      ·
       (try simp only [nb, ne_eq] at hc24)
       have hi3 : i = 2 := by omega
       subst hi3
       refine awp_exit ?_
       refine .inl ⟨rfl, x + 1, rfl, ?_⟩
       exact le_round [] _ hw2 rfl ⟨(by rfl), (by (show Site.box _ = Site.box _; (rw [hst]; done))), trivial⟩ rfl
  ·
   intro x hI
   have hI2 : x = (evL t).length := hI
   subst hI2
   rw [List.take_length] at *
   change Awp _ _ _ _ _
   refine awp_seq ?_
   refine xa 1 ?_
   refine rg_q (q_load_refA (ds := [_, _, _, _]) sz59 rfl rfl rfl rfl) ?_
   refine rg_nil ?_
   refine aops_store sz59 rfl rfl (by exact .inr ⟨_, rfl⟩) rfl rfl (by decide) rfl ?_
   refine aops_q rfl (q_a rfl) ?_
   refine aops_nil ?_
   change Awp _ _ _ _ _
   refine awp_ret ?_
   refine ⟨_, (.cons (.cellA rfl rfl sz59 rfl) xk1), ?_⟩
   rfl
  ·
   exact fun e x h => h.elim
end Go.Proofs.YtcdccdcbfbakfaaGreatDoor.Am.M
-- mini
set_option maxRecDepth 100000
namespace Go.Proofs.YtcdccdcbfbakfaaGreatDoor.Am.M
open Go

def oneT : Tsk := ⟨oneS.ar, 1, exB, ⟨0, 400, 1, 1, 50⟩⟩
theorem eq58_low (a0 a1 b0 b1 : Int) (w : World) : (Op.equalIn (9998 + 1) 58 (.agg #[iW a0, iW a1]) (.agg #[iW b0, iW b1])).run Tryz.prog w = .ok (decide ([a0, a1] = [b0, b1])) w := by
  have hf : (Tryz.prog.fieldsOf 58).toList = [⟨ "Lo", 3, 0, false, "", "", 0⟩, ⟨ "Hi", 3, 1, false, "", "", 8⟩] := by kernel_rfl
  rw [show (9998 + 1 : Nat) = 9997 + 1 + 1 from rfl, run_equalIn_struct w (9997 + 1) 58 _ _ (by kernel_rfl) (by kernel_rfl), hf]
  have u3 := Tryz.underlying3
  simp [Op.eqFields, part, isAgg, run_underlying u3, iW, run_equalIn_int, u3, Result.andThen]
  (repeat' split) <;> simp_all
theorem eqi59 : EqI Tryz.prog 59 4 := by
  intro xs ys hx hy w
  match xs, ys, hx, hy with
  | [a0, a1, a2, a3], [b0, b1, b2, b3], _, _ =>
    refine ⟨fun x y => run_eqGuard_agg w .eql 59 x y _ _ (by kernel_rfl), fun x y => run_eqGuard_agg w .neq 59 x y _ _ (by kernel_rfl), ?_⟩
    obtain ⟨i, hi, _⟩ := arB_info ar59
    have h1 := eq58_low a0 a1 b0 b1 w
    have h2 := eq58_low a2 a3 b2 b3 w
    simp only [iW] at h1 h2
    rw [show (10000 : Nat) = 9998 + 1 + 1 from rfl, run_equalIn_array w (9998 + 1) _ _ (arB_under ar59) hi, show Tryz.prog.cellsOf 58 = 2 from by kernel_rfl]
    simp [Op.eqItems, List.range, List.range.loop, part, isAgg, iW, Result.andThen, h1, h2]
    (repeat' split) <;> simp_all
theorem one5_p  : PC Tryz.prog 14 [] (.agg (tskC oneT)) := by
  refine pc_of_awpN Tryz.func14 rfl Tryz.ntmps14 (rs := [.cell 0 55]) Tryz.results14 (by simp) fun w0 hmine hrnd hpn => ?_
  refine awp_seq ?_
  refine xa 0 ?_
  refine rg_nil ?_
  refine aops_alloc zr55 rfl rfl rfl ?_
  refine aops_nil (xq (xa 0 ?_))
  refine rg_nil ?_
  refine aops_make sl51 zr99 by99 rfl rfl rfl rfl (by (try simp only [List.length_map]); omega) (by (try simp only [List.length_map]); omega) rfl rfl ?_
  refine aops_q rfl (q_buildR (u := [.v (.int .i64 1)]) (v := []) pl53 zr53 rfl (by exact .one rfl rfl (by exact .one rfl rfl .nil)) (by exact ⟨⟨rfl, by decide⟩, ⟨rfl, by decide⟩, trivial⟩) (by rfl)) ?_
  refine aops_alloc zr53 rfl rfl rfl ?_
  refine aops_le (le_tbox (k := 1) (ts := [_, _]) rfl rfl) ?_
  refine aops_storeAg sz53 rfl rfl rfl rfl rfl rfl rfl ?_
  refine aops_nil (xq (awp_regionL 4 2 [2, 3] mixed (by kernel_rfl) ?_))
  refine rg_q (q_fieldAddr_ref fld53_1 rfl) ?_
  refine rg_q (q_load_tb (x := .rs _) sz51 rfl rfl rfl) ?_
  refine rg_q (q_fieldAddr_ref fld53_1 rfl) ?_
  refine rg_q (q_load_tb (x := .rs _) sz51 rfl rfl rfl) ?_
  refine rg_nil ?_
  refine late_q (q_indexAddr_rs sl51 rfl rfl rfl (by omega) (by (simp; done))) ?_ ?_
  · refine fl_cons rfl rfl rfl (c_q (q_fieldAddr_ref fld53_1 rfl)) ?_
    refine fl_cons rfl rfl rfl (c_q (q_load_tb (x := .rs _) sz51 rfl rfl rfl)) ?_
    exact fl_nil
  refine late_set (c_storeRow sz99 rfl rfl (by exact .inl rfl) rfl rfl (i := 2) (j := 0) rfl rfl (by decide) rfl) ?_ ?_
  · refine fl_cons rfl rfl rfl (c_q (q_fieldAddr_ref fld53_1 rfl)) ?_
    refine fl_cons rfl rfl rfl (c_q (q_load_tb (x := .rs _) sz51 rfl rfl rfl)) ?_
    exact fl_nil
  refine late_nil ?_
  refine aops_q rfl (q_indexAddr_rs sl51 rfl rfl rfl (by omega) (by (simp; done))) ?_
  refine aops_store_row sz99 rfl rfl (by exact .inl rfl) rfl rfl (i := 3) (j := 0) rfl rfl (by decide) rfl ?_
  refine aops_nil (xq ?_)
  refine Awp.le (le_freezeTB 1 2 1 rfl rfl rfl rfl hmine) ?_
  refine Awp.le (le_boxT 1 (mtxC 1 exB) rfl rfl (by intro j d h; match j, h with | 0, h => cases h; rfl | 1, h => cases h; rfl)) ?_
  refine xa 6 ?_
  refine rg_q (q_call en36 .nil rfl (one_p)) ?_
  refine rg_q (q_fieldA fd102_0 sz50 rfl rfl rfl) ?_
  refine rg_q (q_load_refA (ds := [_, _]) sz53 rfl rfl rfl rfl) ?_
  refine rg_q (q_build (cs := [_, _]) pl23 zr23 rfl (.cons rfl (by exact .inl rfl) (.cons rfl (by exact .inl rfl) .nil)) ⟨⟨rfl, by decide⟩, ⟨rfl, by decide⟩, trivial⟩ rfl) ?_
  refine rg_q (q_build (cs := [_, _, _, _, _]) pl25 zr25 rfl (.cons rfl (by exact .inr ⟨_, rfl⟩) (.cons rfl (by exact .inl rfl) (.cons rfl (by exact .inl rfl) (.cons rfl (by exact .inl rfl) .nil)))) ⟨⟨rfl, by decide⟩, ⟨rfl, by decide⟩, ⟨rfl, by decide⟩, ⟨rfl, by decide⟩, trivial⟩ rfl) ?_
  refine rg_q (q_build pl55 zr55 rfl (.cons rfl (by exact .inr ⟨_, rfl⟩) (.cons rfl (by exact .inr ⟨_, rfl⟩) (.cons rfl (by exact .inr ⟨_, rfl⟩) .nil))) ⟨⟨rfl, by decide⟩, ⟨rfl, by decide⟩, ⟨rfl, by decide⟩, trivial⟩ rfl) ?_
  refine rg_nil ?_
  refine aops_store sz55 rfl rfl (by exact .inr ⟨_, rfl⟩) rfl rfl (by decide) rfl ?_
  refine aops_nil ?_
  change Awp _ _ _ _ _
  refine awp_ret ?_
  refine ⟨_, (.cons (.cellA rfl rfl sz55 rfl) .nil), ?_⟩
  rfl

def sbB (a b c d : Nat) : Bool := bif decide ((a : Int) = (c : Int)) then decide ((b : Int) = (d : Int)) else false
theorem sameBits_p (a b c d : Nat) : PC Tryz.prog 18 [.v (.complex .f64 a b), .v (.complex .f64 c d)] (.v (.bool (sbB a b c d))) := by
 refine pc_of_awp Tryz.func18 rfl Tryz.ntmps18 (rs := [.tmp 4]) Tryz.results18 (by simp) fun w0 => ?_
 refine awp_seq ?_
 refine xa 1 ?_
 refine rg_q (q_a rfl) ?_
 refine rs (xa 17 ?_)
 refine rg_q (q_m rfl) ?_
 refine rg_q (q_real rfl) ?_
 refine rg_q (q_ext1 (e := Extern.MathFloatBits.float64bits) Tryz.func45 (by kernel_rfl) (by kernel_rfl) (by kernel_rfl) (by kernel_rfl) rfl rfl (fun w => rfl) rfl) ?_
 refine rg_q (q_m rfl) ?_
 refine rg_q (q_real rfl) ?_
 refine rg_q (q_ext1 (e := Extern.MathFloatBits.float64bits) Tryz.func45 (by kernel_rfl) (by kernel_rfl) (by kernel_rfl) (by kernel_rfl) rfl rfl (fun w => rfl) rfl) ?_
 refine rg_q (q_eql rfl rfl) (rg_q (q_m rfl) ?_)
 refine rg_g rfl rfl (fun hG => (q_m rfl)) ?_
 refine rg_g rfl rfl (fun hG => (q_imag rfl)) ?_
 refine rg_g rfl rfl (fun hG => (q_ext1 (e := Extern.MathFloatBits.float64bits) Tryz.func45 (by kernel_rfl) (by kernel_rfl) (by kernel_rfl) (by kernel_rfl) rfl rfl (fun w => rfl) rfl)) ?_
 refine rg_g rfl rfl (fun hG => (q_m rfl)) ?_
 refine rg_g rfl rfl (fun hG => (q_imag rfl)) ?_
 refine rg_g rfl rfl (fun hG => (q_ext1 (e := Extern.MathFloatBits.float64bits) Tryz.func45 (by kernel_rfl) (by kernel_rfl) (by kernel_rfl) (by kernel_rfl) rfl rfl (fun w => rfl) rfl)) ?_
 refine rg_g rfl rfl (fun hG => (q_eql rfl rfl)) ?_
 refine rg_pick rfl rfl rfl rfl rfl rfl ?_
 refine rg_q (q_a rfl) ?_
 refine xc (awp_ret ?_)
 refine ⟨_, xk1, ?_⟩
 rfl
theorem ints5_p (l m : List Int) : PC Tryz.prog 11 [.sl 1 (l.map iC), .sl 1 (m.map iC)] (.v (.bool (decide (l = m)))) := by
 refine pc_of_awp Tryz.func11 rfl Tryz.ntmps11 (rs := [.tmp 4]) Tryz.results11 (by simp) fun w0 => ?_
 refine awp_seq ?_
 refine xa 1 ?_
 refine rg_q (q_a rfl) ?_
 refine rs (awp_seq ?_)
 refine xa 5 ?_
 refine rg_q (q_move (x := .d (.sl _ _)) rfl) ?_
 refine rg_q (q_len isl26 rfl (by exact len_map _ _)) ?_
 refine rg_q (q_move (x := .d (.sl _ _)) rfl) ?_
 refine rg_q (q_len isl26 rfl (by exact len_map _ _)) ?_
 refine rg_q (q_neq rfl rfl) ?_
 refine xc (awp_len (t := 6) rfl (fun hl6 => ?_))
 (try simp only [List.length_map] at hl6)
 refine awp_len (t := 8) rfl (fun hl8 => ?_)
 (try simp only [List.length_map] at hl8)
 refine awp_cond rfl (fun hc1 => ?_) (fun hc1 => ?_)
 ·
  (try simp only [nb, ne_eq] at hc1)
  have hz : decide (l = m) = false := decide_eq_false (fun e => by rw [e] at hc1; omega)
  refine awp_seq ?_
  refine xa 1 ?_
  refine rg_q (q_a rfl) ?_
  refine xc (awp_ret ?_)
  refine ⟨_, xk1, ?_⟩
  rw [hz]; rfl
 ·
  (try simp only [nb, ne_eq] at hc1)
  have hlm : l.length = m.length := by omega
  refine awp_skip ?_
  change Awp _ _ _ _ _
  refine awp_seq ?_
  refine awp_seq ?_
  refine xa 1 ?_
  refine rg_q (q_a rfl) ?_
  refine xc (awp_block ?_)
  refine awp_loopH [4, 5, 11, 12, 13, 14, 15, 16, 17, 18, 19, 20, 21, 22, 23, 24, 25] [] (α := Nat) (fun k => [(5, T.i (k : Int))]) (fun k => []) (fun k => k ≤ l.length ∧ l.take k = m.take k) (fun k => l.length - k) 0 ⟨Nat.zero_le _, rfl⟩ ?_ ?_
  · exact xh (ms := []) (by repeat (exact Out.refl _)) ⟨(by rfl), trivial⟩ trivial
  ·
   intro k ⟨hk, hf⟩
   refine awp_seq ?_
   refine awp_seq ?_
   refine xa 4 ?_
   refine rg_q (q_m rfl) (rg_q (q_move (x := .d (.sl _ _)) rfl) ?_)
   refine rg_q (q_len isl26 rfl (by exact len_map _ _)) ?_
   refine rg_q (q_lss rfl rfl) ?_
   refine xc (awp_len (t := 12) rfl (fun hl12 => ?_))
   (try simp only [List.length_map] at hl12)
   refine awp_cond rfl (fun hc4 => ?_) (fun hc4 => ?_)
   ·
    (try simp only [nb, ne_eq] at hc4)
    have hlt : k < l.length := by omega
    obtain ⟨x, hx⟩ : ∃ x, l[k]? = some x := ⟨_, List.getElem?_eq_getElem hlt⟩
    obtain ⟨y, hy⟩ : ∃ y, m[k]? = some y := ⟨_, List.getElem?_eq_getElem (by omega)⟩
    refine awp_skip ?_
    change Awp _ _ _ _ _
    refine awp_seq ?_
    refine awp_block ?_
    refine awp_seq ?_
    refine xa 9 ?_
    refine rg_q (q_move (x := .d (.sl _ _)) rfl) (rg_q (q_m rfl) ?_)
    refine rg_q (q_indexAddr sl26 rfl rfl (by omega) (map_at (k := k) (by omega) hx)) ?_
    refine rg_q (q_load sz3 rfl rfl) (rg_q (q_move (x := .d (.sl _ _)) rfl) (rg_q (q_m rfl) ?_))
    refine rg_q (q_indexAddr sl26 rfl rfl (by omega) (map_at (k := k) (by omega) hy)) ?_
    refine rg_q (q_load sz3 rfl rfl) (rg_q (q_neq rfl rfl) ?_)
    refine xc (awp_cond rfl (fun hc6 => ?_) (fun hc6 => ?_))
    ·
     (try simp only [nb, ne_eq] at hc6)
     have hz : decide (l = m) = false := decide_eq_false (fun e => by rw [e, hy] at hx; have := Option.some.inj hx; omega)
     refine awp_seq ?_
     refine xa 1 ?_
     refine rg_q (q_a rfl) ?_
     refine xc (awp_ret ?_)
     refine ⟨_, xk1, ?_⟩
     rw [hz]; rfl
    ·
     (try simp only [nb, ne_eq] at hc6)
     have hxy : x = y := by omega
     have hnx : l.take (k + 1) = m.take (k + 1) := by rw [List.take_succ_eq_append_getElem hlt, List.take_succ_eq_append_getElem (by omega), hf, (List.getElem?_eq_some_iff.1 hx).2, (List.getElem?_eq_some_iff.1 hy).2, hxy]
     refine awp_skip ?_
     change Awp _ _ _ _ _
     refine xa 3 ?_
     refine rg_q (q_m rfl) ?_
     refine rg_q (q_add rfl rfl xi) ?_
     refine rg_q (q_a rfl) ?_
     refine rn ?_
     refine ⟨k + 1, ⟨by omega, hnx⟩, by omega, ?_⟩
     exact xh (ms := []) (by repeat (first | exact Out.head rfl rfl | (refine Out.put ?_ rfl))) ⟨(by rfl), trivial⟩ trivial
   ·
    (try simp only [nb, ne_eq] at hc4)
    have hz : decide (l = m) = true := decide_eq_true (by rw [← List.take_of_length_le (l := l) (i := k) (by omega), hf, List.take_of_length_le (by omega)])
    refine awp_exit ?_
    change Awp _ _ _ _ _
    refine awp_seq ?_
    refine xa 1 ?_
    refine rg_q (q_a rfl) ?_
    refine xc (awp_ret ?_)
    refine ⟨_, xk1, ?_⟩
    rw [hz]; rfl

theorem ex_vl : vlI oneT 0 = ((30, -20), 1) := by decide +kernel
theorem ex_en : endI oneT 0 = ((30, 30), -20, -20) := by decide +kernel
theorem ex_pk : peaksR ⟨0, 0, 3, 1, 1⟩ [5, 1, 5] = ([0, 2], 0) := by decide +kernel
theorem ex_de : dealR 2 [[1, 0], []] = (1, 0) := by decide +kernel
theorem ex_cz : cz 30 (-20) = .v (.complex .f64 4629137466983448576 13849694754071117824) := by
  have h1 : FloatKind.f64.nearest 30 = 4629137466983448576 := by decide +kernel
  have h2 : FloatKind.f64.nearest (-20) = 13849694754071117824 := by decide +kernel
  unfold cz; rw [h1, h2]

theorem exB_wh : WhlL exB := by
  have h3 : (0 :: 0 :: 30 :: -20 :: List.replicate 60 0 : List Int).map FloatKind.f32.nearest = exB := by decide +kernel
  have h4 : ∀ n ∈ (0 :: 0 :: 30 :: -20 :: List.replicate 60 0 : List Int), -2047 ≤ n ∧ n ≤ 2047 := by decide +kernel
  intro b hb
  rw [← h3] at hb
  obtain ⟨n, hn, rfl⟩ := List.mem_map.1 hb
  have hw := whl_fn (h4 n hn).1 (h4 n hn).2
  rw [hw.v]; exact hw
theorem oneT_ok : TskOk oneT := ⟨by decide +kernel, by decide, by decide, by decide +kernel, exB_wh, by decide, by decide +kernel, by decide, by decide, by decide +kernel, by decide +kernel⟩
theorem oneT_c : clE oneT.g 0 = 0 := by decide +kernel
theorem awake5_p  : PC Tryz.prog 4 [] (.v (.bool (true))) := by
 refine pc_of_awpN Tryz.func4 rfl Tryz.ntmps4 (rs := [.tmp 0]) Tryz.results4 (by simp) fun w0 hmine hrnd hpn => ?_
 refine awp_seq ?_
 refine xa 1 ?_
 refine rg_q (q_a rfl) ?_
 refine rs (xa 9 ?_)
 refine rg_q (q_call en14 .nil rfl (one5_p)) ?_
 refine rg_q (q_call en13 (.cons rfl (.cons rfl .nil)) rfl ((by have h := valueAt_p oneT 0 oneT_ok oneT_c; rw [ex_vl, ex_cz] at h; exact h))) ?_
 refine rg_q (q_move (x := .d (.tup _)) rfl) (rg_q (q_extract rfl rfl) (rg_q (q_extract rfl rfl) (rg_q (q_extract rfl rfl) (rg_q (q_a rfl) (rg_q (q_a rfl) ?_)))))
 refine rg_q (q_a rfl) ?_
 refine rs (xa 5 ?_)
 refine rg_q (q_call en14 .nil rfl (one5_p)) ?_
 refine rg_q (q_call en15 (.cons rfl (.cons rfl .nil)) rfl ((by have h := endsAt_p oneT 0 oneT_ok oneT_c; rw [ex_en] at h; exact h))) ?_
 refine rg_q (q_move (x := .d (.tup _)) rfl) (rg_q (q_extract rfl rfl) (rg_q (q_extract rfl rfl) ?_))
 refine rg_nil ?_
 refine aops_alloc zr59 rfl rfl rfl ?_
 refine aops_store sz59 rfl rfl (by exact .inr ⟨_, rfl⟩) rfl rfl (by decide) rfl ?_
 refine aops_q rfl (q_a rfl) ?_
 refine aops_nil (xq (xa 8 ?_))
 refine rg_q (q_build (cs := [_, _, _, _, _]) pl25 zr25 rfl (.cons rfl (by exact .inl rfl) (.cons rfl (by exact .inl rfl) (.cons rfl (by exact .inl rfl) .nil))) ⟨⟨rfl, by decide⟩, ⟨rfl, by decide⟩, ⟨rfl, by decide⟩, trivial⟩ rfl) ?_
 refine rg_q (q_buildSlice sl26 zr3 rfl rfl (by decide) (.cons rfl (by exact .inl rfl) (.cons rfl (by exact .inl rfl) (.cons rfl (by exact .inl rfl) .nil))) ⟨rfl, rfl, rfl, rfl, rfl, rfl, trivial⟩ rfl (by decide) rfl) ?_
 refine rg_q (q_call en16 (.cons rfl (.cons rfl .nil)) rfl ((by have h := peaks_p ⟨0, 0, 3, 1, 1⟩ [5, 1, 5]; rw [ex_pk] at h; exact h))) ?_
 refine rg_q (q_move (x := .d (.tup _)) rfl) (rg_q (q_extract rfl rfl) (rg_q (q_extract rfl rfl) (rg_q (q_assign (x := .d (.sl _ _)) rfl) (rg_q (q_a rfl) ?_))))
 refine rs (xa 9 ?_)
 refine rg_q (q_buildSlice sl26 zr3 rfl rfl (by decide) (.cons rfl (by exact .inl rfl) (.cons rfl (by exact .inl rfl) .nil)) ⟨rfl, rfl, rfl, rfl, trivial⟩ rfl (by decide) rfl) ?_
 refine rg_q (q_buildSlice sl26 zr3 rfl rfl (by decide) .nil trivial rfl (by decide) rfl) ?_
 refine rg_q (q_buildSlice sl66 zr26 rfl rfl (by decide) (.cons rfl (by exact .inl rfl) (.cons rfl (by exact .inl rfl) .nil)) ⟨rfl, rfl, rfl, rfl, trivial⟩ rfl (by decide) rfl) ?_
 refine rg_q (q_call en17 (.cons rfl (.cons rfl .nil)) rfl ((by have h := checkDeal_p 2 [[1, 0], []]; rw [ex_de] at h; exact h))) ?_
 refine rg_q (q_move (x := .d (.tup _)) rfl) (rg_q (q_extract rfl rfl) (rg_q (q_extract rfl rfl) (rg_q (q_a rfl) (rg_q (q_a rfl) ?_))))
 refine rs (xa 39 ?_)
 refine rg_q (q_m rfl) (rg_q (q_eql rfl rfl) (rg_q (q_m rfl) ?_))
 refine rg_g rfl rfl (fun hG => (q_m rfl)) ?_
 refine rg_g rfl rfl (fun hG => (q_call en18 (.cons rfl (.cons rfl .nil)) rfl (sameBits_p 4629137466983448576 13849694754071117824 4629137466983448576 13849694754071117824))) ?_
 refine rg_pick rfl rfl rfl rfl rfl rfl ?_
 refine rg_q (q_m rfl) ?_
 refine rg_g rfl rfl (fun hG => (q_m rfl)) ?_
 refine rg_g rfl rfl (fun hG => (q_eql rfl rfl)) ?_
 refine rg_pick rfl rfl rfl rfl rfl rfl ?_
 refine rg_q (q_m rfl) ?_
 refine rg_g rfl rfl (fun hG => (q_m rfl)) ?_
 refine rg_g rfl rfl (fun hG => (q_eql rfl rfl)) ?_
 refine rg_pick rfl rfl rfl rfl rfl rfl ?_
 refine rg_q (q_m rfl) ?_
 refine rg_g rfl rfl (fun hG => (q_load_refA (ds := [_, _, _, _]) sz59 rfl rfl rfl rfl)) ?_
 refine rg_g rfl rfl (fun hG => (q_build (cs := [_, _]) pl58 zr58 rfl (.cons rfl (by exact .inl rfl) (.cons rfl (by exact .inl rfl) .nil)) ⟨⟨rfl, by decide⟩, ⟨rfl, by decide⟩, trivial⟩ rfl)) ?_
 refine rg_g rfl rfl (fun hG => (q_build (cs := [_, _]) pl58 zr58 rfl (.cons rfl (by exact .inl rfl) (.cons rfl (by exact .inl rfl) .nil)) ⟨⟨rfl, by decide⟩, ⟨rfl, by decide⟩, trivial⟩ rfl)) ?_
 refine rg_g rfl rfl (fun hG => (q_buildA (cs := [_, _, _, _]) ar59 zr59 rfl (.cons rfl (by exact .inr ⟨_, rfl⟩) (.cons rfl (by exact .inr ⟨_, rfl⟩) .nil)) ⟨⟨rfl, by decide⟩, ⟨rfl, by decide⟩, trivial⟩ rfl)) ?_
 refine rg_g rfl rfl (fun hG => (q_eqlI (xs := [_, _, _, _]) (ys := [_, _, _, _]) eqi59 rfl rfl rfl rfl)) ?_
 refine rg_pick rfl rfl rfl rfl rfl rfl ?_
 refine rg_q (q_m rfl) ?_
 refine rg_g rfl rfl (fun hG => (q_m rfl)) ?_
 refine rg_g rfl rfl (fun hG => (q_eql rfl rfl)) ?_
 refine rg_pick rfl rfl rfl rfl rfl rfl ?_
 refine rg_q (q_m rfl) ?_
 refine rg_g rfl rfl (fun hG => (q_move (x := .d (.sl _ _)) rfl)) ?_
 refine rg_g rfl rfl (fun hG => (q_buildSlice sl26 zr3 rfl rfl (by decide) (.cons rfl (by exact .inl rfl) (.cons rfl (by exact .inl rfl) .nil)) ⟨rfl, rfl, rfl, rfl, trivial⟩ rfl (by decide) rfl)) ?_
 refine rg_g rfl rfl (fun hG => (q_call en11 (.cons rfl (.cons rfl .nil)) rfl (ints5_p [0, 2] [0, 2]))) ?_
 refine rg_pick rfl rfl rfl rfl rfl rfl ?_
 refine rg_q (q_m rfl) ?_
 refine rg_g rfl rfl (fun hG => (q_m rfl)) ?_
 refine rg_g rfl rfl (fun hG => (q_eql rfl rfl)) ?_
 refine rg_pick rfl rfl rfl rfl rfl rfl ?_
 refine rg_q (q_m rfl) ?_
 refine rg_g rfl rfl (fun hG => (q_m rfl)) ?_
 refine rg_g rfl rfl (fun hG => (q_eql rfl rfl)) ?_
 refine rg_pick rfl rfl rfl rfl rfl rfl ?_
 refine rg_q (q_a rfl) ?_
 refine xc (awp_ret ?_)
 refine ⟨_, xk1, ?_⟩
 simp [retD, sbB]
end Go.Proofs.YtcdccdcbfbakfaaGreatDoor.Am.M
-- mini
set_option maxRecDepth 100000
namespace Go.Proofs.YtcdccdcbfbakfaaGreatDoor.Am.M
open Go

theorem rcells_p (g : Grd) (hg : GrdOk g) : PC Tryz.prog 24 [.agg (grdC g)] (.v (.int .i64 (g.co * g.ro))) := by
 have hci := cells_in hg
 obtain ⟨x1, x2, z1, z2, c1, c2, r1, r2, s1, s2⟩ := hg
 refine pc_of_awp Tryz.func24 rfl Tryz.ntmps24 (rs := [.tmp 2]) Tryz.results24 (by simp) fun w0 => ?_
 refine awp_seq ?_
 refine xa 2 ?_
 refine rg_q (q_box rfl (by exact .inr ⟨_, rfl⟩)) ?_
 refine rg_q (q_a rfl) ?_
 refine rs (xa 6 ?_)
 refine rg_q (q_fieldAddr fld25_1 rfl) (rg_q (q_load sz3 rfl rfl) (rg_q (q_fieldAddr fld25_2 rfl) (rg_q (q_load sz3 rfl rfl) ?_)))
 refine rg_q (q_mul rfl rfl xi) ?_
 refine rg_q (q_a rfl) ?_
 refine xc (awp_ret ?_)
 refine ⟨_, xk1, ?_⟩
 rfl
theorem rspot_p (g : Grd) (c : Int) (hg : GrdOk g) (h1 : 0 ≤ c) (h2 : c ≤ 10000) : PC Tryz.prog 54 [.agg (grdC g), .v (.int .i64 (c))] (.agg (shC (spI g c))) := by
 have hsi := spot_in hg h1 h2
 obtain ⟨x1, x2, z1, z2, c1, c2, r1, r2, s1, s2⟩ := hg
 obtain ⟨m1, m2⟩ := tmodP_in h1 c1
 obtain ⟨d1, d2⟩ := tdivP_in h1 c1
 obtain ⟨⟨a1, a2⟩, a3, a4⟩ := hsi
 refine pc_of_awp Tryz.func54 rfl Tryz.ntmps54 (rs := [.cell 4 23]) Tryz.results54 (by simp) fun w0 => ?_
 refine awp_seq ?_
 refine xa 1 ?_
 refine rg_q (q_box rfl (by exact .inr ⟨_, rfl⟩)) ?_
 refine rg_nil ?_
 refine aops_alloc zr23 rfl rfl rfl ?_
 refine aops_nil (xq (xa 23 ?_))
 refine rg_q (q_fieldAddr fld25_0 rfl) (rg_q (q_fieldAddr fld23_0 rfl) (rg_q (q_load sz3 rfl rfl) (rg_q (q_m rfl) (rg_q (q_fieldAddr fld25_1 rfl) (rg_q (q_load sz3 rfl rfl) ?_)))))
 refine rg_q (q_rem rfl rfl (by omega)) ?_
 refine rg_q (q_fieldAddr fld25_3 rfl) (rg_q (q_load sz3 rfl rfl) ?_)
 refine rg_q (q_mul rfl rfl xi) ?_
 refine rg_q (q_add rfl rfl xi) ?_
 refine rg_q (q_fieldAddr fld25_0 rfl) (rg_q (q_fieldAddr fld23_1 rfl) (rg_q (q_load sz3 rfl rfl) (rg_q (q_m rfl) (rg_q (q_fieldAddr fld25_1 rfl) (rg_q (q_load sz3 rfl rfl) ?_)))))
 refine rg_q (q_quo rfl rfl (by omega) xi) ?_
 refine rg_q (q_fieldAddr fld25_3 rfl) (rg_q (q_load sz3 rfl rfl) ?_)
 refine rg_q (q_mul rfl rfl xi) ?_
 refine rg_q (q_add rfl rfl xi) ?_
 refine rg_q (q_build (cs := [_, _]) pl23 zr23 rfl (.cons rfl (by exact .inl rfl) (.cons rfl (by exact .inl rfl) .nil)) ⟨⟨rfl, by decide⟩, ⟨rfl, by decide⟩, trivial⟩ rfl) ?_
 refine rg_nil ?_
 refine aops_store sz23 rfl rfl (by exact .inr ⟨_, rfl⟩) rfl rfl (by decide) rfl ?_
 refine aops_nil ?_
 change Awp _ _ _ _ _
 refine awp_ret ?_
 refine ⟨_, (.cons (.cellA rfl rfl sz23 rfl) .nil), ?_⟩
 rfl
theorem rcheckGrid_p (g : Grd) : PC Tryz.prog 23 [.agg (grdC g)] (.v (.int .i64 (ckG g))) := by
 refine pc_of_awpN Tryz.func23 rfl Tryz.ntmps23 (rs := [.tmp 2]) Tryz.results23 (by simp) fun w0 hmine hrnd hpn => ?_
 refine awp_seq ?_
 refine xa 2 ?_
 refine rg_q (q_box rfl (by exact .inr ⟨_, rfl⟩)) ?_
 refine rg_q (q_a rfl) ?_
 refine rs (awp_seq ?_)
 refine xa 30 ?_
 refine rg_q (q_fieldAddr fld25_0 rfl) (rg_q (q_fieldAddr fld23_0 rfl) (rg_q (q_load sz3 rfl rfl) ?_))
 refine rg_q (q_call en19 (.cons rfl (.cons rfl (.cons rfl .nil))) rfl (within4_p _ _ _)) ?_
 refine rg_q (q_not rfl) (rg_q (q_m rfl) ?_)
 refine rg_g rfl rfl (fun hG => (q_fieldAddr fld25_0 rfl)) ?_
 refine rg_g rfl rfl (fun hG => (q_fieldAddr fld23_1 rfl)) ?_
 refine rg_g rfl rfl (fun hG => (q_load sz3 rfl rfl)) ?_
 refine rg_g rfl rfl (fun hG => (q_call en19 (.cons rfl (.cons rfl (.cons rfl .nil))) rfl (within4_p _ _ _))) ?_
 refine rg_g rfl rfl (fun hG => (q_not rfl)) ?_
 refine rg_pick rfl rfl rfl rfl rfl rfl ?_
 refine rg_q (q_m rfl) ?_
 refine rg_g rfl rfl (fun hG => (q_fieldAddr fld25_1 rfl)) ?_
 refine rg_g rfl rfl (fun hG => (q_load sz3 rfl rfl)) ?_
 refine rg_g rfl rfl (fun hG => (q_call en19 (.cons rfl (.cons rfl (.cons rfl .nil))) rfl (within4_p _ _ _))) ?_
 refine rg_g rfl rfl (fun hG => (q_not rfl)) ?_
 refine rg_pick rfl rfl rfl rfl rfl rfl ?_
 refine rg_q (q_m rfl) ?_
 refine rg_g rfl rfl (fun hG => (q_fieldAddr fld25_2 rfl)) ?_
 refine rg_g rfl rfl (fun hG => (q_load sz3 rfl rfl)) ?_
 refine rg_g rfl rfl (fun hG => (q_call en19 (.cons rfl (.cons rfl (.cons rfl .nil))) rfl (within4_p _ _ _))) ?_
 refine rg_g rfl rfl (fun hG => (q_not rfl)) ?_
 refine rg_pick rfl rfl rfl rfl rfl rfl ?_
 refine rg_q (q_m rfl) ?_
 refine rg_g rfl rfl (fun hG => (q_fieldAddr fld25_3 rfl)) ?_
 refine rg_g rfl rfl (fun hG => (q_load sz3 rfl rfl)) ?_
 refine rg_g rfl rfl (fun hG => (q_call en19 (.cons rfl (.cons rfl (.cons rfl .nil))) rfl (within4_p _ _ _))) ?_
 refine rg_g rfl rfl (fun hG => (q_not rfl)) ?_
 refine rg_pick rfl rfl rfl rfl rfl rfl ?_
 refine xc (awp_cond rfl (fun hc1 => ?_) (fun hc1 => ?_))
 ·
  (try simp only [nb, ne_eq] at hc1)
  have hb : grdB g = false := by
   cases q : grdB g with
   | false => rfl
   | true => unfold grdB at q; simp_all
  have hz : ckG g = 2 := by unfold ckG; rw [hb]; rfl
  refine awp_seq ?_
  refine xa 1 ?_
  refine rg_q (q_a rfl) ?_
  refine xc (awp_ret ?_)
  refine ⟨_, xk1, ?_⟩
  rw [hz]; rfl
 ·
  (try simp only [nb, ne_eq] at hc1)
  have hb : grdB g = true := by unfold grdB; simp_all
  have hg := grdB_ok hb
  have hci := cells_in hg
  have hz : ckG g = whenI (decide (100000 < (spI g (g.co * g.ro - 1)).1) || decide (100000 < (spI g (g.co * g.ro - 1)).2)) 8 := by unfold ckG; rw [if_pos hb]
  refine awp_skip ?_
  change Awp _ _ _ _ _
  refine awp_seq ?_
  refine awp_regionM 7 [none, none, none, none, none, some 3, some 3] mixed (by kernel_rfl) ?_
  refine rgm_q rfl (q_loadA (ds := [_, _, _, _, _]) sz25 rfl rfl rfl) ?_
  refine rgm_q rfl (q_loadA (ds := [_, _, _, _, _]) sz25 rfl rfl rfl) ?_
  refine rgm_q rfl (q_call en24 (.cons rfl .nil) rfl (rcells_p _ (by assumption))) ?_
  refine rgm_q rfl (q_sub rfl rfl xi) ?_
  refine rgm_q rfl (q_call en54 (.cons rfl (.cons rfl .nil)) rfl (rspot_p _ _ (by assumption) (by omega) (by omega))) ?_
  refine rgm_m (k := 3) rfl rfl (by rfl) (m_alloc zr23 rfl rfl) ?_
  refine rgm_m (k := 3) rfl rfl (by rfl) (m_store sz23 rfl rfl (by exact .inr ⟨_, rfl⟩) rfl rfl (by decide) rfl) ?_
  refine rgm_nil (aops_nil ?_)
  change Awp _ _ _ _ _
  refine awp_seq ?_
  refine awp_seq ?_
  refine xa 8 ?_
  refine rg_q (q_fieldAddr_ref fld23_0 rfl) (rg_q (q_load_ref sz3 rfl rfl rfl) (rg_q (q_gtr rfl rfl) (rg_q (q_m rfl) ?_)))
  refine rg_g rfl rfl (fun hG => (q_fieldAddr_ref fld23_1 rfl)) ?_
  refine rg_g rfl rfl (fun hG => (q_load_ref sz3 rfl rfl rfl)) ?_
  refine rg_g rfl rfl (fun hG => (q_gtr rfl rfl)) ?_
  refine rg_pick rfl rfl rfl rfl rfl rfl ?_
  refine xc (awp_cond rfl (fun hc4 => ?_) (fun hc4 => ?_))
  ·
   (try simp only [nb, ne_eq] at hc4)
   rw [show whenI (decide (100000 < (spI g (g.co * g.ro - 1)).1) || decide (100000 < (spI g (g.co * g.ro - 1)).2)) 8 = 8 from by unfold whenI; rw [if_pos (by simpa using hc4)]] at hz
   refine awp_seq ?_
   refine xa 1 ?_
   refine rg_q (q_a rfl) ?_
   refine xc (awp_ret ?_)
   refine ⟨_, xk1, ?_⟩
   rw [hz]; rfl
  ·
   (try simp only [nb, ne_eq] at hc4)
   rw [show whenI (decide (100000 < (spI g (g.co * g.ro - 1)).1) || decide (100000 < (spI g (g.co * g.ro - 1)).2)) 8 = 0 from by unfold whenI; rw [if_neg (by simp; omega)]] at hz
   refine awp_skip ?_
   change Awp _ _ _ _ _
   refine awp_seq ?_
   refine xa 1 ?_
   refine rg_q (q_a rfl) ?_
   refine xc (awp_ret ?_)
   refine ⟨_, xk1, ?_⟩
   rw [hz]; rfl
end Go.Proofs.YtcdccdcbfbakfaaGreatDoor.Am.M
-- mini
set_option maxRecDepth 100000
namespace Go.Proofs.YtcdccdcbfbakfaaGreatDoor.Am.M
open Go
theorem copyInts5_p (l : List Int) (hl : l.length ≤ 10000) : PC Tryz.prog 7 [.sl 1 (l.map iC)] (.sl 1 (l.map iC)) := by
 refine pc_of_awp Tryz.func7 rfl Tryz.ntmps7 (rs := [.tmp 2]) Tryz.results7 (by simp) fun w0 => ?_
 refine awp_seq ?_
 refine xa 1 ?_
 refine rg_q (q_assign (x := .d (.sl _ _)) rfl) ?_
 refine rs (xa 0 ?_)
 refine rg_nil ?_
 refine aops_empty sl26 zr3 rfl rfl ?_
 refine aops_q rfl (q_move (x := .d (.sl _ _)) rfl) ?_
 refine aops_append sl26 zr3 by3 rfl (by decide) rfl rfl rfl rfl (by (try simp only [List.length_map, List.length_append, List.length_cons, List.length_nil]); omega) (by (try simp only [List.length_map, List.length_append, List.length_cons, List.length_nil]); omega) rfl rfl ?_
 refine aops_q rfl (q_assign (x := .rs _) rfl) ?_
 refine aops_nil ?_
 change Awp _ _ _ _ _
 refine awp_ret ?_
 refine ⟨_, (.cons (.tmp (by exact .rs rfl)) .nil), ?_⟩
 rfl

end Go.Proofs.YtcdccdcbfbakfaaGreatDoor.Am.M
-- mini
set_option maxRecDepth 100000
namespace Go.Proofs.YtcdccdcbfbakfaaGreatDoor.Am.M
open Go

def smB (g : Grd) : Bool := if inR 1 g.co 40 = true ∧ inR 1 g.ro 40 = true then decide (g.co * g.ro ≤ 12) else true
theorem small_p (g : Grd) : PC Tryz.prog 5 [.agg (grdC g)] (.v (.bool (smB g))) := by
 refine pc_of_awpN Tryz.func5 rfl Tryz.ntmps5 (rs := [.tmp 2]) Tryz.results5 (by simp) fun w0 hmine hrnd hpn => ?_
 refine awp_seq ?_
 refine xa 2 ?_
 refine rg_q (q_box rfl (by exact .inr ⟨_, rfl⟩)) ?_
 refine rg_q (q_a rfl) ?_
 refine rs (awp_seq ?_)
 refine xa 10 ?_
 refine rg_q (q_fieldAddr fld25_1 rfl) (rg_q (q_load sz3 rfl rfl) ?_)
 refine rg_q (q_call en19 (.cons rfl (.cons rfl (.cons rfl .nil))) rfl (within4_p _ _ _)) ?_
 refine rg_q (q_not rfl) (rg_q (q_m rfl) ?_)
 refine rg_g rfl rfl (fun hG => (q_fieldAddr fld25_2 rfl)) ?_
 refine rg_g rfl rfl (fun hG => (q_load sz3 rfl rfl)) ?_
 refine rg_g rfl rfl (fun hG => (q_call en19 (.cons rfl (.cons rfl (.cons rfl .nil))) rfl (within4_p _ _ _))) ?_
 refine rg_g rfl rfl (fun hG => (q_not rfl)) ?_
 refine rg_pick rfl rfl rfl rfl rfl rfl ?_
 refine xc (awp_cond rfl (fun hc1 => ?_) (fun hc1 => ?_))
 ·
  (try simp only [nb, ne_eq] at hc1)
  have hz : smB g = true := by unfold smB; rw [if_neg (by rintro ⟨a, b⟩; rcases hc1 with q | q <;> simp_all)]
  refine awp_seq ?_
  refine xa 1 ?_
  refine rg_q (q_a rfl) ?_
  refine xc (awp_ret ?_)
  refine ⟨_, xk1, ?_⟩
  rw [hz]; rfl
 ·
  (try simp only [nb, ne_eq] at hc1)
  have hz : smB g = decide (g.co * g.ro ≤ 12) := by unfold smB; rw [if_pos hc1]
  obtain ⟨a1, a2⟩ := inR_iff.1 hc1.1
  obtain ⟨a3, a4⟩ := inR_iff.1 hc1.2
  have hm := mulb (a := g.co) (b := g.ro) (A := 40) (B := 40) (by omega) (by omega) (by omega) (by omega)
  refine awp_skip ?_
  change Awp _ _ _ _ _
  refine awp_seq ?_
  refine xa 7 ?_
  refine rg_q (q_fieldAddr fld25_1 rfl) (rg_q (q_load sz3 rfl rfl) (rg_q (q_fieldAddr fld25_2 rfl) (rg_q (q_load sz3 rfl rfl) ?_)))
  refine rg_q (q_mul rfl rfl xi) ?_
  refine rg_q (q_leq rfl rfl) (rg_q (q_a rfl) ?_)
  refine xc (awp_ret ?_)
  refine ⟨_, xk1, ?_⟩
  rw [hz]; rfl
theorem rpowersErr_p (g : Grd) (pw : List Int) : PC Tryz.prog 8 [.agg (grdC g), .sl 1 (pw.map iC)] (.v (.int .i64 (ofE g pw))) := by
 refine pc_of_awpN Tryz.func8 rfl Tryz.ntmps8 (rs := [.tmp 4]) Tryz.results8 (by simp) fun w0 hmine hrnd hpn => ?_
 refine awp_seq ?_
 refine xa 2 ?_
 refine rg_q (q_box rfl (by exact .inr ⟨_, rfl⟩)) ?_
 refine rg_q (q_a rfl) ?_
 refine rs (awp_seq ?_)
 refine xa 3 ?_
 refine rg_q (q_loadA (ds := [_, _, _, _, _]) sz25 rfl rfl rfl) ?_
 refine rg_q (q_call en23 (.cons rfl .nil) rfl (rcheckGrid_p _)) ?_
 refine rg_q (q_a rfl) ?_
 refine rs (xa 2 ?_)
 refine rg_q (q_m rfl) (rg_q (q_neq rfl rfl) ?_)
 refine xc (awp_cond rfl (fun hc2 => ?_) (fun hc2 => ?_))
 ·
  (try simp only [nb, ne_eq] at hc2)
  have hz : ofE g pw = ckG g := by unfold ofE; rw [if_pos hc2]
  refine awp_seq ?_
  refine xa 2 ?_
  refine rg_q (q_m rfl) (rg_q (q_a rfl) ?_)
  refine xc (awp_ret ?_)
  refine ⟨_, xk1, ?_⟩
  rw [hz]; rfl
 ·
  (try simp only [nb, ne_eq] at hc2)
  have hg0 : ckG g = 0 := hc2
  obtain ⟨hg, _, _⟩ := ckG_ok hg0
  have hci := cells_in hg
  refine awp_skip ?_
  change Awp _ _ _ _ _
  refine awp_seq ?_
  refine awp_seq ?_
  refine xa 5 ?_
  refine rg_q (q_move (x := .d (.sl _ _)) rfl) ?_
  refine rg_q (q_len isl26 rfl (by exact len_map _ _)) ?_
  refine rg_q (q_loadA (ds := [_, _, _, _, _]) sz25 rfl rfl rfl) ?_
  refine rg_q (q_call en24 (.cons rfl .nil) rfl (rcells_p _ (by assumption))) ?_
  refine rg_q (q_neq rfl rfl) ?_
  refine xc (awp_len (t := 12) rfl (fun hl12 => ?_))
  (try simp only [List.length_map] at hl12)
  refine awp_cond rfl (fun hc4 => ?_) (fun hc4 => ?_)
  ·
   (try simp only [nb, ne_eq] at hc4)
   have hz : ofE g pw = 10 := by unfold ofE; rw [if_neg (fun q => q hg0), if_pos (by simpa using hc4)]
   refine awp_seq ?_
   refine xa 1 ?_
   refine rg_q (q_a rfl) ?_
   refine xc (awp_ret ?_)
   refine ⟨_, xk1, ?_⟩
   rw [hz]; rfl
  ·
   (try simp only [nb, ne_eq] at hc4)
   have hz0 : ofE g pw = whenI (pw.any pwB) 2 := by unfold ofE; rw [if_neg (fun q => q hg0), if_neg (by simpa using hc4)]
   refine awp_skip ?_
   change Awp _ _ _ _ _
   refine awp_seq ?_
   refine awp_seq ?_
   refine xa 1 ?_
   refine rg_q (q_a rfl) ?_
   refine xc (awp_block ?_)
   refine awp_loopH [4, 6, 17, 18, 19, 20, 21, 22, 23, 24, 25, 26, 27, 28] [] (α := Nat) (fun k => [(6, T.i (k : Int))]) (fun k => []) (fun k => k ≤ pw.length ∧ (pw.take k).any pwB = false) (fun k => pw.length - k) 0 ⟨Nat.zero_le _, by simp⟩ ?_ ?_
   · exact xh (ms := []) (by repeat (exact Out.refl _)) ⟨(by rfl), trivial⟩ trivial
   ·
    intro k ⟨hk, hf⟩
    refine awp_seq ?_
    refine awp_seq ?_
    refine xa 4 ?_
    refine rg_q (q_m rfl) (rg_q (q_move (x := .d (.sl _ _)) rfl) ?_)
    refine rg_q (q_len isl26 rfl (by exact len_map _ _)) ?_
    refine rg_q (q_lss rfl rfl) ?_
    refine xc (awp_len (t := 18) rfl (fun hl18 => ?_))
    (try simp only [List.length_map] at hl18)
    refine awp_cond rfl (fun hc7 => ?_) (fun hc7 => ?_)
    ·
     (try simp only [nb, ne_eq] at hc7)
     have hlt : k < pw.length := by omega
     obtain ⟨v, hx⟩ : ∃ v, pw[k]? = some v := ⟨_, List.getElem?_eq_getElem hlt⟩
     refine awp_skip ?_
     change Awp _ _ _ _ _
     refine awp_seq ?_
     refine awp_block ?_
     refine awp_seq ?_
     refine xa 6 ?_
     refine rg_q (q_move (x := .d (.sl _ _)) rfl) (rg_q (q_m rfl) ?_)
     refine rg_q (q_indexAddr sl26 rfl rfl (by omega) (map_at (by omega) hx)) ?_
     refine rg_q (q_load sz3 rfl rfl) ?_
     refine rg_q (q_call en19 (.cons rfl (.cons rfl (.cons rfl .nil))) rfl (within4_p _ _ _)) ?_
     refine rg_q (q_not rfl) ?_
     refine xc (awp_cond rfl (fun hc9 => ?_) (fun hc9 => ?_))
     ·
      (try simp only [nb, ne_eq] at hc9)
      have hz : ofE g pw = 2 := by rw [hz0, List.any_eq_true.2 ⟨v, List.mem_of_getElem? hx, by unfold pwB; rw [hc9]; rfl⟩]; rfl
      refine awp_seq ?_
      refine xa 1 ?_
      refine rg_q (q_a rfl) ?_
      refine xc (awp_ret ?_)
      refine ⟨_, xk1, ?_⟩
      rw [hz]; rfl
     ·
      (try simp only [nb, ne_eq] at hc9)
      have hnx : (pw.take (k + 1)).any pwB = false := by rw [takeSnoc hx]; exact anySnoc hf (by unfold pwB; rw [hc9]; rfl)
      refine awp_skip ?_
      change Awp _ _ _ _ _
      refine xa 3 ?_
      refine rg_q (q_m rfl) ?_
      refine rg_q (q_add rfl rfl xi) ?_
      refine rg_q (q_a rfl) ?_
      refine rn ?_
      refine ⟨k + 1, ⟨by omega, hnx⟩, by omega, ?_⟩
      exact xh (ms := []) (by repeat (first | exact Out.head rfl rfl | (refine Out.put ?_ rfl))) ⟨(by rfl), trivial⟩ trivial
    ·
     (try simp only [nb, ne_eq] at hc7)
     have hz : ofE g pw = 0 := by rw [hz0, ← List.take_length (l := pw), ← show k = pw.length from by omega, hf]; rfl
     refine awp_exit ?_
     change Awp _ _ _ _ _
     refine awp_seq ?_
     refine xa 1 ?_
     refine rg_q (q_a rfl) ?_
     refine xc (awp_ret ?_)
     refine ⟨_, xk1, ?_⟩
     rw [hz]; rfl
end Go.Proofs.YtcdccdcbfbakfaaGreatDoor.Am.M
