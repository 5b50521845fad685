/- Contracts over the abstract machine, joined. Conditions: none. -/
import Derived.Test.YtamaocfjknpadaaGreatJ3
import Derived.Test.YtamaocfjknpadaaGreatAmE
import Derived.Test.YtamaocfjknpadaaGreatJ1
import Derived.Test.YtamaocfjknpadaaGreatJ4
import Derived.Test.YtamaocfjknpadaaGreatAmF
import Derived.Test.YtamaocfjknpadaaGreatAm53
set_option linter.unusedVariables false
set_option linter.unusedSimpArgs false
-- mini
set_option maxRecDepth 100000
namespace Go.Proofs.YtamaocfjknpadaaGreat.Am.M
open Go

end Go.Proofs.YtamaocfjknpadaaGreat.Am.M
-- mini
set_option maxRecDepth 100000
namespace Go.Proofs.YtamaocfjknpadaaGreat.Am.M
open Go

open Go

def pwV (v : Int × Int) : Int := v.1 * v.1 + v.2 * v.2
def pwQ (t : Tsk) (k : Nat) : Int := pwV (vlA t (k : Int) [] (evL t)).1
theorem pw_img {t : Tsk} (h : TskOk t) : pwR (rimF t (evL t) (clN t)) = ((List.range (clN t)).map (pwQ t), 0) := by
  have hcl := cl_le h
  have hz : ∀ c : Nat, peI (czP (vlA t (c : Int) [] (evL t)).1) = 0 ∧ vZ (czP (vlA t (c : Int) [] (evL t)).1) = (vlA t (c : Int) [] (evL t)).1 := fun c => by
    have := vs_in h (c : Int) (ev_ok h).2
    exact cz_ok (by omega) (by omega)
  have hp : ∀ l : List Nat, peS (l.map fun c : Nat => czP (vlA t (c : Int) [] (evL t)).1) = 0 := by
    intro l
    induction l with
    | nil => rfl
    | cons c l ih =>
      rw [List.map_cons]
      unfold peS
      rw [if_neg (fun q => q (hz c).1)]
      exact ih
  unfold pwR
  rw [rimF_len, if_neg (by omega), if_neg (fun q => q (hp _))]
  congr 1
  unfold rimF
  rw [List.map_map]
  refine List.map_congr_left fun c _ => ?_
  show sqZ _ = pwV _
  unfold sqZ pwV
  rw [(hz c).2]
end Go.Proofs.YtamaocfjknpadaaGreat.Am.M
-- mini
set_option maxRecDepth 100000
namespace Go.Proofs.YtamaocfjknpadaaGreat.Am.M
open Go

end Go.Proofs.YtamaocfjknpadaaGreat.Am.M
-- mini
set_option maxRecDepth 100000
namespace Go.Proofs.YtamaocfjknpadaaGreat.Am.M
open Go

open Go

end Go.Proofs.YtamaocfjknpadaaGreat.Am.M
-- mini
set_option maxRecDepth 100000
namespace Go.Proofs.YtamaocfjknpadaaGreat.Am.M
open Go

end Go.Proofs.YtamaocfjknpadaaGreat.Am.M
-- mini
set_option maxRecDepth 100000
namespace Go.Proofs.YtamaocfjknpadaaGreat.Am.M
open Go
theorem openT_p (t : Tsk) (h : TskOk t) : PCS Tryz.prog 112 [.d (.agg (tskC t))] [] (T.tp 0 0 [.v (.int .i64 0)]) [.box (tkC t)] := by
  have hck := ckArr_zero h.ck
  obtain ⟨hao, _⟩ := ckArr_ok h.ck
  have hn1 := h.n1
  have hn2 := h.n2
  have hnl := h.nl
  have hwh := h.wh
  have hel := h.el
  obtain ⟨hg, hg1, hg2⟩ := ckG_ok h.gr
  have hci := cells_in hg
  have hz1 : inR 1 t.g.fz (t.ar.ou.t - 1) = true := inR_iff.2 ⟨h.z1, h.z2⟩
  have hz2 : inR 1 (spI t.g (t.g.co * t.g.ro - 1)).2 (t.ar.ou.t - 1) = true := inR_iff.2 ⟨h.z3, h.z4⟩
  have hgr := h.gr
  have ht1 := hao.ou.t1
  have ht2 := hao.ou.t2
  obtain ⟨hb1, hb2, hb3⟩ := tsk_len h
  refine pcs_of_awpU Tryz.func112 rfl Tryz.ntmps112 (rs := [.tmp 2, .tmp 3]) Tryz.results112 (by simp) rfl fun w0 hmine hrnd hpn => ?_
  refine awp_seq ?_
  refine xa 3 ?_
  refine rg_q (q_box rfl (by exact .inr ⟨_, rfl⟩)) ?_
  refine rg_q (q_a rfl) (rg_q (q_a rfl) ?_)
  refine rs (awp_seq ?_)
  refine xa 7 ?_
  refine rg_q (q_loadA sz37 rfl rfl rfl) ?_
  refine rg_q (q_call en20 (.cons rfl .nil) rfl (checkTask_p t h)) ?_
  refine rg_q (q_move (x := .d (.tup _)) rfl) (rg_q (q_extract rfl rfl) (rg_q (q_extract rfl rfl) (rg_q (q_a rfl) (rg_q (q_a rfl) ?_))))
  refine rs (xa 2 ?_)
  refine rg_q (q_m rfl) (rg_q (q_neq rfl rfl) ?_)
  refine xc (awp_cond rfl (fun hc2 => ?_) (fun hc2 => ?_))
  ·
    simp at hc2
  ·
    (try simp only [nb, ne_eq] at hc2)
    refine awp_skip ?_
    change Awp _ _ _ _ _
    refine awp_seq ?_
    refine xa 9 ?_
    refine rg_q (q_fieldAddr fld37_2 rfl) ?_
    refine rg_q (q_loadA (ds := [_, _, _, _, _]) sz35 rfl rfl rfl) ?_
    refine rg_q (q_build (cs := [_, _, _, _, _]) pl150 zr150 rfl (.cons rfl (by exact .inr ⟨_, rfl⟩) .nil) ⟨⟨rfl, by decide⟩, trivial⟩ rfl) ?_
    refine rg_q (q_fieldAddr fld37_0 rfl) ?_
    refine rg_q (q_loadA (ds := [_, _, _, _, _, _, _, _, _, _, _]) sz28 rfl rfl rfl) ?_
    refine rg_q (q_fieldAddr fld37_1 rfl) (rg_q (q_fieldAddr fld31_0 rfl) (rg_q (q_load sz3 rfl rfl) ?_))
    refine rg_q (q_build pl202 zr202 rfl (.cons rfl (by exact .inr ⟨_, rfl⟩) (.cons rfl (by exact .inr ⟨_, rfl⟩) (.cons rfl (by exact .inl rfl) .nil))) ⟨⟨rfl, by decide⟩, ⟨rfl, by decide⟩, ⟨rfl, by decide⟩, trivial⟩ rfl) ?_
    refine rg_nil ?_
    refine aops_box rfl (by exact .inr ⟨_, rfl⟩) rfl rfl rfl ?_
    refine aops_alloc zr156 rfl rfl rfl ?_
    refine aops_le (le_tbox (k := 6) (ts := [_]) rfl rfl) ?_
    refine aops_storeT (z := .ref _ _) sz156 rfl rfl rfl rfl (by decide) rfl ?_
    refine aops_nil (xq (awp_seq ?_))
    refine xa 4 ?_
    refine rg_q (q_fieldAddr fld37_1 rfl) (rg_q (q_fieldAddr fld31_1 rfl) (rg_q (q_load sz29 rfl rfl) ?_))
    refine rg_q (q_call en141 (.cons rfl (.cons rfl .nil)) rfl (chunk_p t.bf)) ?_
    refine xc (awp_block ?_)
    refine Awp.le (le_ownB 27 47 17 273 61 rfl rfl rfl) ?_
    refine awp_rangeHC (α := List Nat) (β := Nat) (n := 51) (enc := encK) (items := chF t.bf (tkM t)) 1000 [(6, .ref 6 0), (31, .d (.fn (.func 216) [.pt [.sl 1 (t.bf.map fC)] 0, .pt [.v (.int .i64 (64))] 0]))] (fun x => [(6, .tbox [.ref 27 0]), (27, .tbox [.d (.v (.int .i64 (t.g.fx))), .d (.v (.int .i64 (t.g.fz))), .d (.v (.int .i64 (t.g.co))), .d (.v (.int .i64 (t.g.ro))), .d (.v (.int .i64 (t.g.st))), .d (.sl 2 (t.ar.el.map shC)), .d (.v (.int .i64 (t.ar.ou.w))), .d (.v (.int .i64 (t.ar.ou.m))), .d (.v (.int .i64 (t.ar.ou.k))), .d (.v (.int .i64 (t.ar.ou.t))), .d (.v (.int .i64 (t.ar.ba.w))), .d (.v (.int .i64 (t.ar.ba.m))), .d (.v (.int .i64 (t.ar.ba.k))), .d (.v (.int .i64 (t.ar.ba.t))), .d (.v (.int .i64 (t.ar.ts.1))), .d (.v (.int .i64 (t.ar.ts.2))), .d (.v (.int .i64 (t.ne))), .rs 47]), (47, .row 273 61 (smR t.bf x))]) (fun k x => x = k) (fun e x => False) 0 27 5 (.sl 2 (t.ar.el.map shC)) hrnd ?_ (.inr ⟨rfl, rfl⟩) en216 (chunk_i t.bf (tkM t) hb1 (by omega)) rfl (fun _ => rfl) rfl (fun u x => fsl_mem (fsl_cons (fst_tbox (by repeat (first | exact ftl_nil | refine ftl_cons (by trivial) ?_))) (fsl_cons (fst_tbox (by repeat (first | exact ftl_nil | refine ftl_cons (by first | exact D.Flat.v _ | trivial) ?_))) (fsl_cons (smR_flat _ _) fsl_nil)))) (fun x => ⟨_, rfl, rfl⟩) (fun _ => rfl) rfl (fun h => by cases h) ?_ ?_ ?_
    · exact le_cst (fun k => k) _ _ rfl ⟨(by first | rfl), (by first | rfl), trivial⟩ ⟨(by first | rfl), (by first | rfl), (by first | rfl), trivial⟩ rfl (fun k b h => by rw [hpn k] at h; cases h)
    ·
      intro u w1 hw1 k x y hI hy
      subst hI
      obtain ⟨hlt, rfl⟩ := chF_at hy
      have hlk := chK_len hb1 hlt
      have hwk := chK_wh hwh x
      have hsl := smR_len t.bf x
      have hs1 : smR t.bf x ++ [anL ((chK t.bf x).map vI)] = smR t.bf (x + 1) := (smR_succ _ _).symm
      refine xa 1 ?_
      refine rg_q (q_assign (x := .d (.sl _ _)) rfl) ?_
      refine rn ?_
      refine ⟨rfl, fun w2 hw2 => ?_⟩
      refine awp_block ?_
      refine awp_seq ?_
      refine xa 7 ?_
      refine rg_q (q_move (x := .d (.sl _ _)) rfl) ?_
      refine rg_q (q_toArr (cs := (chK t.bf x).map fd) ar236 rfl (fd_row _).symm (by rw [List.length_map]; exact hlk) (by decide)) ?_
      refine rg_q (q_loadA (ds := (chK t.bf x).map fd) sz236 rfl (by rw [List.drop_zero]; exact List.take_of_length_le (by rw [List.length_map, hlk]; exact Nat.le_refl _)) (by rw [List.length_map]; exact hlk)) ?_
      refine rg_q (q_call en180 (.cons rfl .nil) rfl (analytic_p (chK t.bf x) hlk hwk)) ?_
      refine rg_q (q_move (x := .d (.tup _)) rfl) (rg_q (q_extract rfl rfl) (rg_q (q_extract rfl rfl) ?_))
      refine rg_nil ?_
      refine aops_allocD zr272 rfl sz272 rfl rfl (by exact .inr ⟨_, rfl⟩) (anL_len _) rfl ?_
      refine aops_q rfl (q_a rfl) ?_
      refine aops_nil ?_
      change Awp _ _ _ _ _
      refine awp_regionL 7 1 [0] mixed (by kernel_rfl) ?_
      refine rg_q (q_load_tb (x := .ref _ _) sz156 rfl rfl rfl) ?_
      refine rg_q (q_load_tb (x := .ref _ _) sz156 rfl rfl rfl) ?_
      refine rg_q (q_nilCheck_ref rfl) (rg_q (q_fieldAddr_ref fld202_3 rfl) ?_)
      refine rg_q (q_load_tb (x := .rs _) sz200 rfl rfl rfl) ?_
      refine rg_q (q_loadA sz272 rfl rfl rfl) ?_
      refine rg_q (q_buildSlice sl200 zr273 rfl rfl (by decide) (.cons rfl (by exact .inr ⟨_, rfl⟩) .nil) ⟨rfl, rfl, trivial⟩ rfl (by decide) rfl) ?_
      refine rg_nil ?_
      refine late_grow (c_append sl200 zr273 by273 rfl (by decide) rfl rfl rfl rfl (by (try simp only [List.length_map, List.length_append, List.length_cons, List.length_nil]); omega) (by (try simp only [List.length_map, List.length_append, List.length_cons, List.length_nil]); omega) rfl) ?_ ?_
      · refine fl_cons rfl rfl rfl (c_q (q_load_tb (x := .ref _ _) sz156 rfl rfl rfl)) ?_
        exact fl_nil
      refine late_nil ?_
      refine aops_q rfl (q_nilCheck_ref rfl) ?_
      refine aops_q rfl (q_fieldAddr_ref fld202_3 rfl) ?_
      refine aops_storeT (z := .rs _) sz200 rfl rfl rfl rfl (by simp) rfl ?_
      refine aops_nil ?_
      refine .inl ⟨rfl, x + 1, rfl, ?_⟩
      exact le_round [] _ hw2 rfl ⟨(by rfl), (by rfl), (by (show Site.row _ _ _ = Site.row _ _ _; rw [← hs1]; rfl)), trivial⟩ rfl
    ·
      intro x hI
      have hI2 : x = tkM t := by rw [hI]; unfold chF; rw [List.length_map, List.length_range]
      subst hI2
      change Awp _ _ _ _ _
      refine awp_seq ?_
      refine Awp.le (le_freezeTB 27 47 17 rfl rfl rfl rfl hmine) ?_
      refine Awp.le (le_boxT 27 (tkC t) rfl rfl (by intro j d h; match j, h with | 0, h | 1, h | 2, h | 3, h | 4, h | 5, h | 6, h | 7, h | 8, h | 9, h | 10, h | 11, h | 12, h | 13, h | 14, h | 15, h | 16, h | 17, h => cases h; rfl)) ?_
      refine xa 3 ?_
      refine rg_q (q_load_tb (x := .ref _ _) sz156 rfl rfl rfl) ?_
      refine rg_q (q_assign (x := .ref _ _) rfl) (rg_q (q_a rfl) ?_)
      refine xc (awp_ret ?_)
      exact endU_mk (.inl rfl) [27] (.tup rfl rfl) (by repeat (first | exact trivial | refine ⟨rfl, ?_⟩)) rfl
    ·
      exact fun e x h => h.elim
end Go.Proofs.YtamaocfjknpadaaGreat.Am.M
-- mini
set_option maxRecDepth 100000
namespace Go.Proofs.YtamaocfjknpadaaGreat.Am.M
open Go
theorem allT_p (t : Tsk) (h1 : 1 ≤ t.ne) (h2 : t.ne ≤ 16) : PCS Tryz.prog 96 [.ref 0 0] [.box (tkC t)] (.rs 1) [.box (tkC t), .row 3 1 ((allL t.ne.toNat).map iC)] := by
 refine pcs_of_awp Tryz.func96 rfl Tryz.ntmps96 (rs := [.tmp 2]) Tryz.results96 (by simp) fun w0 => ?_
 refine awp_seq ?_
 refine xa 1 ?_
 refine rg_q (q_assign (x := .d (.sl _ _)) rfl) ?_
 refine rs (xa 1 ?_)
 refine rg_q (q_assign_nil) ?_
 refine rn ?_
 change Awp _ _ _ _ _
 refine Awp.le (le_own (k := 3) (e := 3) (sz := 1) rfl rfl) ?_
 refine awp_seq ?_
 refine awp_seq ?_
 refine xa 5 ?_
 refine rg_q (q_move (x := .ref _ _) rfl) (rg_q (q_nilCheck_ref rfl) (rg_q (q_fieldAddr_ref fld202_2 rfl) (rg_q (q_load_ref sz3 rfl rfl rfl) (rg_q (q_m rfl) ?_))))
 refine xc (awp_block ?_)
 refine awp_loopH [3, 4, 9, 10, 11, 12, 13, 14, 15, 16] [3] (α := Nat) (fun k => [(9, T.i (k : Int)), (3, .rs 3)]) (fun k => [(3, .row 3 1 ((allL k).map iC))]) (fun k => k ≤ t.ne.toNat) (fun k => t.ne.toNat - k) 0 (Nat.zero_le _) ?_ ?_
 · exact xh (ms := [3]) (by repeat (exact Out.refl _)) ⟨(by rfl), (by rfl), trivial⟩ ⟨(by rfl), trivial⟩
 ·
  intro k hk
  have hal := allL_len k
  refine awp_seq ?_
  refine xa 1 ?_
  refine rg_q (q_lss rfl rfl) ?_
  refine rs (awp_cond rfl (fun hc3 => ?_) (fun hc3 => ?_))
  ·
   (try simp only [nb, ne_eq] at hc3)
   have hsk : (allL (k + 1)).map iC = (allL k).map iC ++ [[.v (.int .i64 (k : Int))]] := by rw [allL_succ, List.map_append]; rfl
   refine awp_skip ?_
   change Awp _ _ _ _ _
   refine awp_seq ?_
   refine awp_block ?_
   refine awp_seq ?_
   refine xa 2 ?_
   refine rg_q (q_m rfl) (rg_q (q_a rfl) ?_)
   refine rn ?_
   change Awp _ _ _ _ _
   refine xa 3 ?_
   refine rg_q (q_move (x := .rs _) rfl) (rg_q (q_m rfl) ?_)
   refine rg_q (q_buildSlice sl77 zr3 rfl rfl (by decide) (.cons rfl (by exact .inl rfl) .nil) ⟨rfl, rfl, trivial⟩ rfl (by decide) rfl) ?_
   refine rg_nil ?_
   refine aops_append sl77 zr3 by3 rfl (by decide) rfl rfl rfl rfl (by (try simp only [List.length_map, List.length_append, List.length_cons, List.length_nil]); omega) (by (try simp only [List.length_map, List.length_append, List.length_cons, List.length_nil]); omega) rfl rfl ?_
   refine aops_q rfl (q_assign (x := .rs _) rfl) ?_
   refine aops_nil ?_
   change Awp _ _ _ _ _
   refine xa 2 ?_
   refine rg_q (q_add rfl rfl xi) ?_
   refine rg_q (q_m rfl) ?_
   refine rn ?_
   refine ⟨k + 1, by omega, by omega, ?_⟩
   exact xh (ms := [3]) (by repeat (first | exact Out.head rfl rfl | (refine Out.put ?_ rfl) | (refine Out.site ?_ rfl) | (refine Out.killS ?_ rfl))) ⟨(by rfl), (by rfl), trivial⟩ ⟨(by ((show Site.row 3 1 _ = Site.row 3 1 _; rw [hsk]; rfl))), trivial⟩
  ·
   (try simp only [nb, ne_eq] at hc3)
   have hkn : k = t.ne.toNat := by omega
   subst hkn
   refine awp_exit ?_
   change Awp _ _ _ _ _
   refine awp_seq ?_
   refine xa 2 ?_
   refine rg_q (q_move (x := .rs _) rfl) (rg_q (q_assign (x := .rs _) rfl) ?_)
   refine xc (awp_ret ?_)
   exact end_mk (.inl rfl) [18, 3] (.tmp rfl) (by repeat (first | exact trivial | refine ⟨rfl, ?_⟩)) rfl
theorem valuesT_p (t : Tsk) (fs dd : List Int) (h : TskOk t) (hf : ∀ x ∈ fs, 0 ≤ x ∧ x < t.ne) (hfl : fs.length ≤ 100) : PCS Tryz.prog 114 [.ref 0 0, .d (.sl 1 (fs.map iC)), .d (.sl 1 (dd.map iC))] [.box (tkC t)] (.rs 1) [.box (tkC t), .row 160 2 ((vlsL t fs dd).map shC)] := by
 obtain ⟨hg, _, _⟩ := ckG_ok h.gr
 have hci := cells_in hg
 have hcn : ((clN t : Nat) : Int) = t.g.co * t.g.ro := by unfold clN; omega
 refine pcs_of_awp Tryz.func114 rfl Tryz.ntmps114 (rs := [.tmp 6]) Tryz.results114 (by simp) fun w0 => ?_
 refine awp_seq ?_
 refine xa 1 ?_
 refine rg_q (q_assign (x := .d (.sl _ _)) rfl) ?_
 refine rs (xa 1 ?_)
 refine rg_q (q_assign_nil) ?_
 refine rn ?_
 change Awp _ _ _ _ _
 refine Awp.le (le_own (k := 7) (e := 160) (sz := 2) rfl rfl) ?_
 refine awp_seq ?_
 refine awp_seq ?_
 refine xa 6 ?_
 refine rg_q (q_move (x := .ref _ _) rfl) (rg_q (q_nilCheck_ref rfl) (rg_q (q_fieldAddr_ref fld202_0 rfl) ?_))
 refine rg_q (q_load_refA (ds := [_, _, _, _, _]) sz150 rfl rfl rfl rfl) ?_
 refine rg_q (q_call en91 (.cons rfl .nil) rfl (fcells_p t.g hg)) ?_
 refine rg_q (q_m rfl) ?_
 refine xc (awp_block ?_)
 refine awp_loopH [7, 8, 9, 10, 16, 17, 18, 19, 20, 21, 22, 23, 24, 25, 26, 27, 28, 29, 30, 31] [7] (α := Nat) (fun k => [(16, T.i (k : Int)), (7, .rs 7)]) (fun k => [(7, .row 160 2 ((vlsF t fs dd k).map shC))]) (fun k => k ≤ clN t) (fun k => clN t - k) 0 (Nat.zero_le _) ?_ ?_
 · exact xh (ms := [7]) (by repeat (exact Out.refl _)) ⟨(by rfl), (by rfl), trivial⟩ ⟨(by rfl), trivial⟩
 ·
  intro k hk
  have hvl := vlsF_len t fs dd k
  refine awp_seq ?_
  refine xa 1 ?_
  refine rg_q (q_lss rfl rfl) ?_
  refine rs (awp_cond rfl (fun hc3 => ?_) (fun hc3 => ?_))
  ·
   (try simp only [nb, ne_eq] at hc3)
   have hlt : k < clN t := by omega
   have hck : clE t.g (k : Int) = 0 := clE_of (by omega) (by omega)
   have hsk : (vlsF t fs dd (k + 1)).map shC = (vlsF t fs dd k).map shC ++ [shC (vlA t (k : Int) dd (pqL fs t.ne.toNat)).1] := by rw [vlsF_succ, List.map_append]; rfl
   refine awp_skip ?_
   change Awp _ _ _ _ _
   refine awp_seq ?_
   refine awp_block ?_
   refine awp_seq ?_
   refine xa 2 ?_
   refine rg_q (q_m rfl) (rg_q (q_a rfl) ?_)
   refine rs (xa 8 ?_)
   refine rg_q (q_move (x := .ref _ _) rfl) (rg_q (q_m rfl) (rg_q (q_move (x := .d (.sl _ _)) rfl) (rg_q (q_move (x := .d (.sl _ _)) rfl) ?_)))
   refine rg_q (q_callF en95 (.cons (by exact .ref rfl) (.cons (by exact .d _) (.cons (by exact .d _) (.cons (by exact .d _) .nil)))) rfl (value_p t k fs dd h hck hf hfl) (by exact (D.Flat.tupF ⟨D.Flat.aggF (by repeat first | exact trivial | refine ⟨.v _, ?_⟩), .v _, trivial⟩))) ?_
   refine rg_q (q_move (x := .d (.tup _)) rfl) (rg_q (q_extract rfl rfl) (rg_q (q_extract rfl rfl) ?_))
   refine rg_nil ?_
   refine aops_allocD zr160 rfl sz160 rfl rfl (by exact .inr ⟨_, rfl⟩) rfl rfl ?_
   refine aops_q rfl (q_a rfl) ?_
   refine aops_nil ?_
   change Awp _ _ _ _ _
   refine xa 3 ?_
   refine rg_q (q_move (x := .rs _) rfl) ?_
   refine rg_q (q_loadA (ds := [_, _]) sz160 rfl rfl rfl) ?_
   refine rg_q (q_buildSlice sl189 zr160 rfl rfl (by decide) (.cons rfl (by exact .inr ⟨_, rfl⟩) .nil) ⟨rfl, rfl, trivial⟩ rfl (by decide) rfl) ?_
   refine rg_nil ?_
   refine aops_append sl189 zr160 by160 rfl (by decide) rfl rfl rfl rfl (by (try simp only [List.length_map, List.length_append, List.length_cons, List.length_nil]); omega) (by (try simp only [List.length_map, List.length_append, List.length_cons, List.length_nil]); omega) rfl rfl ?_
   refine aops_q rfl (q_assign (x := .rs _) rfl) ?_
   refine aops_nil ?_
   change Awp _ _ _ _ _
   refine xa 2 ?_
   refine rg_q (q_add rfl rfl xi) ?_
   refine rg_q (q_m rfl) ?_
   refine rn ?_
   refine ⟨k + 1, by omega, by omega, ?_⟩
   exact xh (ms := [7]) (by repeat (first | exact Out.head rfl rfl | (refine Out.put ?_ rfl) | (refine Out.site ?_ rfl) | (refine Out.killS ?_ rfl))) ⟨(by rfl), (by rfl), trivial⟩ ⟨(by ((show Site.row _ _ _ = Site.row _ _ _; (rw [hsk]; rfl)))), trivial⟩
  ·
   (try simp only [nb, ne_eq] at hc3)
   have hkn : k = clN t := by omega
   subst hkn
   refine awp_exit ?_
   change Awp _ _ _ _ _
   refine awp_seq ?_
   refine xa 2 ?_
   refine rg_q (q_move (x := .rs _) rfl) (rg_q (q_assign (x := .rs _) rfl) ?_)
   refine xc (awp_ret ?_)
   exact end_mk (.inl rfl) [33, 7] (.tmp rfl) (by repeat (first | exact trivial | refine ⟨rfl, ?_⟩)) rfl
end Go.Proofs.YtamaocfjknpadaaGreat.Am.M
-- mini
set_option maxRecDepth 100000
namespace Go.Proofs.YtamaocfjknpadaaGreat.Am.M
open Go
theorem bestNone_p (t : Tsk) (h : TskOk t) : PC Tryz.prog 46 [.agg (tskC t), .sl 8 []] (.tup [.sl 1 [], .sl 1 [], .v (.int .i64 (10))]) := by
 refine pc_of_awpN Tryz.func46 rfl Tryz.ntmps46 (rs := [.tmp 4, .tmp 5, .tmp 6]) Tryz.results46 (by simp) fun w0 hmine hrnd hpn => ?_
 refine awp_seq ?_
 refine xa 4 ?_
 refine rg_q (q_box rfl (by exact .inr ⟨_, rfl⟩)) ?_
 refine rg_q (q_assign (x := .d (.sl _ _)) rfl) (rg_q (q_assign (x := .d (.sl _ _)) rfl) (rg_q (q_a rfl) ?_))
 refine rs (xa 1 ?_)
 refine rg_q (q_loadA sz37 rfl rfl rfl) ?_
 refine rg_nil ?_
 refine aops_callL [27] [] en112 (openT_p t h) (.cons rfl .nil) rfl rfl rfl (by repeat (exact trivial)) (by repeat (first | exact trivial | refine ⟨rfl, ?_⟩)) rfl ?_
 refine aops_q rfl (q_move (x := .own _ _ _ _) rfl) ?_
 refine aops_q rfl (q_extract_tp0 rfl) ?_
 refine aops_q rfl (q_extract_tpS (i := 0) rfl rfl) ?_
 refine aops_q rfl (q_assign (x := .ref _ _) rfl) ?_
 refine aops_q rfl (q_a rfl) ?_
 refine aops_nil (xq (awp_seq ?_))
 refine xa 2 ?_
 refine rg_q (q_m rfl) (rg_q (q_neq rfl rfl) ?_)
 refine xc (awp_cond rfl (fun hc2 => ?_) (fun hc2 => ?_))
 ·
  simp at hc2
 ·
  (try simp only [nb, ne_eq] at hc2)
  refine awp_skip ?_
  change Awp _ _ _ _ _
  refine awp_seq ?_
  refine awp_block ?_
  refine awp_seq ?_
  refine xa 4 ?_
  refine rg_q (q_move (x := .d (.sl _ _)) rfl) ?_
  refine rg_q (q_len isl87 rfl (by rfl)) ?_
  refine rg_q (q_eql rfl rfl) (rg_q (q_a rfl) ?_)
  refine xc (awp_len (t := 29) rfl (fun hl29 => ?_))
  (try simp only [List.length_map] at hl29)
  refine awp_cond rfl (fun hc4 => ?_) (fun hc4 => ?_)
  ·
   (try simp only [nb, ne_eq] at hc4)
   refine awp_seq ?_
   refine xa 3 ?_
   refine rg_q (q_assign (x := .d (.sl _ _)) rfl) (rg_q (q_assign (x := .d (.sl _ _)) rfl) (rg_q (q_a rfl) ?_))
   refine xc (awp_ret ?_)
   refine ⟨_, xk3, ?_⟩
   rfl
  ·
   simp at hc4
end Go.Proofs.YtamaocfjknpadaaGreat.Am.M
-- mini
set_option maxRecDepth 100000
namespace Go.Proofs.YtamaocfjknpadaaGreat.Am.M
open Go

def md2C (m : Md × Md) : List D := mdC m.1 ++ mdC m.2
def mdE (th : Int) (m : Md × Md) : Int := firstE [modeE m.1, modeE m.2, whenI (decide (m.1.t ≠ th) || decide (m.2.t ≠ th)) 23]
def msE (th : Int) : List (Md × Md) → Int
  | [] => 0
  | m :: r => if mdE th m ≠ 0 then mdE th m else msE th r
theorem msE_at {th : Int} {ms : List (Md × Md)} {k : Nat} {x : Md × Md} (hx : ms[k]? = some x) : msE th (ms.drop k) = if mdE th x ≠ 0 then mdE th x else msE th (ms.drop (k + 1)) := by
  obtain ⟨hlt, rfl⟩ := List.getElem?_eq_some_iff.1 hx
  rw [List.drop_eq_getElem_cons hlt]; rfl
theorem bestErr_p (t : Tsk) (ms : List (Md × Md)) (h : TskOk t) (h1 : 1 ≤ ms.length) (h2 : ms.length ≤ 4) (hE : msE t.ar.ou.t ms ≠ 0) : PC Tryz.prog 46 [.agg (tskC t), .sl 8 (ms.map md2C)] (.tup [.sl 1 [], .sl 1 [], .v (.int .i64 (msE t.ar.ou.t ms))]) := by
 refine pc_of_awpN Tryz.func46 rfl Tryz.ntmps46 (rs := [.tmp 4, .tmp 5, .tmp 6]) Tryz.results46 (by simp) fun w0 hmine hrnd hpn => ?_
 refine awp_seq ?_
 refine xa 4 ?_
 refine rg_q (q_box rfl (by exact .inr ⟨_, rfl⟩)) ?_
 refine rg_q (q_assign (x := .d (.sl _ _)) rfl) (rg_q (q_assign (x := .d (.sl _ _)) rfl) (rg_q (q_a rfl) ?_))
 refine rs (xa 1 ?_)
 refine rg_q (q_loadA sz37 rfl rfl rfl) ?_
 refine rg_nil ?_
 refine aops_callL [27] [] en112 (openT_p t h) (.cons rfl .nil) rfl rfl rfl (by repeat (exact trivial)) (by repeat (first | exact trivial | refine ⟨rfl, ?_⟩)) rfl ?_
 refine aops_q rfl (q_move (x := .own _ _ _ _) rfl) ?_
 refine aops_q rfl (q_extract_tp0 rfl) ?_
 refine aops_q rfl (q_extract_tpS (i := 0) rfl rfl) ?_
 refine aops_q rfl (q_assign (x := .ref _ _) rfl) ?_
 refine aops_q rfl (q_a rfl) ?_
 refine aops_nil (xq (awp_seq ?_))
 refine xa 2 ?_
 refine rg_q (q_m rfl) (rg_q (q_neq rfl rfl) ?_)
 refine xc (awp_cond rfl (fun hc2 => ?_) (fun hc2 => ?_))
 ·
  simp at hc2
 ·
  (try simp only [nb, ne_eq] at hc2)
  refine awp_skip ?_
  change Awp _ _ _ _ _
  refine awp_seq ?_
  refine awp_block ?_
  refine awp_seq ?_
  refine xa 4 ?_
  refine rg_q (q_move (x := .d (.sl _ _)) rfl) ?_
  refine rg_q (q_len isl87 rfl (by exact len_map _ _)) ?_
  refine rg_q (q_eql rfl rfl) (rg_q (q_a rfl) ?_)
  refine xc (awp_len (t := 29) rfl (fun hl29 => ?_))
  (try simp only [List.length_map] at hl29)
  refine awp_cond rfl (fun hc4 => ?_) (fun hc4 => ?_)
  ·
   have hc4 := of_decide_eq_true hc4
   (try simp only [List.length_map] at hc4)
   omega
  ·
   (try simp only [nb, ne_eq] at hc4)
   refine awp_seq ?_
   refine xa 4 ?_
   refine rg_q (q_move (x := .d (.sl _ _)) rfl) ?_
   refine rg_q (q_len isl87 rfl (by exact len_map _ _)) ?_
   refine rg_q (q_gtr rfl rfl) (rg_q (q_a rfl) ?_)
   refine xc (awp_len (t := 33) rfl (fun hl33 => ?_))
   (try simp only [List.length_map] at hl33)
   refine awp_cond rfl (fun hc6 => ?_) (fun hc6 => ?_)
   ·
    have hc6 := of_decide_eq_true hc6
    (try simp only [List.length_map] at hc6)
    omega
   ·
    (try simp only [nb, ne_eq] at hc6)
    refine awp_skip ?_
    change Awp _ _ _ _ _
    refine awp_seq ?_
    refine xa 7 ?_
    refine rg_q (q_move (x := .ref _ _) rfl) (rg_q (q_nilCheck_ref rfl) (rg_q (q_fieldAddr_ref fld202_1 rfl) (rg_q (q_fieldAddr_ref fld28_1 rfl) (rg_q (q_fieldAddr_ref fld24_3 rfl) (rg_q (q_load_ref sz3 rfl rfl rfl) ?_)))))
    refine rg_q (q_a rfl) ?_
    refine rs (awp_seq ?_)
    refine xa 3 ?_
    refine rg_q (q_move (x := .d (.sl _ _)) rfl) ?_
    refine rg_q (q_len isl87 rfl (by exact len_map _ _)) ?_
    refine rg_q (q_m rfl) ?_
    refine xc (awp_len (t := 42) rfl (fun hl42 => ?_))
    (try simp only [List.length_map] at hl42)
    refine awp_block ?_
    refine awp_loopH [4, 5, 6, 11, 12, 44, 45, 46, 47, 48, 49, 50, 51, 52, 53, 54, 55, 56, 57, 58, 59, 60, 61, 62, 63, 64, 65, 66, 67, 68, 69, 70, 71, 72] [] (α := Nat) (fun k => [(44, T.i (k : Int))]) (fun k => []) (fun k => k ≤ ms.length ∧ msE t.ar.ou.t ms = msE t.ar.ou.t (ms.drop k)) (fun k => ms.length - k) 0 ⟨Nat.zero_le _, rfl⟩ ?_ ?_
    · exact xh (ms := []) (by repeat (exact Out.refl _)) ⟨(by rfl), trivial⟩ trivial
    ·
     intro k ⟨hk, hf⟩
     refine awp_seq ?_
     refine xa 1 ?_
     refine rg_q (q_lss rfl rfl) ?_
     refine rs (awp_cond rfl (fun hc10 => ?_) (fun hc10 => ?_))
     ·
      (try simp only [nb, ne_eq] at hc10)
      have hlt : k < ms.length := by omega
      obtain ⟨x, hx⟩ : ∃ x, ms[k]? = some x := ⟨_, List.getElem?_eq_getElem hlt⟩
      have hst := msE_at (th := t.ar.ou.t) hx
      refine awp_skip ?_
      change Awp _ _ _ _ _
      refine awp_seq ?_
      refine awp_block ?_
      refine awp_seq ?_
      refine xa 2 ?_
      refine rg_q (q_indexAddr sl87 rfl rfl (by omega) (map_at (k := k) (by omega) hx)) ?_
      refine rg_q (q_loadA (ds := [_, _, _, _, _, _, _, _]) sz203 rfl rfl rfl) ?_
      refine rg_nil ?_
      refine aops_alloc zr203 rfl rfl rfl ?_
      refine aops_store sz203 rfl rfl (by exact .inr ⟨_, rfl⟩) rfl rfl (by decide) rfl ?_
      refine aops_nil (xq (xa 22 ?_))
      refine rg_q (q_indexAddr_aref ar203 rfl rfl (by omega) (by omega)) ?_
      refine rg_q (q_load_refA (ds := [_, _, _, _]) sz24 rfl rfl rfl rfl) ?_
      refine rg_q (q_call en122 (.cons rfl .nil) rfl (checkMode_p _)) ?_
      refine rg_q (q_indexAddr_aref ar203 rfl rfl (by omega) (by omega)) ?_
      refine rg_q (q_load_refA (ds := [_, _, _, _]) sz24 rfl rfl rfl rfl) ?_
      refine rg_q (q_call en122 (.cons rfl .nil) rfl (checkMode_p _)) ?_
      refine rg_q (q_indexAddr_aref ar203 rfl rfl (by omega) (by omega)) ?_
      refine rg_q (q_fieldAddr_ref fld24_3 rfl) (rg_q (q_load_ref sz3 rfl rfl rfl) (rg_q (q_m rfl) (rg_q (q_neq rfl rfl) (rg_q (q_m rfl) ?_))))
      refine rg_g rfl rfl (fun hG => (q_indexAddr_aref ar203 rfl rfl (by (have hg0 := T.bool_inj (a := _) hG.1; (try simp only [nb, ne_eq] at hg0); omega)) (by (have hg0 := T.bool_inj (a := _) hG.1; (try simp only [nb, ne_eq] at hg0); omega)))) ?_
      refine rg_g rfl rfl (fun hG => (q_fieldAddr_ref fld24_3 rfl)) ?_
      refine rg_g rfl rfl (fun hG => (q_load_ref sz3 rfl rfl rfl)) ?_
      refine rg_g rfl rfl (fun hG => (q_m rfl)) ?_
      refine rg_g rfl rfl (fun hG => (q_neq rfl rfl)) ?_
      refine rg_pick rfl rfl rfl rfl rfl rfl ?_
      refine rg_q (q_call en88 (.cons rfl (.cons rfl .nil)) rfl (fwhen_p _ _)) ?_
      refine rg_q (q_buildSlice sl282 zr40 rfl rfl (by decide) (.cons rfl (by exact .inl rfl) (.cons rfl (by exact .inl rfl) (.cons rfl (by exact .inl rfl) .nil))) ⟨rfl, rfl, rfl, rfl, rfl, rfl, trivial⟩ rfl (by decide) rfl) ?_
      refine rg_q (q_call en117 (.cons rfl .nil) rfl (ffirst_p [_, _, _])) ?_
      refine rg_q (q_a rfl) ?_
      refine rs (xa 2 ?_)
      refine rg_q (q_m rfl) (rg_q (q_neq rfl rfl) ?_)
      refine xc (awp_cond rfl (fun hc13 => ?_) (fun hc13 => ?_))
      ·
       (try simp only [nb, ne_eq] at hc13)
       have hc13 : mdE t.ar.ou.t x ≠ 0 := hc13
       rw [if_pos hc13] at hst
       have hz : msE t.ar.ou.t ms = mdE t.ar.ou.t x := by rw [hf, hst]
       refine awp_seq ?_
       refine xa 4 ?_
       refine rg_q (q_m rfl) (rg_q (q_assign (x := .d (.sl _ _)) rfl) (rg_q (q_assign (x := .d (.sl _ _)) rfl) (rg_q (q_a rfl) ?_)))
       refine xc (awp_ret ?_)
       refine ⟨_, xk3, ?_⟩
       rw [hz]; rfl
      ·
       (try simp only [nb, ne_eq] at hc13)
       have hc13 : ¬ mdE t.ar.ou.t x ≠ 0 := fun q => q hc13
       rw [if_neg hc13] at hst
       refine awp_skip ?_
       change Awp _ _ _ _ _
       refine xa 2 ?_
       refine rg_q (q_add rfl rfl xi) ?_
       refine rg_q (q_m rfl) ?_
       refine rn ?_
       refine ⟨k + 1, ⟨by omega, by rw [hf, hst]⟩, by omega, ?_⟩
       exact xh (ms := []) (by repeat (first | exact Out.head rfl rfl | (refine Out.put ?_ rfl) | (refine Out.site ?_ rfl))) ⟨(by rfl), trivial⟩ trivial
     ·
      exfalso
      have hc10 := of_decide_eq_false hc10
      have hkn : k = ms.length := by (try simp only [List.length_map] at hc10); omega
      rw [hkn, List.drop_length] at hf
      exact hE hf
end Go.Proofs.YtamaocfjknpadaaGreat.Am.M
-- mini
set_option maxRecDepth 100000
namespace Go.Proofs.YtamaocfjknpadaaGreat.Am.M
open Go

def tM (t : Tsk) (m : Md × Md) : Tsk := ⟨⟨t.ar.el, m.1, m.2, t.ar.ts⟩, t.ne, t.bf, t.g⟩
theorem mdE_zero {th : Int} {m : Md × Md} (h : mdE th m = 0) : modeE m.1 = 0 ∧ modeE m.2 = 0 ∧ m.1.t = th ∧ m.2.t = th := by
  unfold mdE at h
  rw [first_zero] at h
  simp only [List.mem_cons, List.not_mem_nil, or_false, forall_eq_or_imp, forall_eq] at h
  obtain ⟨h1, h2, h3⟩ := h
  rw [when_zero (by decide), Bool.or_eq_false_iff, decide_eq_false_iff_not, decide_eq_false_iff_not] at h3
  exact ⟨h1, h2, Decidable.not_not.1 h3.1, Decidable.not_not.1 h3.2⟩
theorem tM_ok {t : Tsk} {m : Md × Md} (h : TskOk t) (hm : mdE t.ar.ou.t m = 0) : TskOk (tM t m) := by
  obtain ⟨h1, h2, h3, h4⟩ := mdE_zero hm
  refine ⟨?_, h.n1, h.n2, h.nl, h.wh, h.el, h.gr, h.z1, ?_, h.z3, ?_⟩
  · have hk := h.ck
    unfold ckArr at hk ⊢
    by_cases q1 : t.ar.el.length = 0
    · rw [if_pos q1] at hk; cases hk
    rw [if_neg q1] at hk
    by_cases q2 : 16 < t.ar.el.length
    · rw [if_pos q2] at hk; cases hk
    rw [if_neg q2] at hk
    by_cases q3 : (ckEls 0 t.ar.el).2 ≠ 0
    · rw [if_pos q3] at hk; exact absurd hk q3
    rw [if_neg q3] at hk
    rw [if_neg (show ¬ (tM t m).ar.el.length = 0 from q1), if_neg (show ¬ 16 < (tM t m).ar.el.length from q2), if_neg (show ¬ (ckEls 0 (tM t m).ar.el).2 ≠ 0 from q3)]
    simp only at hk ⊢
    unfold arrE0 at hk ⊢
    rw [first_zero] at hk ⊢
    simp only [List.mem_cons, List.not_mem_nil, or_false, forall_eq_or_imp, forall_eq] at hk ⊢
    refine ⟨h1, h2, ?_, hk.2.2.2⟩
    rw [when_zero (by decide), decide_eq_false_iff_not]
    exact fun q => q (h3.trans h4.symm)
  · show t.g.fz ≤ m.1.t - 1
    rw [h3]; exact h.z2
  · show (spI t.g (t.g.co * t.g.ro - 1)).2 ≤ m.1.t - 1
    rw [h3]; exact h.z4
theorem ms_all {th : Int} : ∀ {ms : List (Md × Md)}, msE th ms = 0 → ∀ m ∈ ms, mdE th m = 0
  | [], _, m, hm => by cases hm
  | x :: r, h, m, hm => by
    unfold msE at h
    by_cases q : mdE th x ≠ 0
    · rw [if_pos q] at h; exact absurd h q
    · rw [if_neg q] at h
      rcases List.mem_cons.1 hm with rfl | hm
      · exact Decidable.not_not.1 q
      · exact ms_all h m hm
def bsF (p : Nat → Nat → Int) : Nat → Nat → Int × Int
  | 0, _ => (0, 0)
  | i + 1, k => if i = 0 ∨ (bsF p i k).2 < p i k then ((i : Int), p i k) else bsF p i k
def bsL (p : Nat → Nat → Int) (n i j : Nat) (s : Int × Int → Int) : List Int := (List.range n).map fun k => s (bsF p (if k < j then i + 1 else i) k)
theorem bsL_len (p : Nat → Nat → Int) (n i j : Nat) (s : Int × Int → Int) : (bsL p n i j s).length = n := by unfold bsL; rw [List.length_map, List.length_range]
theorem bsL_get (p : Nat → Nat → Int) {n i j : Nat} (s : Int × Int → Int) {k : Nat} (h : k < n) : (bsL p n i j s)[k]? = some (s (bsF p (if k < j then i + 1 else i) k)) := by
  unfold bsL
  rw [List.getElem?_map, List.getElem?_range h]; rfl
theorem bsL_at (p : Nat → Nat → Int) {n i j : Nat} (s : Int × Int → Int) (h : j < n) : ((bsL p n i j s).map iC)[j]? = some (iC (s (bsF p i j))) := by
  rw [List.getElem?_map, bsL_get p s h, if_neg (Nat.lt_irrefl j)]; rfl
theorem bsL_set (p : Nat → Nat → Int) {n i j : Nat} (s : Int × Int → Int) (h : j < n) : ((bsL p n i j s).map iC).set j (iC (s (bsF p (i + 1) j))) = (bsL p n i (j + 1) s).map iC := by
  rw [← List.map_set]
  congr 1
  refine List.ext_getElem? fun k => ?_
  by_cases hk : k < n
  · rw [List.getElem?_set]
    by_cases e : j = k
    · subst e
      rw [if_pos rfl, bsL_len, if_pos h, bsL_get p s hk, if_pos (Nat.lt_succ_self j)]
    · rw [if_neg e, bsL_get p s hk, bsL_get p s hk]
      by_cases q : k < j
      · rw [if_pos q, if_pos (by omega)]
      · rw [if_neg q, if_neg (by omega)]
  · rw [List.getElem?_eq_none (by rw [List.length_set, bsL_len]; omega), List.getElem?_eq_none (by rw [bsL_len]; omega)]
theorem bsL_same (p : Nat → Nat → Int) {n i j : Nat} (s : Int × Int → Int) (h : j < n) (e : bsF p (i + 1) j = bsF p i j) : (bsL p n i j s).map iC = (bsL p n i (j + 1) s).map iC := by
  rw [← bsL_set p s h, e]
  refine (List.ext_getElem? fun k => ?_).symm
  rw [List.getElem?_set]
  by_cases q : j = k
  · subst q
    rw [if_pos rfl, bsL_at p s h, if_pos (by rw [List.length_map, bsL_len]; exact h)]
  · rw [if_neg q]
theorem bsL_done (p : Nat → Nat → Int) (n i : Nat) (s : Int × Int → Int) : bsL p n i n s = bsL p n (i + 1) 0 s := by
  unfold bsL
  refine List.map_congr_left fun k hk => ?_
  rw [if_pos (List.mem_range.1 hk), if_neg (Nat.not_lt_zero k)]
theorem bsL_zero (p : Nat → Nat → Int) (n : Nat) (s : Int × Int → Int) (h : s (0, 0) = 0) : (bsL p n 0 0 s).map iC = List.replicate n (iC 0) := by
  unfold bsL
  rw [List.map_map, List.eq_replicate_iff]
  refine ⟨by rw [List.length_map, List.length_range], fun x hx => ?_⟩
  obtain ⟨k, _, rfl⟩ := List.mem_map.1 hx
  show iC (s (bsF p (if k < 0 then 0 + 1 else 0) k)) = iC 0
  rw [if_neg (Nat.not_lt_zero k)]
  show iC (s (0, 0)) = iC 0
  rw [h]
def msP (t : Tsk) (ms : List (Md × Md)) (i k : Nat) : Int := match ms[i]? with
  | some m => pwQ (tM t m) k
  | none => 0
theorem msP_at {t : Tsk} {ms : List (Md × Md)} {i : Nat} {m : Md × Md} (h : ms[i]? = some m) (k : Nat) : msP t ms i k = pwQ (tM t m) k := by unfold msP; rw [h]
theorem vls_at {t : Tsk} {k : Nat} (h : k < clN t) : (vlsL t (allL t.ne.toNat) [])[k]? = some (vlA t (k : Int) [] (evL t)).1 := by
  unfold vlsL vlsF
  rw [List.getElem?_map, List.getElem?_range h]; rfl
theorem bs_up {p : Nat → Nat → Int} {i k : Nat} (h : i = 0 ∨ (bsF p i k).2 < p i k) : bsF p (i + 1) k = ((i : Int), p i k) := if_pos h
theorem bs_no {p : Nat → Nat → Int} {i k : Nat} (h : ¬ (i = 0 ∨ (bsF p i k).2 < p i k)) : bsF p (i + 1) k = bsF p i k := if_neg h
set_option maxHeartbeats 8000000 in
theorem bestOk_p (t : Tsk) (ms : List (Md × Md)) (h : TskOk t) (h1 : 1 ≤ ms.length) (h2 : ms.length ≤ 4) (hE : msE t.ar.ou.t ms = 0) : PC Tryz.prog 46 [.agg (tskC t), .sl 8 (ms.map md2C)] (.tup [.sl 1 ((bsL (msP t ms) (clN t) ms.length 0 Prod.fst).map iC), .sl 1 ((bsL (msP t ms) (clN t) ms.length 0 Prod.snd).map iC), .v (.int .i64 (0))]) := by
 obtain ⟨hg, _, _⟩ := ckG_ok h.gr
 have hci := cells_in hg
 have hcn : ((clN t : Nat) : Int) = t.g.co * t.g.ro := by unfold clN; omega
 have hall := ms_all hE
 obtain ⟨ha1, ha2⟩ := allL_ok h
 have hn1 := h.n1
 have hn2 := h.n2
 have hcl := cl_le h
 refine pc_of_awpN Tryz.func46 rfl Tryz.ntmps46 (rs := [.tmp 4, .tmp 5, .tmp 6]) Tryz.results46 (by simp) fun w0 hmine hrnd hpn => ?_
 refine awp_seq ?_
 refine xa 4 ?_
 refine rg_q (q_box rfl (by exact .inr ⟨_, rfl⟩)) ?_
 refine rg_q (q_assign (x := .d (.sl _ _)) rfl) (rg_q (q_assign (x := .d (.sl _ _)) rfl) (rg_q (q_a rfl) ?_))
 refine rs (xa 1 ?_)
 refine rg_q (q_loadA sz37 rfl rfl rfl) ?_
 refine rg_nil ?_
 refine aops_callL [27] [] en112 (openT_p t h) (.cons rfl .nil) rfl rfl rfl (by repeat (exact trivial)) (by repeat (first | exact trivial | refine ⟨rfl, ?_⟩)) rfl ?_
 refine aops_q rfl (q_move (x := .own _ _ _ _) rfl) ?_
 refine aops_q rfl (q_extract_tp0 rfl) ?_
 refine aops_q rfl (q_extract_tpS (i := 0) rfl rfl) ?_
 refine aops_q rfl (q_assign (x := .ref _ _) rfl) ?_
 refine aops_q rfl (q_a rfl) ?_
 refine aops_nil (xq (awp_seq ?_))
 refine xa 2 ?_
 refine rg_q (q_m rfl) (rg_q (q_neq rfl rfl) ?_)
 refine xc (awp_cond rfl (fun hc2 => ?_) (fun hc2 => ?_))
 ·
  simp at hc2
 ·
  (try simp only [nb, ne_eq] at hc2)
  refine awp_skip ?_
  change Awp _ _ _ _ _
  refine awp_seq ?_
  refine awp_block ?_
  refine awp_seq ?_
  refine xa 4 ?_
  refine rg_q (q_move (x := .d (.sl _ _)) rfl) ?_
  refine rg_q (q_len isl87 rfl (by exact len_map _ _)) ?_
  refine rg_q (q_eql rfl rfl) (rg_q (q_a rfl) ?_)
  refine xc (awp_len (t := 29) rfl (fun hl29 => ?_))
  (try simp only [List.length_map] at hl29)
  refine awp_cond rfl (fun hc4 => ?_) (fun hc4 => ?_)
  ·
   have hc4 := of_decide_eq_true hc4
   (try simp only [List.length_map] at hc4)
   omega
  ·
   (try simp only [nb, ne_eq] at hc4)
   refine awp_seq ?_
   refine xa 4 ?_
   refine rg_q (q_move (x := .d (.sl _ _)) rfl) ?_
   refine rg_q (q_len isl87 rfl (by exact len_map _ _)) ?_
   refine rg_q (q_gtr rfl rfl) (rg_q (q_a rfl) ?_)
   refine xc (awp_len (t := 33) rfl (fun hl33 => ?_))
   (try simp only [List.length_map] at hl33)
   refine awp_cond rfl (fun hc6 => ?_) (fun hc6 => ?_)
   ·
    have hc6 := of_decide_eq_true hc6
    (try simp only [List.length_map] at hc6)
    omega
   ·
    (try simp only [nb, ne_eq] at hc6)
    refine awp_skip ?_
    change Awp _ _ _ _ _
    refine awp_seq ?_
    refine xa 7 ?_
    refine rg_q (q_move (x := .ref _ _) rfl) (rg_q (q_nilCheck_ref rfl) (rg_q (q_fieldAddr_ref fld202_1 rfl) (rg_q (q_fieldAddr_ref fld28_1 rfl) (rg_q (q_fieldAddr_ref fld24_3 rfl) (rg_q (q_load_ref sz3 rfl rfl rfl) ?_)))))
    refine rg_q (q_a rfl) ?_
    refine rs (awp_seq ?_)
    refine xa 3 ?_
    refine rg_q (q_move (x := .d (.sl _ _)) rfl) ?_
    refine rg_q (q_len isl87 rfl (by exact len_map _ _)) ?_
    refine rg_q (q_m rfl) ?_
    refine xc (awp_len (t := 42) rfl (fun hl42 => ?_))
    (try simp only [List.length_map] at hl42)
    refine awp_block ?_
    refine awp_loopH [4, 5, 6, 11, 12, 44, 45, 46, 47, 48, 49, 50, 51, 52, 53, 54, 55, 56, 57, 58, 59, 60, 61, 62, 63, 64, 65, 66, 67, 68, 69, 70, 71, 72] [] (α := Nat) (fun k => [(44, T.i (k : Int))]) (fun k => []) (fun k => k ≤ ms.length) (fun k => ms.length - k) 0 (Nat.zero_le _) ?_ ?_
    · exact xh (ms := []) (by repeat (exact Out.refl _)) ⟨(by rfl), trivial⟩ trivial
    ·
     intro k hk
     refine awp_seq ?_
     refine xa 1 ?_
     refine rg_q (q_lss rfl rfl) ?_
     refine rs (awp_cond rfl (fun hc10 => ?_) (fun hc10 => ?_))
     ·
      (try simp only [nb, ne_eq] at hc10)
      have hlt : k < ms.length := by omega
      obtain ⟨x, hx⟩ : ∃ x, ms[k]? = some x := ⟨_, List.getElem?_eq_getElem hlt⟩
      have hmd := hall x (List.mem_of_getElem? hx)
      refine awp_skip ?_
      change Awp _ _ _ _ _
      refine awp_seq ?_
      refine awp_block ?_
      refine awp_seq ?_
      refine xa 2 ?_
      refine rg_q (q_indexAddr sl87 rfl rfl (by omega) (map_at (k := k) (by omega) hx)) ?_
      refine rg_q (q_loadA (ds := [_, _, _, _, _, _, _, _]) sz203 rfl rfl rfl) ?_
      refine rg_nil ?_
      refine aops_alloc zr203 rfl rfl rfl ?_
      refine aops_store sz203 rfl rfl (by exact .inr ⟨_, rfl⟩) rfl rfl (by decide) rfl ?_
      refine aops_nil (xq (xa 22 ?_))
      refine rg_q (q_indexAddr_aref ar203 rfl rfl (by omega) (by omega)) ?_
      refine rg_q (q_load_refA (ds := [_, _, _, _]) sz24 rfl rfl rfl rfl) ?_
      refine rg_q (q_call en122 (.cons rfl .nil) rfl (checkMode_p _)) ?_
      refine rg_q (q_indexAddr_aref ar203 rfl rfl (by omega) (by omega)) ?_
      refine rg_q (q_load_refA (ds := [_, _, _, _]) sz24 rfl rfl rfl rfl) ?_
      refine rg_q (q_call en122 (.cons rfl .nil) rfl (checkMode_p _)) ?_
      refine rg_q (q_indexAddr_aref ar203 rfl rfl (by omega) (by omega)) ?_
      refine rg_q (q_fieldAddr_ref fld24_3 rfl) (rg_q (q_load_ref sz3 rfl rfl rfl) (rg_q (q_m rfl) (rg_q (q_neq rfl rfl) (rg_q (q_m rfl) ?_))))
      refine rg_g rfl rfl (fun hG => (q_indexAddr_aref ar203 rfl rfl (by (have hg0 := T.bool_inj (a := _) hG.1; (try simp only [nb, ne_eq] at hg0); omega)) (by (have hg0 := T.bool_inj (a := _) hG.1; (try simp only [nb, ne_eq] at hg0); omega)))) ?_
      refine rg_g rfl rfl (fun hG => (q_fieldAddr_ref fld24_3 rfl)) ?_
      refine rg_g rfl rfl (fun hG => (q_load_ref sz3 rfl rfl rfl)) ?_
      refine rg_g rfl rfl (fun hG => (q_m rfl)) ?_
      refine rg_g rfl rfl (fun hG => (q_neq rfl rfl)) ?_
      refine rg_pick rfl rfl rfl rfl rfl rfl ?_
      refine rg_q (q_call en88 (.cons rfl (.cons rfl .nil)) rfl (fwhen_p _ _)) ?_
      refine rg_q (q_buildSlice sl282 zr40 rfl rfl (by decide) (.cons rfl (by exact .inl rfl) (.cons rfl (by exact .inl rfl) (.cons rfl (by exact .inl rfl) .nil))) ⟨rfl, rfl, rfl, rfl, rfl, rfl, trivial⟩ rfl (by decide) rfl) ?_
      refine rg_q (q_call en117 (.cons rfl .nil) rfl (ffirst_p [_, _, _])) ?_
      refine rg_q (q_a rfl) ?_
      refine rs (xa 2 ?_)
      refine rg_q (q_m rfl) (rg_q (q_neq rfl rfl) ?_)
      refine xc (awp_cond rfl (fun hc13 => ?_) (fun hc13 => ?_))
      ·
       have q : mdE t.ar.ou.t x ≠ 0 := of_decide_eq_true hc13
       exact absurd hmd q
      ·
       (try simp only [nb, ne_eq] at hc13)
       refine awp_skip ?_
       change Awp _ _ _ _ _
       refine xa 2 ?_
       refine rg_q (q_add rfl rfl xi) ?_
       refine rg_q (q_m rfl) ?_
       refine rn ?_
       refine ⟨k + 1, by omega, by omega, ?_⟩
       exact xh (ms := []) (by repeat (first | exact Out.head rfl rfl | (refine Out.put ?_ rfl) | (refine Out.site ?_ rfl))) ⟨(by rfl), trivial⟩ trivial
     ·
      (try simp only [nb, ne_eq] at hc10)
      refine awp_exit ?_
      change Awp _ _ _ _ _
      refine awp_seq ?_
      refine awp_regionM 14 [none, none, none, none, none, some 78, none, none, none, none, none, some 84, none, none] mixed (by kernel_rfl) ?_
      refine rgm_q rfl (q_move (x := .ref _ _) rfl) ?_
      refine rgm_q rfl (q_nilCheck_ref rfl) ?_
      refine rgm_q rfl (q_fieldAddr_ref fld202_0 rfl) ?_
      refine rgm_q rfl (q_load_refA (ds := [_, _, _, _, _]) sz150 rfl rfl rfl rfl) ?_
      refine rgm_q rfl (q_call en91 (.cons rfl .nil) rfl ((by have q := fcells_p t.g hg; rw [← hcn] at q; exact q))) ?_
      refine rgm_m (k := 78) rfl rfl (by rfl) (m_make sl77 zr3 by3 rfl rfl rfl rfl (by (try simp only [List.length_map]); omega) (by (try simp only [List.length_map]); omega) rfl) ?_
      refine rgm_q rfl (q_move (x := .ref _ _) rfl) ?_
      refine rgm_q rfl (q_nilCheck_ref rfl) ?_
      refine rgm_q rfl (q_fieldAddr_ref fld202_0 rfl) ?_
      refine rgm_q rfl (q_load_refA (ds := [_, _, _, _, _]) sz150 rfl rfl rfl rfl) ?_
      refine rgm_q rfl (q_call en91 (.cons rfl .nil) rfl ((by have q := fcells_p t.g hg; rw [← hcn] at q; exact q))) ?_
      refine rgm_m (k := 84) rfl rfl (by rfl) (m_make sl77 zr3 by3 rfl rfl rfl rfl (by (try simp only [List.length_map]); omega) (by (try simp only [List.length_map]); omega) rfl) ?_
      refine rgm_q rfl (q_assign (x := .rs _) rfl) ?_
      refine rgm_q rfl (q_assign (x := .rs _) rfl) ?_
      refine rgm_nil (aops_nil ?_)
      change Awp _ _ _ _ _
      refine awp_seq ?_
      refine awp_seq ?_
      refine xa 3 ?_
      refine rg_q (q_move (x := .d (.sl _ _)) rfl) ?_
      refine rg_q (q_len isl87 rfl (by exact len_map _ _)) ?_
      refine rg_q (q_m rfl) ?_
      refine xc (awp_len (t := 85) rfl (fun hl85 => ?_))
      (try simp only [List.length_map] at hl85)
      refine awp_block ?_
      refine awp_loopH [15, 16, 17, 18, 19, 87, 88, 89, 90, 91, 92, 93, 94, 95, 96, 97, 98, 99, 100, 101, 102, 103, 104, 105, 106, 107, 108, 109, 110, 111, 112, 113, 114, 115, 116, 117, 118, 119, 120, 121, 122, 123, 124, 125, 126, 127, 128, 129, 130, 131, 132, 133, 134, 135] [27, 78, 84] (α := Nat × (Md × Md)) (fun q => [(87, T.i (q.1 : Int))]) (fun q => [(27, .box (tkC (tM t q.2))), (78, .row 3 1 ((bsL (msP t ms) (clN t) q.1 0 Prod.fst).map iC)), (84, .row 3 1 ((bsL (msP t ms) (clN t) q.1 0 Prod.snd).map iC))]) (fun q => q.1 ≤ ms.length) (fun q => ms.length - q.1) (0, (t.ar.ou, t.ar.ba)) (Nat.zero_le _) ?_ ?_
      · exact xh (ms := [27, 78, 84]) (by repeat (exact Out.refl _)) ⟨(by rfl), trivial⟩ ⟨(by rfl), (by ((show Site.row _ _ _ = Site.row _ _ _; (rw [bsL_zero _ _ _ rfl]; rfl)))), (by ((show Site.row _ _ _ = Site.row _ _ _; (rw [bsL_zero _ _ _ rfl]; rfl)))), trivial⟩
      ·
       intro q hk
       obtain ⟨i, mo⟩ := q
       simp only at hk
       refine awp_seq ?_
       refine xa 1 ?_
       refine rg_q (q_lss rfl rfl) ?_
       refine rs (awp_cond rfl (fun hc18 => ?_) (fun hc18 => ?_))
       ·
        (try simp only [nb, ne_eq] at hc18)
        have hlt : i < ms.length := by omega
        obtain ⟨x, hx⟩ : ∃ x, ms[i]? = some x := ⟨_, List.getElem?_eq_getElem hlt⟩
        have hok := tM_ok h (hall x (List.mem_of_getElem? hx))
        have hvl : (vlsL (tM t x) (allL t.ne.toNat) []).length = clN t := vlsF_len _ _ _ _
        have hvl2 : ((vlsL (tM t x) (allL t.ne.toNat) []).map shC).length = clN t := by rw [List.length_map, hvl]
        refine awp_skip ?_
        change Awp _ _ _ _ _
        refine awp_seq ?_
        refine awp_block ?_
        refine awp_seq ?_
        refine xa 3 ?_
        refine rg_q (q_m rfl) ?_
        refine rg_q (q_indexAddr sl87 rfl rfl (by omega) (map_at (k := i) (by omega) hx)) ?_
        refine rg_q (q_loadA (ds := [_, _, _, _, _, _, _, _]) sz203 rfl rfl rfl) ?_
        refine rg_nil ?_
        refine aops_alloc zr203 rfl rfl rfl ?_
        refine aops_q rfl (q_a rfl) ?_
        refine aops_store sz203 rfl rfl (by exact .inr ⟨_, rfl⟩) rfl rfl (by decide) rfl ?_
        refine aops_nil ?_
        change Awp _ _ _ _ _
        refine Awp.le (le_freeze 16 16 0 (cs := md2C x) rfl rfl rfl rfl hmine) ?_
        refine awp_seq ?_
        refine awp_earlyM (i := 1) mixed rfl (by kernel_rfl) rfl ?_
        refine any_regionC 14 [0, 6, 7, 8, 9, 10, 11, 12, 13] [27] (by kernel_rfl) ?_
        refine rgc_c rfl rfl (c_q (q_move (x := .ref _ _) rfl)) ?_
        refine rgc_q rfl (q_move (x := .d (.v (.bool true))) rfl) rfl ?_
        refine rgc_q rfl (q_indexAddr_ar ar203 rfl rfl (by omega) (by omega)) rfl ?_
        refine rgc_q rfl (q_loadA (ds := [_, _, _, _]) sz24 rfl rfl rfl) rfl ?_
        refine rgc_q rfl (q_indexAddr_ar ar203 rfl rfl (by omega) (by omega)) rfl ?_
        refine rgc_q rfl (q_loadA (ds := [_, _, _, _]) sz24 rfl rfl rfl) rfl ?_
        refine rgc_c rfl rfl (c_q (q_nilCheck_ref rfl)) ?_
        refine rgc_c rfl rfl (c_q (q_fieldAddr_ref fld202_1 rfl)) ?_
        refine rgc_c rfl rfl (c_q (q_fieldAddr_ref fld28_1 rfl)) ?_
        refine rgc_c rfl rfl ((c_store sz24 rfl rfl (by exact .inr ⟨_, rfl⟩) rfl rfl (by exact Nat.le_of_ble_eq_true rfl) rfl)) ?_
        refine rgc_c rfl rfl (c_q (q_nilCheck_ref rfl)) ?_
        refine rgc_c rfl rfl (c_q (q_fieldAddr_ref fld202_1 rfl)) ?_
        refine rgc_c rfl rfl (c_q (q_fieldAddr_ref fld28_2 rfl)) ?_
        refine rgc_c rfl rfl ((c_store sz24 rfl rfl (by exact .inr ⟨_, rfl⟩) rfl rfl (by exact Nat.le_of_ble_eq_true rfl) rfl)) ?_
        refine rgc_nil ?_
        refine aops_nil ?_
        refine ⟨rfl, ?_⟩
        change Awp _ _ _ _ _
        refine awp_seq ?_
        refine xa 2 ?_
        refine rg_q (q_move (x := .ref _ _) rfl) (rg_q (q_move (x := .ref _ _) rfl) ?_)
        refine rg_nil ?_
        refine aops_callL [27, 106] [] en96 (allT_p (tM t x) hn1 hn2) (.cons rfl .nil) rfl rfl rfl (by repeat (first | exact trivial | refine ⟨rfl, ?_⟩)) (by repeat (first | exact trivial | refine ⟨rfl, ?_⟩)) rfl ?_
        refine aops_le (le_freezeR (es := (allL t.ne.toNat).map iC) 106 106 (by show Site.row _ _ _ = _; rfl) rfl rfl rfl hmine) ?_
        refine aops_callL [27, 107] [] en114 (valuesT_p (tM t x) (allL t.ne.toNat) [] hok ha1 (by omega)) (.cons rfl (.cons rfl (.cons rfl .nil))) rfl rfl rfl (by repeat (first | exact trivial | refine ⟨rfl, ?_⟩)) (by repeat (first | exact trivial | refine ⟨rfl, ?_⟩)) rfl ?_
        refine aops_q rfl (q_len_rs isl189 rfl rfl) ?_
        refine aops_q rfl (q_m rfl) ?_
        refine aops_nil ?_
        change Awp _ _ _ _ _
        skip
        (try simp only [List.length_map] at hl107)
        refine Awp.le (le_freezeR (es := (vlsL (tM t x) (allL t.ne.toNat) []).map shC) 107 107 (by show Site.row _ _ _ = _; rfl) rfl rfl rfl hmine) ?_
        refine awp_block ?_
        refine awp_loopH [17, 18, 19, 109, 110, 111, 112, 113, 114, 115, 116, 117, 118, 119, 120, 121, 122, 123, 124, 125, 126, 127, 128, 129, 130, 131, 132, 133, 134] [78, 84] (α := Nat) (fun j => [(109, T.i (j : Int))]) (fun j => [(78, .row 3 1 ((bsL (msP t ms) (clN t) i j Prod.fst).map iC)), (84, .row 3 1 ((bsL (msP t ms) (clN t) i j Prod.snd).map iC))]) (fun j => j ≤ clN t) (fun j => clN t - j) 0 (Nat.zero_le _) ?_ ?_
        · exact xh (ms := [78, 84]) (by repeat (exact Out.refl _)) ⟨(by rfl), trivial⟩ ⟨(by rfl), (by rfl), trivial⟩
        ·
         intro j hj0
         refine awp_seq ?_
         refine xa 1 ?_
         refine rg_q (q_lss rfl rfl) ?_
         refine rs (awp_cond rfl (fun hc22 => ?_) (fun hc22 => ?_))
         ·
          (try simp only [nb, ne_eq] at hc22)
          have hj : j < clN t := by omega
          obtain ⟨v, hv, hpv⟩ : ∃ v, (vlsL (tM t x) (allL t.ne.toNat) [])[j]? = some v ∧ msP t ms i j = v.1 * v.1 + v.2 * v.2 := ⟨_, vls_at (t := tM t x) hj, msP_at hx j⟩
          have hvb : (-6600000 ≤ v.1 ∧ v.1 ≤ 6600000) ∧ -6600000 ≤ v.2 ∧ v.2 ≤ 6600000 := by
           have q := vls_at (t := tM t x) hj
           change (vlsL (tM t x) (allL t.ne.toNat) [])[j]? = _ at q
           rw [hv] at q
           rw [Option.some.inj q]
           exact vs_in hok _ (by have := (ev_ok hok).2; omega)
          obtain ⟨⟨hv1, hv2⟩, hv3, hv4⟩ := hvb
          have hl1 : ((bsL (msP t ms) (clN t) i j Prod.fst).map iC).length = clN t := by rw [List.length_map, bsL_len]
          have hl2 : ((bsL (msP t ms) (clN t) i j Prod.snd).map iC).length = clN t := by rw [List.length_map, bsL_len]
          have hr1 := bsL_at (msP t ms) (i := i) Prod.fst hj
          have hr2 := bsL_at (msP t ms) (i := i) Prod.snd hj
          have ht1 := bsL_set (msP t ms) (i := i) Prod.fst hj
          have ht2 := bsL_set (msP t ms) (i := i) Prod.snd hj
          refine awp_skip ?_
          change Awp _ _ _ _ _
          refine awp_seq ?_
          refine awp_block ?_
          refine awp_seq ?_
          refine xa 3 ?_
          refine rg_q (q_m rfl) ?_
          refine rg_q (q_indexAddr sl189 rfl rfl (by omega) (map_at (k := j) (by omega) hv)) ?_
          refine rg_q (q_loadA (ds := [_, _]) sz160 rfl rfl rfl) ?_
          refine rg_nil ?_
          refine aops_alloc zr160 rfl rfl rfl ?_
          refine aops_q rfl (q_a rfl) ?_
          refine aops_store sz160 rfl rfl (by exact .inr ⟨_, rfl⟩) rfl rfl (by decide) rfl ?_
          refine aops_nil ?_
          change Awp _ _ _ _ _
          refine Awp.le (le_freeze 18 18 0 (cs := shC v) rfl rfl rfl rfl hmine) ?_
          refine awp_seq ?_
          refine xa 3 ?_
          refine rg_q (q_loadA (ds := [_, _]) sz160 rfl rfl rfl) ?_
          refine rg_q (q_call en123 (.cons rfl .nil) rfl (fsquare_p v.1 v.2 (by omega) (by omega))) ?_
          refine rg_q (q_a rfl) ?_
          refine rs (xa 10 ?_)
          refine rg_q (q_m rfl) (rg_q (q_eql rfl rfl) (rg_q (q_m rfl) ?_))
          refine rg_g rfl rfl (fun hG => (q_m rfl)) ?_
          refine rg_g rfl rfl (fun hG => (q_move (x := .rs _) rfl)) ?_
          refine rg_g rfl rfl (fun hG => (q_m rfl)) ?_
          refine rg_g rfl rfl (fun hG => (q_indexAddr_rs sl77 rfl rfl rfl (by (have hg0 := T.bool_inj (a := _) hG.1; (try simp only [nb, ne_eq] at hg0); omega)) (by (have hg0 := T.bool_inj (a := _) hG.1; (try simp only [nb, ne_eq] at hg0); omega)))) ?_
          refine rg_g rfl rfl (fun hG => (q_load_row sz3 rfl rfl (i := j) (j := 0) (by omega) hr2 rfl)) ?_
          refine rg_g rfl rfl (fun hG => (q_gtr rfl rfl)) ?_
          refine rg_pick rfl rfl rfl rfl rfl rfl ?_
          refine xc (awp_cond rfl (fun hc25 => ?_) (fun hc25 => ?_))
          ·
           (try simp only [nb, ne_eq] at hc25)
           have hup : bsF (msP t ms) (i + 1) j = ((i : Int), msP t ms i j) := bs_up (by rw [hpv]; omega)
           rw [hup] at ht1 ht2
           rw [hpv] at ht2
           refine xa 7 ?_
           refine rg_q (q_move (x := .rs _) rfl) (rg_q (q_m rfl) (rg_q (q_move (x := .rs _) rfl) (rg_q (q_m rfl) (rg_q (q_m rfl) (rg_q (q_m rfl) ?_)))))
           refine rg_q (q_indexAddr_rs sl77 rfl rfl rfl (by omega) (by omega)) ?_
           refine rg_nil ?_
           refine aops_store_row sz3 rfl rfl (by exact .inl rfl) rfl rfl (i := j) (j := 0) (by omega) hr1 (by decide) ht1 ?_
           refine aops_q rfl (q_indexAddr_rs sl77 rfl rfl rfl (by omega) (by omega)) ?_
           refine aops_store_row sz3 rfl rfl (by exact .inl rfl) rfl rfl (i := j) (j := 0) (by omega) hr2 (by decide) ht2 ?_
           refine aops_nil ?_
           change Awp _ _ _ _ _
           refine xa 2 ?_
           refine rg_q (q_add rfl rfl xi) ?_
           refine rg_q (q_m rfl) ?_
           refine rn ?_
           refine ⟨j + 1, by omega, by omega, ?_⟩
           exact xh (ms := [78, 84]) (by repeat (first | exact Out.head rfl rfl | (refine Out.put ?_ rfl) | (refine Out.site ?_ rfl) | (refine Out.headIn ?_ rfl rfl rfl))) ⟨(by rfl), trivial⟩ ⟨(by rfl), (by rfl), trivial⟩
          ·
           (try simp only [nb, ne_eq] at hc25)
           have hno : bsF (msP t ms) (i + 1) j = bsF (msP t ms) i j := bs_no (by rw [hpv]; omega)
           have hs1 := bsL_same (msP t ms) Prod.fst hj hno
           have hs2 := bsL_same (msP t ms) Prod.snd hj hno
           refine awp_skip ?_
           change Awp _ _ _ _ _
           refine xa 2 ?_
           refine rg_q (q_add rfl rfl xi) ?_
           refine rg_q (q_m rfl) ?_
           refine rn ?_
           refine ⟨j + 1, by omega, by omega, ?_⟩
           exact xh (ms := [78, 84]) (by repeat (first | exact Out.head rfl rfl | (refine Out.put ?_ rfl) | (refine Out.site ?_ rfl) | (refine Out.headIn ?_ rfl rfl rfl))) ⟨(by rfl), trivial⟩ ⟨(by ((show Site.row _ _ _ = Site.row _ _ _; (rw [hs1]; done)))), (by ((show Site.row _ _ _ = Site.row _ _ _; (rw [hs2]; done)))), trivial⟩
         ·
          (try simp only [nb, ne_eq] at hc22)
          have hjn : j = clN t := by omega
          subst hjn
          refine awp_exit ?_
          change Awp _ _ _ _ _
          refine xa 2 ?_
          refine rg_q (q_add rfl rfl xi) ?_
          refine rg_q (q_m rfl) ?_
          refine rn ?_
          refine ⟨(i + 1, x), by (try simp only); omega, by (try simp only); omega, ?_⟩
          exact xh (ms := [27, 78, 84]) (by repeat (first | exact Out.head rfl rfl | (refine Out.put ?_ rfl) | (refine Out.site ?_ rfl) | (refine Out.headIn ?_ rfl rfl rfl) | (refine Out.called ?_ rfl rfl) | (refine Out.ovD ?_ rfl))) ⟨(by rfl), trivial⟩ ⟨(by rfl), (by ((show Site.row _ _ _ = Site.row _ _ _; (rw [bsL_done]; done)))), (by ((show Site.row _ _ _ = Site.row _ _ _; (rw [bsL_done]; done)))), trivial⟩
       ·
        (try simp only [nb, ne_eq] at hc18)
        have hin : i = ms.length := by omega
        subst hin
        refine awp_exit ?_
        change Awp _ _ _ _ _
        refine awp_seq ?_
        refine xa 5 ?_
        refine rg_q (q_move (x := .rs _) rfl) (rg_q (q_move (x := .rs _) rfl) (rg_q (q_assign (x := .rs _) rfl) (rg_q (q_assign (x := .rs _) rfl) (rg_q (q_a rfl) ?_))))
        refine xc (awp_ret ?_)
        refine ⟨_, (.cons (.tmp (by exact .rs rfl)) (.cons (.tmp (by exact .rs rfl)) xk1)), ?_⟩
        rfl
end Go.Proofs.YtamaocfjknpadaaGreat.Am.M
-- mini
set_option maxRecDepth 100000
namespace Go.Proofs.YtamaocfjknpadaaGreat.Am.M
open Go

def mdI (m : Md × Md) (k : Nat) : Md := if k = 0 then m.1 else m.2
theorem mdI_ld {m : Md × Md} {k : Nat} (h : k < 2) : ((md2C m).drop (0 + (k : Int).toNat * 4)).take 4 = mdC (mdI m k) := by
  have : k = 0 ∨ k = 1 := by omega
  rcases this with rfl | rfl <;> rfl
theorem mdE_of {th : Int} {m : Md × Md} {k : Nat} (hk : k < 2) (h0 : ∀ j, j < k → modeE (mdI m j) = 0) (h : modeE (mdI m k) ≠ 0) : mdE th m = modeE (mdI m k) := by
  unfold mdE
  have : k = 0 ∨ k = 1 := by omega
  rcases this with rfl | rfl
  · show (if modeE m.1 = 0 then _ else modeE m.1) = modeE m.1
    rw [if_neg (show ¬ modeE m.1 = 0 from h)]
  · have h1 : modeE m.1 = 0 := h0 0 (by decide)
    show (if modeE m.1 = 0 then (if modeE m.2 = 0 then _ else modeE m.2) else modeE m.1) = modeE m.2
    rw [if_pos h1, if_neg (show ¬ modeE m.2 = 0 from h)]
theorem mdE_t {th : Int} {m : Md × Md} (h0 : ∀ j, j < 2 → modeE (mdI m j) = 0) : mdE th m = whenI (decide (m.1.t ≠ th) || decide (m.2.t ≠ th)) 23 := by
  have h1 : modeE m.1 = 0 := h0 0 (by decide)
  have h2 : modeE m.2 = 0 := h0 1 (by decide)
  unfold mdE
  show (if modeE m.1 = 0 then (if modeE m.2 = 0 then (if _ = 0 then 0 else _) else modeE m.2) else modeE m.1) = _
  rw [if_pos h1, if_pos h2]
  split
  · rename_i q; rw [q]
  · rfl
def moE (t : Tsk) (ms : List (Md × Md)) : Int := if ms.length = 0 then 10 else if 4 < ms.length then 8 else msE t.ar.ou.t ms
theorem forall_snoc {p : Nat → Prop} {k : Nat} (h : ∀ j, j < k → p j) (hk : p k) : ∀ j, j < k + 1 → p j := fun j hj => by
  by_cases e : j = k
  · subst e; exact hk
  · exact h j (by omega)
def rbL (p : Nat → Nat → Int) (n i j : Nat) (s : Int × Int → Int) : List Int := if i = 0 then (List.range j).map fun k => s (bsF p 1 k) else bsL p n i j s
theorem rbL_ne {p : Nat → Nat → Int} {n i j : Nat} {s : Int × Int → Int} (h : i ≠ 0) : rbL p n i j s = bsL p n i j s := if_neg h
theorem rbL_len0 (p : Nat → Nat → Int) (n j : Nat) (s : Int × Int → Int) : (rbL p n 0 j s).length = j := by unfold rbL; rw [if_pos rfl, List.length_map, List.length_range]
theorem rbL_snoc (p : Nat → Nat → Int) (n j : Nat) (s : Int × Int → Int) : (rbL p n 0 j s).map iC ++ [iC (s (0, p 0 j))] = (rbL p n 0 (j + 1) s).map iC := by
  unfold rbL
  rw [if_pos rfl, if_pos rfl, List.range_succ, List.map_append, List.map_append]
  show _ = _ ++ [iC (s (bsF p 1 j))]
  rw [bs_up (p := p) (i := 0) (k := j) (.inl rfl)]; rfl
theorem rbL_done (p : Nat → Nat → Int) (n i : Nat) (s : Int × Int → Int) : rbL p n i n s = rbL p n (i + 1) 0 s := by
  rw [rbL_ne (Nat.succ_ne_zero i)]
  by_cases h : i = 0
  · subst h
    unfold rbL bsL
    rw [if_pos rfl]
    rfl
  · rw [rbL_ne h, bsL_done]
theorem rmodesErr_p (t : Tsk) (ms : List (Md × Md)) : PC Tryz.prog 47 [.agg (tskC t), .sl 8 (ms.map md2C)] (.v (.int .i64 (moE t ms))) := by
 have hu : moE t ms = if ms.length = 0 then 10 else if 4 < ms.length then 8 else msE t.ar.ou.t ms := rfl
 refine pc_of_awpN Tryz.func47 rfl Tryz.ntmps47 (rs := [.tmp 4]) Tryz.results47 (by simp) fun w0 hmine hrnd hpn => ?_
 refine awp_seq ?_
 refine xa 2 ?_
 refine rg_q (q_box rfl (by exact .inr ⟨_, rfl⟩)) ?_
 refine rg_q (q_a rfl) ?_
 refine rs (awp_seq ?_)
 refine xa 3 ?_
 refine rg_q (q_move (x := .d (.sl _ _)) rfl) ?_
 refine rg_q (q_len isl87 rfl (by exact len_map _ _)) ?_
 refine rg_q (q_eql rfl rfl) ?_
 refine xc (awp_len (t := 8) rfl (fun hl8 => ?_))
 (try simp only [List.length_map] at hl8)
 refine awp_cond rfl (fun hc1 => ?_) (fun hc1 => ?_)
 ·
  (try simp only [nb, ne_eq] at hc1)
  rw [if_pos (by omega)] at hu
  refine awp_seq ?_
  refine xa 1 ?_
  refine rg_q (q_a rfl) ?_
  refine xc (awp_ret ?_)
  refine ⟨_, xk1, ?_⟩
  rw [hu]; rfl
 ·
  (try simp only [nb, ne_eq] at hc1)
  rw [if_neg (by omega)] at hu
  refine awp_skip ?_
  change Awp _ _ _ _ _
  refine awp_seq ?_
  refine awp_seq ?_
  refine xa 3 ?_
  refine rg_q (q_move (x := .d (.sl _ _)) rfl) ?_
  refine rg_q (q_len isl87 rfl (by exact len_map _ _)) ?_
  refine rg_q (q_gtr rfl rfl) ?_
  refine xc (awp_len (t := 11) rfl (fun hl11 => ?_))
  (try simp only [List.length_map] at hl11)
  refine awp_cond rfl (fun hc3 => ?_) (fun hc3 => ?_)
  ·
   (try simp only [nb, ne_eq] at hc3)
   rw [if_pos (by omega)] at hu
   refine awp_seq ?_
   refine xa 1 ?_
   refine rg_q (q_a rfl) ?_
   refine xc (awp_ret ?_)
   refine ⟨_, xk1, ?_⟩
   rw [hu]; rfl
  ·
   (try simp only [nb, ne_eq] at hc3)
   rw [if_neg (by omega)] at hu
   refine awp_skip ?_
   change Awp _ _ _ _ _
   refine awp_seq ?_
   refine awp_seq ?_
   refine xa 1 ?_
   refine rg_q (q_a rfl) ?_
   refine xc (awp_block ?_)
   refine awp_loopH [4, 5, 6, 7, 14, 15, 16, 17, 18, 19, 20, 21, 22, 23, 24, 25, 26, 27, 28, 29, 30, 31, 32, 33, 34, 35, 36, 37, 38, 39, 40, 41, 42, 43, 44, 45, 46, 47, 48, 49, 50, 51, 52, 53, 54, 55, 56, 57] [] (α := Nat) (fun i => [(5, T.i (i : Int))]) (fun i => []) (fun i => i ≤ ms.length ∧ msE t.ar.ou.t ms = msE t.ar.ou.t (ms.drop i)) (fun i => ms.length - i) 0 ⟨Nat.zero_le _, rfl⟩ ?_ ?_
   · exact xh (ms := []) (by repeat (exact Out.refl _)) ⟨(by rfl), trivial⟩ trivial
   ·
    intro i ⟨hi, hf⟩
    refine awp_seq ?_
    refine awp_seq ?_
    refine xa 4 ?_
    refine rg_q (q_m rfl) (rg_q (q_move (x := .d (.sl _ _)) rfl) ?_)
    refine rg_q (q_len isl87 rfl (by exact len_map _ _)) ?_
    refine rg_q (q_lss rfl rfl) ?_
    refine xc (awp_len (t := 15) rfl (fun hl15 => ?_))
    (try simp only [List.length_map] at hl15)
    refine awp_cond rfl (fun hc6 => ?_) (fun hc6 => ?_)
    ·
     (try simp only [nb, ne_eq] at hc6)
     have hlt : i < ms.length := by omega
     obtain ⟨x, hx⟩ : ∃ x, ms[i]? = some x := ⟨_, List.getElem?_eq_getElem hlt⟩
     have hst := msE_at (th := t.ar.ou.t) hx
     refine awp_skip ?_
     change Awp _ _ _ _ _
     refine awp_seq ?_
     refine awp_block ?_
     refine awp_seq ?_
     refine awp_seq ?_
     refine xa 1 ?_
     refine rg_q (q_a rfl) ?_
     refine xc (awp_block ?_)
     refine awp_loopH [4, 6, 7, 20, 21, 22, 23, 24, 25, 26, 27, 28, 29, 30, 31, 32, 33] [] (α := Nat) (fun k => [(6, T.i (k : Int))]) (fun k => []) (fun k => k ≤ 2 ∧ ∀ j, j < k → modeE (mdI x j) = 0) (fun k => 2 - k) 0 ⟨by decide, fun j hj => absurd hj (Nat.not_lt_zero j)⟩ ?_ ?_
     · exact xh (ms := []) (by repeat (exact Out.refl _)) ⟨(by rfl), trivial⟩ trivial
     ·
      intro k ⟨hk, h0⟩
      refine awp_seq ?_
      refine awp_seq ?_
      refine xa 2 ?_
      refine rg_q (q_m rfl) (rg_q (q_lss rfl rfl) ?_)
      refine xc (awp_cond rfl (fun hc9 => ?_) (fun hc9 => ?_))
      ·
       (try simp only [nb, ne_eq] at hc9)
       have hk2 : k < 2 := by omega
       have hld := mdI_ld (m := x) hk2
       refine awp_skip ?_
       change Awp _ _ _ _ _
       refine awp_seq ?_
       refine awp_block ?_
       refine awp_seq ?_
       refine xa 8 ?_
       refine rg_q (q_move (x := .d (.sl _ _)) rfl) (rg_q (q_m rfl) (rg_q (q_m rfl) ?_))
       refine rg_q (q_indexAddr sl87 rfl rfl (by omega) (map_at (k := i) (by omega) hx)) ?_
       refine rg_q (q_indexAddr_ar ar203 rfl rfl (by omega) (by omega)) ?_
       refine rg_q (q_loadA (ds := mdC (mdI x k)) sz24 rfl hld rfl) ?_
       refine rg_q (q_call en124 (.cons rfl .nil) rfl (xcheckMode_p _)) ?_
       refine rg_q (q_a rfl) ?_
       refine rs (xa 2 ?_)
       refine rg_q (q_m rfl) (rg_q (q_neq rfl rfl) ?_)
       refine xc (awp_cond rfl (fun hc12 => ?_) (fun hc12 => ?_))
       ·
        (try simp only [nb, ne_eq] at hc12)
        have hme := mdE_of (th := t.ar.ou.t) hk2 h0 hc12
        rw [← hme] at hc12
        rw [if_pos hc12] at hst
        have hz : moE t ms = modeE (mdI x k) := by rw [hu, hf, hst, hme]
        refine awp_seq ?_
        refine xa 2 ?_
        refine rg_q (q_m rfl) (rg_q (q_a rfl) ?_)
        refine xc (awp_ret ?_)
        refine ⟨_, xk1, ?_⟩
        rw [hz]; rfl
       ·
        (try simp only [nb, ne_eq] at hc12)
        have hm0 : modeE (mdI x k) = 0 := by omega
        refine awp_skip ?_
        change Awp _ _ _ _ _
        refine xa 3 ?_
        refine rg_q (q_m rfl) ?_
        refine rg_q (q_add rfl rfl xi) ?_
        refine rg_q (q_a rfl) ?_
        refine rn ?_
        refine ⟨k + 1, ⟨by omega, forall_snoc h0 hm0⟩, by omega, ?_⟩
        exact xh (ms := []) (by repeat (first | exact Out.head rfl rfl | (refine Out.put ?_ rfl))) ⟨(by rfl), trivial⟩ trivial
      ·
       (try simp only [nb, ne_eq] at hc9)
       have hk2 : k = 2 := by omega
       subst hk2
       have hmt := mdE_t (th := t.ar.ou.t) h0
       refine awp_exit ?_
       change Awp _ _ _ _ _
       refine awp_seq ?_
       refine xa 24 ?_
       refine rg_q (q_move (x := .d (.sl _ _)) rfl) (rg_q (q_m rfl) ?_)
       refine rg_q (q_indexAddr sl87 rfl rfl (by omega) (map_at (k := i) (by omega) hx)) ?_
       refine rg_q (q_indexAddr_ar ar203 rfl rfl (by omega) (by omega)) ?_
       refine rg_q (q_fieldAddr fld24_3 rfl) (rg_q (q_load sz3 rfl rfl) (rg_q (q_fieldAddr fld37_0 rfl) (rg_q (q_fieldAddr fld28_1 rfl) (rg_q (q_fieldAddr fld24_3 rfl) (rg_q (q_load sz3 rfl rfl) ?_)))))
       refine rg_q (q_neq rfl rfl) (rg_q (q_m rfl) ?_)
       refine rg_g rfl rfl (fun hG => (q_move (x := .d (.sl _ _)) rfl)) ?_
       refine rg_g rfl rfl (fun hG => (q_m rfl)) ?_
       refine rg_g rfl rfl (fun hG => (q_indexAddr sl87 rfl rfl (by (have hg0 := T.bool_inj (a := _) hG.1; (try simp only [nb, ne_eq] at hg0); omega)) (map_at (k := i) (by (have hg0 := T.bool_inj (a := _) hG.1; (try simp only [nb, ne_eq] at hg0); omega)) hx))) ?_
       refine rg_g rfl rfl (fun hG => (q_indexAddr_ar ar203 rfl rfl (by (have hg0 := T.bool_inj (a := _) hG.1; (try simp only [nb, ne_eq] at hg0); omega)) (by (have hg0 := T.bool_inj (a := _) hG.1; (try simp only [nb, ne_eq] at hg0); omega)))) ?_
       refine rg_g rfl rfl (fun hG => (q_fieldAddr fld24_3 rfl)) ?_
       refine rg_g rfl rfl (fun hG => (q_load sz3 rfl rfl)) ?_
       refine rg_g rfl rfl (fun hG => (q_fieldAddr fld37_0 rfl)) ?_
       refine rg_g rfl rfl (fun hG => (q_fieldAddr fld28_1 rfl)) ?_
       refine rg_g rfl rfl (fun hG => (q_fieldAddr fld24_3 rfl)) ?_
       refine rg_g rfl rfl (fun hG => (q_load sz3 rfl rfl)) ?_
       refine rg_g rfl rfl (fun hG => (q_neq rfl rfl)) ?_
       refine rg_pick rfl rfl rfl rfl rfl rfl ?_
       refine xc (awp_cond rfl (fun hc14 => ?_) (fun hc14 => ?_))
       ·
        (try simp only [nb, ne_eq] at hc14)
        have hm23 : mdE t.ar.ou.t x = 23 := by
         rw [hmt]; unfold whenI; rw [if_pos]
         rw [Bool.or_eq_true, decide_eq_true_eq, decide_eq_true_eq]; exact hc14
        rw [hm23, if_pos (by decide)] at hst
        have hz : moE t ms = 23 := by rw [hu, hf, hst]
        refine awp_seq ?_
        refine xa 1 ?_
        refine rg_q (q_a rfl) ?_
        refine xc (awp_ret ?_)
        refine ⟨_, xk1, ?_⟩
        rw [hz]; rfl
       ·
        (try simp only [nb, ne_eq] at hc14)
        have hm0 : mdE t.ar.ou.t x = 0 := by
         rw [hmt]; unfold whenI; rw [if_neg]
         rw [Bool.or_eq_true, decide_eq_true_eq, decide_eq_true_eq]; intro q; rcases q with q | q
         · exact q hc14.1
         · exact q hc14.2
        rw [if_neg (fun q => q hm0)] at hst
        refine awp_skip ?_
        change Awp _ _ _ _ _
        refine xa 3 ?_
        refine rg_q (q_m rfl) ?_
        refine rg_q (q_add rfl rfl xi) ?_
        refine rg_q (q_a rfl) ?_
        refine rn ?_
        refine ⟨i + 1, ⟨by omega, by rw [hf, hst]⟩, by omega, ?_⟩
        exact xh (ms := []) (by repeat (first | exact Out.head rfl rfl | (refine Out.put ?_ rfl) | (refine Out.headIn ?_ rfl rfl rfl))) ⟨(by rfl), trivial⟩ trivial
    ·
     (try simp only [nb, ne_eq] at hc6)
     have hin : i = ms.length := by omega
     have h0 : msE t.ar.ou.t ms = 0 := by rw [hf, hin, List.drop_length]; rfl
     rw [h0] at hu
     refine awp_exit ?_
     change Awp _ _ _ _ _
     refine awp_seq ?_
     refine xa 1 ?_
     refine rg_q (q_a rfl) ?_
     refine xc (awp_ret ?_)
     refine ⟨_, xk1, ?_⟩
     rw [hu]; rfl
set_option maxHeartbeats 8000000 in
theorem rbest_p (t : Tsk) (ms : List (Md × Md)) (h : TskOk t) (h1 : 1 ≤ ms.length) (h2 : ms.length ≤ 4) (hE : msE t.ar.ou.t ms = 0) : PC Tryz.prog 48 [.agg (tskC t), .sl 8 (ms.map md2C)] (.tup [.sl 1 ((bsL (msP t ms) (clN t) ms.length 0 Prod.fst).map iC), .sl 1 ((bsL (msP t ms) (clN t) ms.length 0 Prod.snd).map iC)]) := by
 have hall := ms_all hE
 have hcl := cl_le h
 have hf1 : rbL (msP t ms) (clN t) ms.length 0 Prod.fst = bsL (msP t ms) (clN t) ms.length 0 Prod.fst := rbL_ne (by omega)
 have hf2 : rbL (msP t ms) (clN t) ms.length 0 Prod.snd = bsL (msP t ms) (clN t) ms.length 0 Prod.snd := rbL_ne (by omega)
 refine pc_of_awpN Tryz.func48 rfl Tryz.ntmps48 (rs := [.tmp 4, .tmp 5]) Tryz.results48 (by simp) fun w0 hmine hrnd hpn => ?_
 refine awp_seq ?_
 refine xa 0 ?_
 refine rg_nil ?_
 refine aops_box rfl (by exact .inr ⟨_, rfl⟩) rfl rfl rfl ?_
 refine aops_q rfl (q_assign (x := .d (.sl _ _)) rfl) ?_
 refine aops_q rfl (q_assign (x := .d (.sl _ _)) rfl) ?_
 refine aops_nil (xq (xa 2 ?_))
 refine rg_q (q_assign_nil) ?_
 refine rg_q (q_assign_nil) ?_
 refine rn ?_
 change Awp _ _ _ _ _
 refine Awp.le (le_own (k := 6) (e := 3) (sz := 1) rfl rfl) ?_
 refine Awp.le (le_own (k := 7) (e := 3) (sz := 1) rfl rfl) ?_
 refine awp_seq ?_
 refine awp_seq ?_
 refine xa 1 ?_
 refine rg_q (q_a rfl) ?_
 refine xc (awp_block ?_)
 refine awp_loopH [6, 7, 8, 9, 10, 11, 12, 13, 14, 15, 16, 17, 18, 19, 20, 21, 22, 23, 24, 25, 26, 27, 28, 29, 30, 31, 32, 33, 34, 35, 36, 37, 38, 39, 40, 41, 42, 43, 44, 45, 46, 47, 48, 49, 50, 51, 52, 53, 54, 55, 56, 57, 58, 59, 60, 61, 62, 63, 64, 65, 66, 67, 68, 69, 70, 71, 72, 73, 74, 75] [2, 6, 7] (α := Nat × (Md × Md)) (fun q => [(8, T.i (q.1 : Int)), (6, .rs 6), (7, .rs 7)]) (fun q => [(2, .box (tskC (tM t q.2))), (6, .row 3 1 ((rbL (msP t ms) (clN t) q.1 0 Prod.fst).map iC)), (7, .row 3 1 ((rbL (msP t ms) (clN t) q.1 0 Prod.snd).map iC))]) (fun q => q.1 ≤ ms.length) (fun q => ms.length - q.1) (0, (t.ar.ou, t.ar.ba)) (Nat.zero_le _) ?_ ?_
 · exact xh (ms := [2, 6, 7]) (by repeat (exact Out.refl _)) ⟨(by rfl), (by rfl), (by rfl), trivial⟩ ⟨(by rfl), (by rfl), (by rfl), trivial⟩
 ·
  intro q hk
  obtain ⟨i, mo⟩ := q
  simp only at hk
  refine awp_seq ?_
  refine awp_seq ?_
  refine xa 4 ?_
  refine rg_q (q_m rfl) (rg_q (q_move (x := .d (.sl _ _)) rfl) ?_)
  refine rg_q (q_len isl87 rfl (by exact len_map _ _)) ?_
  refine rg_q (q_lss rfl rfl) ?_
  refine xc (awp_len (t := 13) rfl (fun hl13 => ?_))
  (try simp only [List.length_map] at hl13)
  refine awp_cond rfl (fun hc3 => ?_) (fun hc3 => ?_)
  ·
   (try simp only [nb, ne_eq] at hc3)
   have hlt : i < ms.length := by omega
   obtain ⟨x, hx⟩ : ∃ x, ms[i]? = some x := ⟨_, List.getElem?_eq_getElem hlt⟩
   have hok := tM_ok h (hall x (List.mem_of_getElem? hx))
   have hpl : ((List.range (clN t)).map (pwQ (tM t x))).length = clN t := by rw [List.length_map, List.length_range]
   have hpl2 : (((List.range (clN t)).map (pwQ (tM t x))).map iC).length = clN t := by rw [List.length_map, hpl]
   refine awp_skip ?_
   change Awp _ _ _ _ _
   refine awp_seq ?_
   refine awp_block ?_
   refine awp_seq ?_
   refine awp_regionM 16 [none, none, none, none, none, none, none, none, none, none, none, none, some 2, none, none, some 2] mixed (by kernel_rfl) ?_
   refine rgm_q rfl (q_move (x := .d (.sl _ _)) rfl) ?_
   refine rgm_q rfl (q_m rfl) ?_
   refine rgm_q rfl (q_indexAddr sl87 rfl rfl (by omega) (map_at (k := i) (by omega) hx)) ?_
   refine rgm_q rfl (q_indexAddr_ar ar203 rfl rfl (by omega) (by omega)) ?_
   refine rgm_q rfl (q_loadA (ds := [_, _, _, _]) sz24 rfl rfl rfl) ?_
   refine rgm_q rfl (q_move (x := .d (.sl _ _)) rfl) ?_
   refine rgm_q rfl (q_m rfl) ?_
   refine rgm_q rfl (q_indexAddr sl87 rfl rfl (by omega) (map_at (k := i) (by omega) hx)) ?_
   refine rgm_q rfl (q_indexAddr_ar ar203 rfl rfl (by omega) (by omega)) ?_
   refine rgm_q rfl (q_loadA (ds := [_, _, _, _]) sz24 rfl rfl rfl) ?_
   refine rgm_q rfl (q_fieldAddr_ref fld37_0 rfl) ?_
   refine rgm_q rfl (q_fieldAddr_ref fld28_1 rfl) ?_
   refine rgm_m (k := 2) rfl rfl (by rfl) (m_store sz24 rfl rfl (by exact .inr ⟨_, rfl⟩) rfl rfl (by exact Nat.le_of_ble_eq_true rfl) rfl) ?_
   refine rgm_q rfl (q_fieldAddr_ref fld37_0 rfl) ?_
   refine rgm_q rfl (q_fieldAddr_ref fld28_2 rfl) ?_
   refine rgm_m (k := 2) rfl rfl (by rfl) (m_store sz24 rfl rfl (by exact .inr ⟨_, rfl⟩) rfl rfl (by exact Nat.le_of_ble_eq_true rfl) rfl) ?_
   refine rgm_nil (aops_nil ?_)
   change Awp _ _ _ _ _
   refine awp_seq ?_
   refine xa 8 ?_
   refine rg_q (q_load_refA sz37 rfl rfl rfl rfl) ?_
   refine rg_q (q_call en39 (.cons rfl .nil) rfl (rimage_p (tM t x) hok)) ?_
   refine rg_q (q_call en59 (.cons rfl .nil) rfl ((by have q := rpowers_p (imL (tM t x) (evI (tM t x)) []); rw [show pwR (imL (tM t x) (evI (tM t x)) []) = (((List.range (clN t)).map (pwQ (tM t x))), 0) from by rw [← rim_ev]; exact pw_img hok] at q; exact q))) ?_
   refine rg_q (q_move (x := .d (.tup _)) rfl) (rg_q (q_extract rfl rfl) (rg_q (q_extract rfl rfl) (rg_q (q_assign (x := .d (.sl _ _)) rfl) (rg_q (q_a rfl) ?_))))
   refine rs (xa 1 ?_)
   refine rg_q (q_a rfl) ?_
   refine xc (awp_block ?_)
   refine awp_loopH [6, 7, 11, 38, 39, 40, 41, 42, 43, 44, 45, 46, 47, 48, 49, 50, 51, 52, 53, 54, 55, 56, 57, 58, 59, 60, 61, 62, 63, 64, 65, 66, 67, 68, 69, 70, 71, 72, 73, 74, 75] [6, 7] (α := Nat) (fun j => [(11, T.i (j : Int)), (6, .rs 6), (7, .rs 7)]) (fun j => [(6, .row 3 1 ((rbL (msP t ms) (clN t) i j Prod.fst).map iC)), (7, .row 3 1 ((rbL (msP t ms) (clN t) i j Prod.snd).map iC))]) (fun j => j ≤ clN t) (fun j => clN t - j) 0 (Nat.zero_le _) ?_ ?_
   · exact xh (ms := [6, 7]) (by repeat (exact Out.refl _)) ⟨(by rfl), (by rfl), (by rfl), trivial⟩ ⟨(by rfl), (by rfl), trivial⟩
   ·
    intro j hj0
    refine awp_seq ?_
    refine awp_seq ?_
    refine xa 4 ?_
    refine rg_q (q_m rfl) (rg_q (q_move (x := .d (.sl _ _)) rfl) ?_)
    refine rg_q (q_len isl77 rfl (by exact len_map _ _)) ?_
    refine rg_q (q_lss rfl rfl) ?_
    refine xc (awp_len (t := 39) rfl (fun hl39 => ?_))
    (try simp only [List.length_map] at hl39)
    refine awp_cond rfl (fun hc8 => ?_) (fun hc8 => ?_)
    ·
     (try simp only [nb, ne_eq] at hc8)
     have hj : j < clN t := by omega
     have hpx : ((List.range (clN t)).map (pwQ (tM t x)))[j]? = some (msP t ms i j) := by rw [List.getElem?_map, List.getElem?_range hj, msP_at hx]; rfl
     refine awp_skip ?_
     change Awp _ _ _ _ _
     refine awp_seq ?_
     refine awp_block ?_
     refine awp_seq ?_
     refine xa 2 ?_
     refine rg_q (q_m rfl) (rg_q (q_eql rfl rfl) ?_)
     refine xc (awp_cond rfl (fun hc10 => ?_) (fun hc10 => ?_))
     ·
      (try simp only [nb, ne_eq] at hc10)
      have hi0 : i = 0 := by omega
      subst hi0
      have hq1 := rbL_len0 (msP t ms) (clN t) j Prod.fst
      have hq2 := rbL_len0 (msP t ms) (clN t) j Prod.snd
      have hs1 := rbL_snoc (msP t ms) (clN t) j Prod.fst
      have hs2 := rbL_snoc (msP t ms) (clN t) j Prod.snd
      refine awp_earlyM (i := 3) mixed rfl (by kernel_rfl) rfl ?_
      refine any_regionC 10 [0, 2, 9] [6, 7] (by kernel_rfl) ?_
      refine rgc_c rfl rfl (c_q (q_move (x := .rs _) rfl)) ?_
      refine rgc_q rfl (q_buildSlice sl77 zr3 rfl rfl (by decide) (.cons rfl (by exact .inl rfl) .nil) ⟨rfl, rfl, trivial⟩ rfl (by decide) rfl) rfl ?_
      refine rgc_c rfl rfl (c_append (es' := ((rbL (msP t ms) (clN t) 0 (j + 1) Prod.fst).map iC)) sl77 zr3 by3 rfl (by decide) rfl rfl rfl rfl (by (try simp only [List.length_map, List.length_append, List.length_cons, List.length_nil]); omega) (by (try simp only [List.length_map, List.length_append, List.length_cons, List.length_nil]); omega) hs1) ?_
      refine rgc_q rfl (q_move (x := .d (.v (.bool true))) rfl) rfl ?_
      refine rgc_q rfl (q_move (x := .d (.sl _ _)) rfl) rfl ?_
      refine rgc_q rfl (q_m rfl) rfl ?_
      refine rgc_q rfl (q_indexAddr sl77 rfl rfl (by omega) (map_at (k := j) (by omega) hpx)) rfl ?_
      refine rgc_q rfl (q_load sz3 rfl rfl) rfl ?_
      refine rgc_q rfl (q_buildSlice sl77 zr3 rfl rfl (by decide) (.cons rfl (by exact .inl rfl) .nil) ⟨rfl, rfl, trivial⟩ rfl (by decide) rfl) rfl ?_
      refine rgc_c rfl rfl (c_append (es' := ((rbL (msP t ms) (clN t) 0 (j + 1) Prod.snd).map iC)) sl77 zr3 by3 rfl (by decide) rfl rfl rfl rfl (by (try simp only [List.length_map, List.length_append, List.length_cons, List.length_nil]); omega) (by (try simp only [List.length_map, List.length_append, List.length_cons, List.length_nil]); omega) hs2) ?_
      refine rgc_nil ?_
      refine aops_q rfl (q_assign (x := .rs _) rfl) ?_
      refine aops_q rfl (q_assign (x := .rs _) rfl) ?_
      refine aops_nil ?_
      refine ⟨rfl, ?_⟩
      change Awp _ _ _ _ _
      refine xa 3 ?_
      refine rg_q (q_m rfl) ?_
      refine rg_q (q_add rfl rfl xi) ?_
      refine rg_q (q_a rfl) ?_
      refine rn ?_
      refine ⟨j + 1, by omega, by omega, ?_⟩
      exact xh (ms := [6, 7]) (by repeat (first | exact Out.head rfl rfl | (refine Out.put ?_ rfl) | (refine Out.site ?_ rfl) | (refine Out.killS ?_ rfl) | (refine Out.ovD ?_ rfl))) ⟨(by rfl), (by rfl), (by rfl), trivial⟩ ⟨(by rfl), (by rfl), trivial⟩
     ·
      (try simp only [nb, ne_eq] at hc10)
      have hi0 : i ≠ 0 := by omega
      have hl1 : ((rbL (msP t ms) (clN t) i j Prod.fst).map iC).length = clN t := by rw [List.length_map, rbL_ne hi0, bsL_len]
      have hl2 : ((rbL (msP t ms) (clN t) i j Prod.snd).map iC).length = clN t := by rw [List.length_map, rbL_ne hi0, bsL_len]
      have hr1 : ((rbL (msP t ms) (clN t) i j Prod.fst).map iC)[j]? = some (iC (bsF (msP t ms) i j).1) := by rw [rbL_ne hi0]; exact bsL_at (msP t ms) (i := i) Prod.fst hj
      have hr2 : ((rbL (msP t ms) (clN t) i j Prod.snd).map iC)[j]? = some (iC (bsF (msP t ms) i j).2) := by rw [rbL_ne hi0]; exact bsL_at (msP t ms) (i := i) Prod.snd hj
      have ht1 : ((rbL (msP t ms) (clN t) i j Prod.fst).map iC).set j (iC (bsF (msP t ms) (i + 1) j).1) = (rbL (msP t ms) (clN t) i (j + 1) Prod.fst).map iC := by rw [rbL_ne hi0, rbL_ne hi0]; exact bsL_set (msP t ms) (i := i) Prod.fst hj
      have ht2 : ((rbL (msP t ms) (clN t) i j Prod.snd).map iC).set j (iC (bsF (msP t ms) (i + 1) j).2) = (rbL (msP t ms) (clN t) i (j + 1) Prod.snd).map iC := by rw [rbL_ne hi0, rbL_ne hi0]; exact bsL_set (msP t ms) (i := i) Prod.snd hj
      refine awp_seq ?_
      refine xa 9 ?_
      refine rg_q (q_move (x := .d (.sl _ _)) rfl) (rg_q (q_m rfl) ?_)
      refine rg_q (q_indexAddr sl77 rfl rfl (by omega) (map_at (k := j) (by omega) hpx)) ?_
      refine rg_q (q_load sz3 rfl rfl) (rg_q (q_move (x := .rs _) rfl) (rg_q (q_m rfl) ?_))
      refine rg_q (q_indexAddr_rs sl77 rfl rfl rfl (by omega) (by omega)) ?_
      refine rg_q (q_load_row sz3 rfl rfl (i := j) (j := 0) (by omega) hr2 rfl) ?_
      refine rg_q (q_gtr rfl rfl) ?_
      refine xc (awp_cond rfl (fun hc12 => ?_) (fun hc12 => ?_))
      ·
       (try simp only [nb, ne_eq] at hc12)
       have hup : bsF (msP t ms) (i + 1) j = ((i : Int), msP t ms i j) := bs_up (.inr hc12)
       rw [hup] at ht1 ht2
       refine xa 10 ?_
       refine rg_q (q_move (x := .rs _) rfl) (rg_q (q_m rfl) (rg_q (q_move (x := .rs _) rfl) (rg_q (q_m rfl) (rg_q (q_m rfl) (rg_q (q_move (x := .d (.sl _ _)) rfl) ?_)))))
       refine rg_q (q_m rfl) ?_
       refine rg_q (q_indexAddr sl77 rfl rfl (by omega) (map_at (k := j) (by omega) hpx)) ?_
       refine rg_q (q_load sz3 rfl rfl) ?_
       refine rg_q (q_indexAddr_rs sl77 rfl rfl rfl (by omega) (by omega)) ?_
       refine rg_nil ?_
       refine aops_store_row sz3 rfl rfl (by exact .inl rfl) rfl rfl (i := j) (j := 0) (by omega) hr1 (by decide) ht1 ?_
       refine aops_q rfl (q_indexAddr_rs sl77 rfl rfl rfl (by omega) (by omega)) ?_
       refine aops_store_row sz3 rfl rfl (by exact .inl rfl) rfl rfl (i := j) (j := 0) (by omega) hr2 (by decide) ht2 ?_
       refine aops_nil ?_
       change Awp _ _ _ _ _
       refine xa 3 ?_
       refine rg_q (q_m rfl) ?_
       refine rg_q (q_add rfl rfl xi) ?_
       refine rg_q (q_a rfl) ?_
       refine rn ?_
       refine ⟨j + 1, by omega, by omega, ?_⟩
       exact xh (ms := [6, 7]) (by repeat (first | exact Out.head rfl rfl | (refine Out.put ?_ rfl) | (refine Out.site ?_ rfl))) ⟨(by rfl), (by rfl), (by rfl), trivial⟩ ⟨(by rfl), (by rfl), trivial⟩
      ·
       (try simp only [nb, ne_eq] at hc12)
       have hno : bsF (msP t ms) (i + 1) j = bsF (msP t ms) i j := bs_no (by omega)
       have hs1 : (rbL (msP t ms) (clN t) i j Prod.fst).map iC = (rbL (msP t ms) (clN t) i (j + 1) Prod.fst).map iC := by rw [rbL_ne hi0, rbL_ne hi0]; exact bsL_same (msP t ms) Prod.fst hj hno
       have hs2 : (rbL (msP t ms) (clN t) i j Prod.snd).map iC = (rbL (msP t ms) (clN t) i (j + 1) Prod.snd).map iC := by rw [rbL_ne hi0, rbL_ne hi0]; exact bsL_same (msP t ms) Prod.snd hj hno
       refine awp_skip ?_
       change Awp _ _ _ _ _
       refine xa 3 ?_
       refine rg_q (q_m rfl) ?_
       refine rg_q (q_add rfl rfl xi) ?_
       refine rg_q (q_a rfl) ?_
       refine rn ?_
       refine ⟨j + 1, by omega, by omega, ?_⟩
       exact xh (ms := [6, 7]) (by repeat (first | exact Out.head rfl rfl | (refine Out.put ?_ rfl))) ⟨(by rfl), (by rfl), (by rfl), trivial⟩ ⟨(by ((show Site.row _ _ _ = Site.row _ _ _; (rw [hs1]; done)))), (by ((show Site.row _ _ _ = Site.row _ _ _; (rw [hs2]; done)))), trivial⟩
    ·
     (try simp only [nb, ne_eq] at hc8)
     have hjn : j = clN t := by omega
     subst hjn
     refine awp_exit ?_
     change Awp _ _ _ _ _
     refine xa 3 ?_
     refine rg_q (q_m rfl) ?_
     refine rg_q (q_add rfl rfl xi) ?_
     refine rg_q (q_a rfl) ?_
     refine rn ?_
     refine ⟨(i + 1, x), by (try simp only); omega, by (try simp only); omega, ?_⟩
     exact xh (ms := [2, 6, 7]) (by repeat (first | exact Out.head rfl rfl | (refine Out.put ?_ rfl) | (refine Out.site ?_ rfl) | (refine Out.headIn ?_ rfl rfl rfl))) ⟨(by rfl), (by rfl), (by rfl), trivial⟩ ⟨(by rfl), (by ((show Site.row _ _ _ = Site.row _ _ _; (rw [rbL_done]; done)))), (by ((show Site.row _ _ _ = Site.row _ _ _; (rw [rbL_done]; done)))), trivial⟩
  ·
   (try simp only [nb, ne_eq] at hc3)
   have hin : i = ms.length := by omega
   subst hin
   refine awp_exit ?_
   change Awp _ _ _ _ _
   refine awp_seq ?_
   refine xa 4 ?_
   refine rg_q (q_move (x := .rs _) rfl) (rg_q (q_move (x := .rs _) rfl) (rg_q (q_assign (x := .rs _) rfl) (rg_q (q_assign (x := .rs _) rfl) ?_)))
   refine xc (awp_ret ?_)
   refine ⟨_, (.cons (.tmp (by exact .rs rfl)) (.cons (.tmp (by exact .rs rfl)) .nil)), ?_⟩
   rw [← hf1, ← hf2]; rfl
end Go.Proofs.YtamaocfjknpadaaGreat.Am.M
-- mini
set_option maxRecDepth 100000
namespace Go.Proofs.YtamaocfjknpadaaGreat.Am.M
open Go
theorem bestW_p (t : Tsk) (ms : List (Md × Md)) (hw : (ckT t).2 ≠ 0) : PC Tryz.prog 46 [.agg (tskC t), .sl 8 (ms.map md2C)] (.tup [.sl 1 [], .sl 1 [], .v (.int .i64 ((ckT t).2))]) := by
 refine pc_of_awpN Tryz.func46 rfl Tryz.ntmps46 (rs := [.tmp 4, .tmp 5, .tmp 6]) Tryz.results46 (by simp) fun w0 hmine hrnd hpn => ?_
 refine awp_seq ?_
 refine xa 4 ?_
 refine rg_q (q_box rfl (by exact .inr ⟨_, rfl⟩)) ?_
 refine rg_q (q_assign (x := .d (.sl _ _)) rfl) (rg_q (q_assign (x := .d (.sl _ _)) rfl) (rg_q (q_a rfl) ?_))
 refine rs (xa 7 ?_)
 refine rg_q (q_loadA sz37 rfl rfl rfl) ?_
 refine rg_q (q_call en112 (.cons rfl .nil) rfl (open5_p t hw)) ?_
 refine rg_q (q_move (x := .d (.tup _)) rfl) (rg_q (q_extract rfl rfl) (rg_q (q_extract rfl rfl) (rg_q (q_a rfl) (rg_q (q_a rfl) ?_))))
 refine rs (awp_seq ?_)
 refine xa 2 ?_
 refine rg_q (q_m rfl) (rg_q (q_neq rfl rfl) ?_)
 refine xc (awp_cond rfl (fun hc2 => ?_) (fun hc2 => ?_))
 ·
  (try simp only [nb, ne_eq] at hc2)
  refine awp_seq ?_
  refine xa 4 ?_
  refine rg_q (q_m rfl) (rg_q (q_assign (x := .d (.sl _ _)) rfl) (rg_q (q_assign (x := .d (.sl _ _)) rfl) (rg_q (q_a rfl) ?_)))
  refine xc (awp_ret ?_)
  refine ⟨_, xk3, ?_⟩
  rfl
 ·
  (try simp only [nb, ne_eq] at hc2)
  exact absurd hc2 hw
theorem bestLarge_p (t : Tsk) (ms : List (Md × Md)) (h : TskOk t) (h2 : 4 < ms.length) : PC Tryz.prog 46 [.agg (tskC t), .sl 8 (ms.map md2C)] (.tup [.sl 1 [], .sl 1 [], .v (.int .i64 (8))]) := by
 refine pc_of_awpN Tryz.func46 rfl Tryz.ntmps46 (rs := [.tmp 4, .tmp 5, .tmp 6]) Tryz.results46 (by simp) fun w0 hmine hrnd hpn => ?_
 refine awp_seq ?_
 refine xa 4 ?_
 refine rg_q (q_box rfl (by exact .inr ⟨_, rfl⟩)) ?_
 refine rg_q (q_assign (x := .d (.sl _ _)) rfl) (rg_q (q_assign (x := .d (.sl _ _)) rfl) (rg_q (q_a rfl) ?_))
 refine rs (xa 1 ?_)
 refine rg_q (q_loadA sz37 rfl rfl rfl) ?_
 refine rg_nil ?_
 refine aops_callL [27] [] en112 (openT_p t h) (.cons rfl .nil) rfl rfl rfl (by repeat (exact trivial)) (by repeat (first | exact trivial | refine ⟨rfl, ?_⟩)) rfl ?_
 refine aops_q rfl (q_move (x := .own _ _ _ _) rfl) ?_
 refine aops_q rfl (q_extract_tp0 rfl) ?_
 refine aops_q rfl (q_extract_tpS (i := 0) rfl rfl) ?_
 refine aops_q rfl (q_assign (x := .ref _ _) rfl) ?_
 refine aops_q rfl (q_a rfl) ?_
 refine aops_nil (xq (awp_seq ?_))
 refine xa 2 ?_
 refine rg_q (q_m rfl) (rg_q (q_neq rfl rfl) ?_)
 refine xc (awp_cond rfl (fun hc2 => ?_) (fun hc2 => ?_))
 ·
  simp at hc2
 ·
  (try simp only [nb, ne_eq] at hc2)
  refine awp_skip ?_
  change Awp _ _ _ _ _
  refine awp_seq ?_
  refine awp_block ?_
  refine awp_seq ?_
  refine xa 4 ?_
  refine rg_q (q_move (x := .d (.sl _ _)) rfl) ?_
  refine rg_q (q_len isl87 rfl (by exact len_map _ _)) ?_
  refine rg_q (q_eql rfl rfl) (rg_q (q_a rfl) ?_)
  refine xc (awp_len (t := 29) rfl (fun hl29 => ?_))
  (try simp only [List.length_map] at hl29)
  refine awp_cond rfl (fun hc4 => ?_) (fun hc4 => ?_)
  ·
   have hc4 := of_decide_eq_true hc4
   (try simp only [List.length_map] at hc4)
   omega
  ·
   (try simp only [nb, ne_eq] at hc4)
   refine awp_seq ?_
   refine xa 4 ?_
   refine rg_q (q_move (x := .d (.sl _ _)) rfl) ?_
   refine rg_q (q_len isl87 rfl (by exact len_map _ _)) ?_
   refine rg_q (q_gtr rfl rfl) (rg_q (q_a rfl) ?_)
   refine xc (awp_len (t := 33) rfl (fun hl33 => ?_))
   (try simp only [List.length_map] at hl33)
   refine awp_cond rfl (fun hc6 => ?_) (fun hc6 => ?_)
   ·
    (try simp only [nb, ne_eq] at hc6)
    refine awp_seq ?_
    refine xa 3 ?_
    refine rg_q (q_assign (x := .d (.sl _ _)) rfl) (rg_q (q_assign (x := .d (.sl _ _)) rfl) (rg_q (q_a rfl) ?_))
    refine xc (awp_ret ?_)
    refine ⟨_, xk3, ?_⟩
    rfl
   ·
    have hc6 := of_decide_eq_false hc6
    (try simp only [List.length_map] at hc6)
    omega

theorem bestMo_p (t : Tsk) (ms : List (Md × Md)) (h : TskOk t) (hE : moE t ms ≠ 0) : PC Tryz.prog 46 [.agg (tskC t), .sl 8 (ms.map md2C)] (.tup [.sl 1 [], .sl 1 [], .v (.int .i64 (moE t ms))]) := by
  unfold moE at hE ⊢
  by_cases h1 : ms.length = 0
  · rw [if_pos h1]
    have : ms = [] := List.length_eq_zero_iff.1 h1
    subst this
    exact bestNone_p t h
  · rw [if_neg h1] at hE ⊢
    by_cases h2 : 4 < ms.length
    · rw [if_pos h2]
      exact bestLarge_p t ms h h2
    · rw [if_neg h2] at hE ⊢
      exact bestErr_p t ms h (by omega) (by omega) hE
theorem mo_ok (t : Tsk) (ms : List (Md × Md)) (hE : moE t ms = 0) : 1 ≤ ms.length ∧ ms.length ≤ 4 ∧ msE t.ar.ou.t ms = 0 := by
  unfold moE at hE
  by_cases h1 : ms.length = 0
  · rw [if_pos h1] at hE; cases hE
  · rw [if_neg h1] at hE
    by_cases h2 : 4 < ms.length
    · rw [if_pos h2] at hE; cases hE
    · rw [if_neg h2] at hE
      exact ⟨by omega, by omega, hE⟩
theorem modesW_p (t : Tsk) (ms : List (Md × Md)) (hw : (ckT t).2 ≠ 0) : PC Tryz.prog 9 [.agg (tskC t), .sl 8 (ms.map md2C)] (.v (.bool (true))) := by
 refine pc_of_awpN Tryz.func9 rfl Tryz.ntmps9 (rs := [.tmp 4]) Tryz.results9 (by simp) fun w0 hmine hrnd hpn => ?_
 refine awp_seq ?_
 refine xa 2 ?_
 refine rg_q (q_box rfl (by exact .inr ⟨_, rfl⟩)) ?_
 refine rg_q (q_a rfl) ?_
 refine rs (awp_seq ?_)
 refine xa 2 ?_
 refine rg_q (q_call en18 .nil rfl (awake5_p)) ?_
 refine rg_q (q_not rfl) ?_
 refine xc (awp_cond rfl (fun hc1 => ?_) (fun hc1 => ?_))
 ·
  simp at hc1
 ·
  (try simp only [nb, ne_eq] at hc1)
  refine awp_skip ?_
  change Awp _ _ _ _ _
  refine awp_seq ?_
  refine awp_seq ?_
  refine xa 18 ?_
  refine rg_q (q_loadA sz37 rfl rfl rfl) ?_
  refine rg_q (q_call en19 (.cons rfl .nil) rfl (light_p _)) ?_
  refine rg_q (q_not rfl) (rg_q (q_m rfl) ?_)
  refine rg_g rfl rfl (fun hG => (q_move (x := .d (.sl _ _)) rfl)) ?_
  refine rg_g rfl rfl (fun hG => (q_len isl87 rfl (by exact len_map _ _))) ?_
  refine rg_g rfl rfl (fun hG => (q_gtr rfl rfl)) ?_
  refine rg_g rfl rfl (fun hG => (q_m rfl)) ?_
  refine rg_g rfl rfl (fun hG => (q_move (x := .d (.sl _ _)) rfl)) ?_
  refine rg_g rfl rfl (fun hG => (q_len isl87 rfl (by exact len_map _ _))) ?_
  refine rg_g rfl rfl (fun hG => (q_leq rfl rfl)) ?_
  refine rg_pickg rfl rfl rfl rfl rfl rfl rfl rfl ?_
  refine rg_pick rfl rfl rfl rfl rfl rfl ?_
  refine rg_q (q_m rfl) ?_
  refine rg_g rfl rfl (fun hG => (q_move (x := .d (.sl _ _)) rfl)) ?_
  refine rg_g rfl rfl (fun hG => (q_len isl87 rfl (by exact len_map _ _))) ?_
  refine rg_g rfl rfl (fun hG => (q_gtr rfl rfl)) ?_
  refine rg_pick rfl rfl rfl rfl rfl rfl ?_
  refine xc (awp_cond rfl (fun hc3 => ?_) (fun hc3 => ?_))
  ·
   (try simp only [nb, ne_eq] at hc3)
   refine awp_seq ?_
   refine xa 1 ?_
   refine rg_q (q_a rfl) ?_
   refine xc (awp_ret ?_)
   refine ⟨_, xk1, ?_⟩
   rfl
  ·
   (try simp only [nb, ne_eq] at hc3)
   have hlt : litB t = true := by
    cases q : litB t with
    | true => rfl
    | false => rw [q] at hc3; simp at hc3
   obtain ⟨l1, l2⟩ := lit_le hlt
   have hml : ms.length ≤ 6 := by omega
   refine awp_skip ?_
   change Awp _ _ _ _ _
   refine awp_seq ?_
   refine xa 13 ?_
   refine rg_q (q_loadA sz37 rfl rfl rfl) ?_
   refine rg_q (q_call en21 (.cons rfl .nil) rfl (rcopyT_p t (by omega) (by omega))) ?_
   refine rg_q (q_empty0 sl87 zr203) ?_
   refine rg_q (q_move (x := .d (.sl _ _)) rfl) ?_
   refine rg_q (q_append0 sl87 zr203 by203 rfl (by decide) rfl rfl rfl (by (try simp only [List.length_map]); omega) (by (try simp only [List.length_map]); omega)) ?_
   refine rg_q (q_call en46 (.cons rfl (.cons rfl .nil)) rfl (bestW_p t ms hw)) ?_
   refine rg_q (q_move (x := .d (.tup _)) rfl) (rg_q (q_extract rfl rfl) (rg_q (q_extract rfl rfl) (rg_q (q_extract rfl rfl) (rg_q (q_assign (x := .d (.sl _ _)) rfl) (rg_q (q_assign (x := .d (.sl _ _)) rfl) ?_)))))
   refine rg_q (q_a rfl) ?_
   refine rs (xa 3 ?_)
   refine rg_q (q_loadA sz37 rfl rfl rfl) ?_
   refine rg_q (q_call en24 (.cons rfl .nil) rfl (rtaskErr_p t)) ?_
   refine rg_q (q_a rfl) ?_
   refine rs (awp_seq ?_)
   refine xa 2 ?_
   refine rg_q (q_m rfl) (rg_q (q_eql rfl rfl) ?_)
   refine xc (awp_cond rfl (fun hc7 => ?_) (fun hc7 => ?_))
   ·
    exact absurd (of_decide_eq_true hc7) hw
   ·
    (try simp only [nb, ne_eq] at hc7)
    refine awp_skip ?_
    change Awp _ _ _ _ _
    refine awp_seq ?_
    refine awp_seq ?_
    refine xa 2 ?_
    refine rg_q (q_m rfl) (rg_q (q_neq rfl rfl) ?_)
    refine xc (awp_cond rfl (fun hc9 => ?_) (fun hc9 => ?_))
    ·
     (try simp only [nb, ne_eq] at hc9)
     refine awp_seq ?_
     refine xa 12 ?_
     refine rg_q (q_m rfl) (rg_q (q_m rfl) (rg_q (q_eql rfl rfl) (rg_q (q_m rfl) ?_)))
     refine rg_g rfl rfl (fun hG => (q_move (x := .d (.sl _ _)) rfl)) ?_
     refine rg_g rfl rfl (fun hG => (q_len isl77 rfl (by rfl))) ?_
     refine rg_g rfl rfl (fun hG => (q_move (x := .d (.sl _ _)) rfl)) ?_
     refine rg_g rfl rfl (fun hG => (q_len isl77 rfl (by rfl))) ?_
     refine rg_g rfl rfl (fun hG => (q_add rfl rfl (In64.mk (by decide) (by decide)))) ?_
     refine rg_g rfl rfl (fun hG => (q_eql rfl rfl)) ?_
     refine rg_pick rfl rfl rfl rfl rfl rfl ?_
     refine rg_q (q_a rfl) ?_
     refine xc (awp_ret ?_)
     refine ⟨_, xk1, ?_⟩
     simp [retD]
    ·
     exact absurd (Decidable.not_not.1 (of_decide_eq_false hc9)) hw
theorem modesB_p (t : Tsk) (ms : List (Md × Md)) (hk : (ckT t).2 = 0) (h : TskOk t) (hE : moE t ms ≠ 0) : PC Tryz.prog 9 [.agg (tskC t), .sl 8 (ms.map md2C)] (.v (.bool (true))) := by
 refine pc_of_awpN Tryz.func9 rfl Tryz.ntmps9 (rs := [.tmp 4]) Tryz.results9 (by simp) fun w0 hmine hrnd hpn => ?_
 refine awp_seq ?_
 refine xa 2 ?_
 refine rg_q (q_box rfl (by exact .inr ⟨_, rfl⟩)) ?_
 refine rg_q (q_a rfl) ?_
 refine rs (awp_seq ?_)
 refine xa 2 ?_
 refine rg_q (q_call en18 .nil rfl (awake5_p)) ?_
 refine rg_q (q_not rfl) ?_
 refine xc (awp_cond rfl (fun hc1 => ?_) (fun hc1 => ?_))
 ·
  simp at hc1
 ·
  (try simp only [nb, ne_eq] at hc1)
  refine awp_skip ?_
  change Awp _ _ _ _ _
  refine awp_seq ?_
  refine awp_seq ?_
  refine xa 18 ?_
  refine rg_q (q_loadA sz37 rfl rfl rfl) ?_
  refine rg_q (q_call en19 (.cons rfl .nil) rfl (light_p _)) ?_
  refine rg_q (q_not rfl) (rg_q (q_m rfl) ?_)
  refine rg_g rfl rfl (fun hG => (q_move (x := .d (.sl _ _)) rfl)) ?_
  refine rg_g rfl rfl (fun hG => (q_len isl87 rfl (by exact len_map _ _))) ?_
  refine rg_g rfl rfl (fun hG => (q_gtr rfl rfl)) ?_
  refine rg_g rfl rfl (fun hG => (q_m rfl)) ?_
  refine rg_g rfl rfl (fun hG => (q_move (x := .d (.sl _ _)) rfl)) ?_
  refine rg_g rfl rfl (fun hG => (q_len isl87 rfl (by exact len_map _ _))) ?_
  refine rg_g rfl rfl (fun hG => (q_leq rfl rfl)) ?_
  refine rg_pickg rfl rfl rfl rfl rfl rfl rfl rfl ?_
  refine rg_pick rfl rfl rfl rfl rfl rfl ?_
  refine rg_q (q_m rfl) ?_
  refine rg_g rfl rfl (fun hG => (q_move (x := .d (.sl _ _)) rfl)) ?_
  refine rg_g rfl rfl (fun hG => (q_len isl87 rfl (by exact len_map _ _))) ?_
  refine rg_g rfl rfl (fun hG => (q_gtr rfl rfl)) ?_
  refine rg_pick rfl rfl rfl rfl rfl rfl ?_
  refine xc (awp_cond rfl (fun hc3 => ?_) (fun hc3 => ?_))
  ·
   (try simp only [nb, ne_eq] at hc3)
   refine awp_seq ?_
   refine xa 1 ?_
   refine rg_q (q_a rfl) ?_
   refine xc (awp_ret ?_)
   refine ⟨_, xk1, ?_⟩
   rfl
  ·
   (try simp only [nb, ne_eq] at hc3)
   have hlt : litB t = true := by
    cases q : litB t with
    | true => rfl
    | false => rw [q] at hc3; simp at hc3
   obtain ⟨l1, l2⟩ := lit_le hlt
   have hml : ms.length ≤ 6 := by omega
   refine awp_skip ?_
   change Awp _ _ _ _ _
   refine awp_seq ?_
   refine xa 13 ?_
   refine rg_q (q_loadA sz37 rfl rfl rfl) ?_
   refine rg_q (q_call en21 (.cons rfl .nil) rfl (rcopyT_p t (by omega) (by omega))) ?_
   refine rg_q (q_empty0 sl87 zr203) ?_
   refine rg_q (q_move (x := .d (.sl _ _)) rfl) ?_
   refine rg_q (q_append0 sl87 zr203 by203 rfl (by decide) rfl rfl rfl (by (try simp only [List.length_map]); omega) (by (try simp only [List.length_map]); omega)) ?_
   refine rg_q (q_call en46 (.cons rfl (.cons rfl .nil)) rfl (bestMo_p t ms h hE)) ?_
   refine rg_q (q_move (x := .d (.tup _)) rfl) (rg_q (q_extract rfl rfl) (rg_q (q_extract rfl rfl) (rg_q (q_extract rfl rfl) (rg_q (q_assign (x := .d (.sl _ _)) rfl) (rg_q (q_assign (x := .d (.sl _ _)) rfl) ?_)))))
   refine rg_q (q_a rfl) ?_
   refine rs (xa 3 ?_)
   refine rg_q (q_loadA sz37 rfl rfl rfl) ?_
   refine rg_q (q_call en24 (.cons rfl .nil) rfl ((by have q := rtaskErr_p t; rw [hk] at q; exact q))) ?_
   refine rg_q (q_a rfl) ?_
   refine rs (awp_seq ?_)
   refine xa 2 ?_
   refine rg_q (q_m rfl) (rg_q (q_eql rfl rfl) ?_)
   refine xc (awp_cond rfl (fun hc7 => ?_) (fun hc7 => ?_))
   ·
    (try simp only [nb, ne_eq] at hc7)
    refine xa 4 ?_
    refine rg_q (q_loadA sz37 rfl rfl rfl) ?_
    refine rg_q (q_move (x := .d (.sl _ _)) rfl) ?_
    refine rg_q (q_call en47 (.cons rfl (.cons rfl .nil)) rfl (rmodesErr_p _ _)) ?_
    refine rg_q (q_a rfl) ?_
    refine rs (awp_seq ?_)
    refine xa 2 ?_
    refine rg_q (q_m rfl) (rg_q (q_neq rfl rfl) ?_)
    refine xc (awp_cond rfl (fun hc9 => ?_) (fun hc9 => ?_))
    ·
     (try simp only [nb, ne_eq] at hc9)
     refine awp_seq ?_
     refine xa 12 ?_
     refine rg_q (q_m rfl) (rg_q (q_m rfl) (rg_q (q_eql rfl rfl) (rg_q (q_m rfl) ?_)))
     refine rg_g rfl rfl (fun hG => (q_move (x := .d (.sl _ _)) rfl)) ?_
     refine rg_g rfl rfl (fun hG => (q_len isl77 rfl (by rfl))) ?_
     refine rg_g rfl rfl (fun hG => (q_move (x := .d (.sl _ _)) rfl)) ?_
     refine rg_g rfl rfl (fun hG => (q_len isl77 rfl (by rfl))) ?_
     refine rg_g rfl rfl (fun hG => (q_add rfl rfl (In64.mk (by decide) (by decide)))) ?_
     refine rg_g rfl rfl (fun hG => (q_eql rfl rfl)) ?_
     refine rg_pick rfl rfl rfl rfl rfl rfl ?_
     refine rg_q (q_a rfl) ?_
     refine xc (awp_ret ?_)
     refine ⟨_, xk1, ?_⟩
     simp [retD]
    ·
     exact absurd (Decidable.not_not.1 (of_decide_eq_false hc9)) hE
   ·
    simp at hc7
theorem modesOk_p (t : Tsk) (ms : List (Md × Md)) (hk : (ckT t).2 = 0) (h : TskOk t) (hE : moE t ms = 0) (h1 : 1 ≤ ms.length) (h2 : ms.length ≤ 4) (hm : msE t.ar.ou.t ms = 0) : PC Tryz.prog 9 [.agg (tskC t), .sl 8 (ms.map md2C)] (.v (.bool (true))) := by
 refine pc_of_awpN Tryz.func9 rfl Tryz.ntmps9 (rs := [.tmp 4]) Tryz.results9 (by simp) fun w0 hmine hrnd hpn => ?_
 refine awp_seq ?_
 refine xa 2 ?_
 refine rg_q (q_box rfl (by exact .inr ⟨_, rfl⟩)) ?_
 refine rg_q (q_a rfl) ?_
 refine rs (awp_seq ?_)
 refine xa 2 ?_
 refine rg_q (q_call en18 .nil rfl (awake5_p)) ?_
 refine rg_q (q_not rfl) ?_
 refine xc (awp_cond rfl (fun hc1 => ?_) (fun hc1 => ?_))
 ·
  simp at hc1
 ·
  (try simp only [nb, ne_eq] at hc1)
  refine awp_skip ?_
  change Awp _ _ _ _ _
  refine awp_seq ?_
  refine awp_seq ?_
  refine xa 18 ?_
  refine rg_q (q_loadA sz37 rfl rfl rfl) ?_
  refine rg_q (q_call en19 (.cons rfl .nil) rfl (light_p _)) ?_
  refine rg_q (q_not rfl) (rg_q (q_m rfl) ?_)
  refine rg_g rfl rfl (fun hG => (q_move (x := .d (.sl _ _)) rfl)) ?_
  refine rg_g rfl rfl (fun hG => (q_len isl87 rfl (by exact len_map _ _))) ?_
  refine rg_g rfl rfl (fun hG => (q_gtr rfl rfl)) ?_
  refine rg_g rfl rfl (fun hG => (q_m rfl)) ?_
  refine rg_g rfl rfl (fun hG => (q_move (x := .d (.sl _ _)) rfl)) ?_
  refine rg_g rfl rfl (fun hG => (q_len isl87 rfl (by exact len_map _ _))) ?_
  refine rg_g rfl rfl (fun hG => (q_leq rfl rfl)) ?_
  refine rg_pickg rfl rfl rfl rfl rfl rfl rfl rfl ?_
  refine rg_pick rfl rfl rfl rfl rfl rfl ?_
  refine rg_q (q_m rfl) ?_
  refine rg_g rfl rfl (fun hG => (q_move (x := .d (.sl _ _)) rfl)) ?_
  refine rg_g rfl rfl (fun hG => (q_len isl87 rfl (by exact len_map _ _))) ?_
  refine rg_g rfl rfl (fun hG => (q_gtr rfl rfl)) ?_
  refine rg_pick rfl rfl rfl rfl rfl rfl ?_
  refine xc (awp_cond rfl (fun hc3 => ?_) (fun hc3 => ?_))
  ·
   (try simp only [nb, ne_eq] at hc3)
   refine awp_seq ?_
   refine xa 1 ?_
   refine rg_q (q_a rfl) ?_
   refine xc (awp_ret ?_)
   refine ⟨_, xk1, ?_⟩
   rfl
  ·
   (try simp only [nb, ne_eq] at hc3)
   have hlt : litB t = true := by
    cases q : litB t with
    | true => rfl
    | false => rw [q] at hc3; simp at hc3
   obtain ⟨l1, l2⟩ := lit_le hlt
   have hml : ms.length ≤ 6 := by omega
   refine awp_skip ?_
   change Awp _ _ _ _ _
   refine awp_seq ?_
   refine xa 13 ?_
   refine rg_q (q_loadA sz37 rfl rfl rfl) ?_
   refine rg_q (q_call en21 (.cons rfl .nil) rfl (rcopyT_p t (by omega) (by omega))) ?_
   refine rg_q (q_empty0 sl87 zr203) ?_
   refine rg_q (q_move (x := .d (.sl _ _)) rfl) ?_
   refine rg_q (q_append0 sl87 zr203 by203 rfl (by decide) rfl rfl rfl (by (try simp only [List.length_map]); omega) (by (try simp only [List.length_map]); omega)) ?_
   refine rg_q (q_call en46 (.cons rfl (.cons rfl .nil)) rfl (bestOk_p t ms h h1 h2 hm)) ?_
   refine rg_q (q_move (x := .d (.tup _)) rfl) (rg_q (q_extract rfl rfl) (rg_q (q_extract rfl rfl) (rg_q (q_extract rfl rfl) (rg_q (q_assign (x := .d (.sl _ _)) rfl) (rg_q (q_assign (x := .d (.sl _ _)) rfl) ?_)))))
   refine rg_q (q_a rfl) ?_
   refine rs (xa 3 ?_)
   refine rg_q (q_loadA sz37 rfl rfl rfl) ?_
   refine rg_q (q_call en24 (.cons rfl .nil) rfl ((by have q := rtaskErr_p t; rw [hk] at q; exact q))) ?_
   refine rg_q (q_a rfl) ?_
   refine rs (awp_seq ?_)
   refine xa 2 ?_
   refine rg_q (q_m rfl) (rg_q (q_eql rfl rfl) ?_)
   refine xc (awp_cond rfl (fun hc7 => ?_) (fun hc7 => ?_))
   ·
    (try simp only [nb, ne_eq] at hc7)
    refine xa 4 ?_
    refine rg_q (q_loadA sz37 rfl rfl rfl) ?_
    refine rg_q (q_move (x := .d (.sl _ _)) rfl) ?_
    refine rg_q (q_call en47 (.cons rfl (.cons rfl .nil)) rfl (rmodesErr_p _ _)) ?_
    refine rg_q (q_a rfl) ?_
    refine rs (awp_seq ?_)
    refine xa 2 ?_
    refine rg_q (q_m rfl) (rg_q (q_neq rfl rfl) ?_)
    refine xc (awp_cond rfl (fun hc9 => ?_) (fun hc9 => ?_))
    ·
     exact absurd hE (of_decide_eq_true hc9)
    ·
     (try simp only [nb, ne_eq] at hc9)
     refine awp_skip ?_
     change Awp _ _ _ _ _
     refine awp_seq ?_
     refine xa 8 ?_
     refine rg_q (q_loadA sz37 rfl rfl rfl) ?_
     refine rg_q (q_move (x := .d (.sl _ _)) rfl) ?_
     refine rg_q (q_call en48 (.cons rfl (.cons rfl .nil)) rfl (rbest_p t ms h h1 h2 hm)) ?_
     refine rg_q (q_move (x := .d (.tup _)) rfl) (rg_q (q_extract rfl rfl) (rg_q (q_extract rfl rfl) (rg_q (q_assign (x := .d (.sl _ _)) rfl) (rg_q (q_assign (x := .d (.sl _ _)) rfl) ?_))))
     refine rs (xa 13 ?_)
     refine rg_q (q_m rfl) (rg_q (q_eql rfl rfl) (rg_q (q_m rfl) ?_))
     refine rg_g rfl rfl (fun hG => (q_move (x := .d (.sl _ _)) rfl)) ?_
     refine rg_g rfl rfl (fun hG => (q_move (x := .d (.sl _ _)) rfl)) ?_
     refine rg_g rfl rfl (fun hG => (q_call en49 (.cons rfl (.cons rfl .nil)) rfl (ints5_p _ _))) ?_
     refine rg_pick rfl rfl rfl rfl rfl rfl ?_
     refine rg_q (q_m rfl) ?_
     refine rg_g rfl rfl (fun hG => (q_move (x := .d (.sl _ _)) rfl)) ?_
     refine rg_g rfl rfl (fun hG => (q_move (x := .d (.sl _ _)) rfl)) ?_
     refine rg_g rfl rfl (fun hG => (q_call en49 (.cons rfl (.cons rfl .nil)) rfl (ints5_p _ _))) ?_
     refine rg_pick rfl rfl rfl rfl rfl rfl ?_
     refine rg_q (q_a rfl) ?_
     refine xc (awp_ret ?_)
     refine ⟨_, xk1, ?_⟩
     simp [retD]
   ·
    simp at hc7

theorem focusModes_p (t : Tsk) (ms : List (Md × Md)) : PC Tryz.prog 9 [.agg (tskC t), .sl 8 (ms.map md2C)] (.v (.bool true)) := by
  by_cases hw : (ckT t).2 ≠ 0
  · exact modesW_p t ms hw
  · have hk := Decidable.not_not.1 hw
    by_cases hE : moE t ms = 0
    · obtain ⟨h1, h2, hm⟩ := mo_ok t ms hE
      exact modesOk_p t ms hk (ckT_ok hk) hE h1 h2 hm
    · exact modesB_p t ms hk (ckT_ok hk) hE
end Go.Proofs.YtamaocfjknpadaaGreat.Am.M
