/- Contracts over the abstract machine: images; FocusImages. Conditions: none. -/
import Derived.Test.YtphlaicnmmglhaaGreatE20
set_option linter.unusedVariables false
set_option linter.unusedSimpArgs false
-- mini
namespace Go.Proofs.YtphlaicnmmglhaaGreat.Am.M
open Go

theorem clE_of {g : Grd} {c : Int} (h1 : 0 ≤ c) (h2 : c ≤ g.co * g.ro - 1) : clE g c = 0 := by
  unfold clE
  rw [when_zero (by decide), Bool.not_eq_false']
  exact inR_iff.2 ⟨h1, h2⟩
def cvC (z : Nat × Nat) : List D := [cvD z]
def vlsF (t : Tsk) (fs dd : List Int) (k : Nat) : List (Int × Int) := (List.range k).map fun c : Nat => (vlA t (c : Int) dd (pqL fs t.ne.toNat)).1
theorem vlsF_succ (t : Tsk) (fs dd : List Int) (k : Nat) : vlsF t fs dd (k + 1) = vlsF t fs dd k ++ [(vlA t (k : Int) dd (pqL fs t.ne.toNat)).1] := by unfold vlsF; rw [List.range_succ, List.map_append]; rfl
theorem vlsF_len (t : Tsk) (fs dd : List Int) (k : Nat) : (vlsF t fs dd k).length = k := by unfold vlsF; rw [List.length_map, List.length_range]
def clN (t : Tsk) : Nat := (t.g.co * t.g.ro).toNat
def vlsL (t : Tsk) (fs dd : List Int) : List (Int × Int) := vlsF t fs dd (clN t)
set_option maxRecDepth 100000 in
theorem values_p (t : Tsk) (fs dd : List Int) (h : TskOk t) (hf : ∀ x ∈ fs, 0 ≤ x ∧ x < t.ne) (hfl : fs.length ≤ 100) : PC Tryz.prog 114 [.pt (tkC t) 0, .sl 1 (fs.map iC), .sl 1 (dd.map iC)] (.sl 2 ((vlsL t fs dd).map shC)) := by
 obtain ⟨hg, _, _⟩ := ckG_ok h.gr
 have hci := cells_in hg
 have hcn : ((clN t : Nat) : Int) = t.g.co * t.g.ro := by unfold clN; omega
 refine pc_of_awpN Tryz.func114 rfl Tryz.ntmps114 (rs := [.tmp 6]) Tryz.results114 (by simp) fun w0 hmine hrnd hpn => ?_
 refine awp_seq ?_
 refine awp_region 1 mixed (by kernel_rfl) ?_
 refine rg_q (q_assign (x := .d (.sl _ _)) rfl) ?_
 refine rg_nil (aops_nil ?_)
 change Awp _ _ _ _ _
 refine awp_seq ?_
 refine awp_region 1 mixed (by kernel_rfl) ?_
 refine rg_q (q_assign_nil) ?_
 refine rg_nil (aops_nil ?_)
 change Awp _ _ _ _ _
 refine Awp.le (le_own (k := 7) (e := 160) (sz := 2) rfl rfl) ?_
 refine awp_seq ?_
 refine awp_seq ?_
 refine awp_region 6 mixed (by kernel_rfl) ?_
 refine rg_q (q_move (x := .d (.pt _ _)) rfl) (rg_q (q_nilCheck rfl) (rg_q (q_fieldAddr fld202_0 rfl) ?_))
 refine rg_q (q_loadA (ds := [_, _, _, _, _]) sz150 rfl rfl rfl) ?_
 refine rg_q (q_call en91 (.cons rfl .nil) rfl (fcells_p t.g hg)) ?_
 refine rg_q (q_move (x := .d (.v _)) rfl) ?_
 refine rg_nil (aops_nil ?_)
 change Awp _ _ _ _ _
 refine awp_block ?_
 refine awp_loopH [7, 8, 9, 10, 16, 17, 18, 19, 20, 21, 22, 23, 24, 25, 26, 27, 28, 29, 30, 31] [7] (α := Nat) (fun k => [(16, T.i (k : Int)), (7, .rs 7)]) (fun k => [(7, .row 160 2 ((vlsF t fs dd k).map shC))]) (fun k => k ≤ clN t) (fun k => clN t - k) 0 (Nat.zero_le _) ?_ ?_
 · exact le_head (ms := [7]) (by repeat (exact Out.refl _)) ⟨(by rfl), (by rfl), trivial⟩ ⟨(by rfl), trivial⟩ rfl rfl rfl rfl
 ·
  intro k hk
  have hvl := vlsF_len t fs dd k
  refine awp_seq ?_
  refine awp_region 1 mixed (by kernel_rfl) ?_
  refine rg_q (q_lss rfl rfl) ?_
  refine rg_nil (aops_nil ?_)
  change Awp _ _ _ _ _
  refine awp_seq ?_
  refine awp_cond rfl (fun hc3 => ?_) (fun hc3 => ?_)
  ·
   (try simp only [nb, ne_eq] at hc3)
   have hlt : k < clN t := by omega
   have hck : clE t.g (k : Int) = 0 := clE_of (by omega) (by omega)
   have hsk : (vlsF t fs dd (k + 1)).map shC = (vlsF t fs dd k).map shC ++ [shC (vlA t (k : Int) dd (pqL fs t.ne.toNat)).1] := by rw [vlsF_succ, List.map_append]; rfl
   refine awp_skip ?_
   change Awp _ _ _ _ _
   refine awp_seq ?_
   refine awp_block ?_
   refine awp_seq ?_
   refine awp_region 2 mixed (by kernel_rfl) ?_
   refine rg_q (q_move (x := .d (.v _)) rfl) (rg_q (q_assign (x := .d (.v _)) rfl) ?_)
   refine rg_nil (aops_nil ?_)
   change Awp _ _ _ _ _
   refine awp_seq ?_
   refine awp_region 8 mixed (by kernel_rfl) ?_
   refine rg_q (q_move (x := .d (.pt _ _)) rfl) (rg_q (q_move (x := .d (.v _)) rfl) (rg_q (q_move (x := .d (.sl _ _)) rfl) (rg_q (q_move (x := .d (.sl _ _)) rfl) ?_)))
   refine rg_q (q_call en95 (.cons rfl (.cons rfl (.cons rfl (.cons rfl .nil)))) rfl (value_p t k fs dd h hck hf hfl)) ?_
   refine rg_q (q_move (x := .d (.tup _)) rfl) (rg_q (q_extract rfl rfl) (rg_q (q_extract rfl rfl) ?_))
   refine rg_nil ?_
   refine aops_allocD zr160 rfl sz160 rfl rfl (by exact .inr ⟨_, rfl⟩) rfl rfl ?_
   refine aops_q rfl (q_assign (x := .d (.v _)) rfl) ?_
   refine aops_nil ?_
   change Awp _ _ _ _ _
   refine awp_region 3 mixed (by kernel_rfl) ?_
   refine rg_q (q_move (x := .rs _) rfl) ?_
   refine rg_q (q_loadA (ds := [_, _]) sz160 rfl rfl rfl) ?_
   refine rg_q (q_buildSlice sl189 zr160 rfl rfl (by decide) (.cons rfl (by exact .inr ⟨_, rfl⟩) .nil) ⟨rfl, rfl, trivial⟩ rfl (by decide) rfl) ?_
   refine rg_nil ?_
   refine aops_append sl189 zr160 by160 rfl (by decide) rfl rfl rfl rfl (by (try simp only [List.length_map, List.length_append, List.length_cons, List.length_nil]); omega) (by (try simp only [List.length_map, List.length_append, List.length_cons, List.length_nil]); omega) rfl rfl ?_
   refine aops_q rfl (q_assign (x := .rs _) rfl) ?_
   refine aops_nil ?_
   change Awp _ _ _ _ _
   refine awp_region 2 mixed (by kernel_rfl) ?_
   refine rg_q (q_add rfl rfl (In64.mk (by omega) (by omega))) ?_
   refine rg_q (q_move (x := .d (.v _)) rfl) ?_
   refine rg_nil (aops_nil ?_)
   refine ⟨k + 1, by omega, by omega, ?_⟩
   exact le_head (ms := [7]) (by repeat (first | exact Out.head rfl rfl | (refine Out.put ?_ rfl) | (refine Out.site ?_ rfl) | (refine Out.killS ?_ rfl))) ⟨(by rfl), (by rfl), trivial⟩ ⟨(by ((show Site.row _ _ _ = Site.row _ _ _; (rw [hsk]; rfl)))), trivial⟩ rfl rfl rfl rfl
  ·
   (try simp only [nb, ne_eq] at hc3)
   have hkn : k = clN t := by omega
   subst hkn
   refine awp_exit ?_
   change Awp _ _ _ _ _
   refine awp_seq ?_
   refine awp_region 2 mixed (by kernel_rfl) ?_
   refine rg_q (q_move (x := .rs _) rfl) (rg_q (q_assign (x := .rs _) rfl) ?_)
   refine rg_nil (aops_nil ?_)
   change Awp _ _ _ _ _
   refine awp_ret ?_
   refine ⟨_, (.cons (.tmp (by exact .rs rfl)) .nil), ?_⟩
   rfl
set_option maxRecDepth 100000 in
theorem numbersOf5_p (l : List (Int × Int)) (hl : l.length ≤ 10000) : PC Tryz.prog 113 [.sl 2 (l.map shC)] (.sl 1 ((l.map czP).map cvC)) := by
 refine pc_of_awpN Tryz.func113 rfl Tryz.ntmps113 (rs := [.tmp 2]) Tryz.results113 (by simp) fun w0 hmine hrnd hpn => ?_
 refine awp_seq ?_
 refine awp_region 1 mixed (by kernel_rfl) ?_
 refine rg_q (q_assign (x := .d (.sl _ _)) rfl) ?_
 refine rg_nil (aops_nil ?_)
 change Awp _ _ _ _ _
 refine awp_seq ?_
 refine awp_region 1 mixed (by kernel_rfl) ?_
 refine rg_q (q_assign_nil) ?_
 refine rg_nil (aops_nil ?_)
 change Awp _ _ _ _ _
 refine Awp.le (le_own (k := 3) (e := 46) (sz := 1) rfl rfl) ?_
 refine awp_seq ?_
 refine awp_seq ?_
 refine awp_region 3 mixed (by kernel_rfl) ?_
 refine rg_q (q_move (x := .d (.sl _ _)) rfl) ?_
 refine rg_q (q_len isl189 rfl (by exact len_map _ _)) ?_
 refine rg_q (q_move (x := .d (.v _)) rfl) ?_
 refine rg_nil (aops_nil ?_)
 change Awp _ _ _ _ _
 refine awp_len (t := 6) rfl (fun hl6 => ?_)
 (try simp only [List.length_map] at hl6)
 refine awp_block ?_
 refine awp_loopH [3, 5, 8, 9, 10, 11, 12, 13, 14, 15, 16, 17] [3] (α := Nat) (fun k => [(8, T.i (k : Int)), (3, .rs 3)]) (fun k => [(3, .row 46 1 (((l.take k).map czP).map cvC))]) (fun k => k ≤ l.length) (fun k => l.length - k) 0 (Nat.zero_le _) ?_ ?_
 · exact le_head (ms := [3]) (by repeat (exact Out.refl _)) ⟨(by rfl), (by rfl), trivial⟩ ⟨(by rfl), trivial⟩ rfl rfl rfl rfl
 ·
  intro k hk
  have htl : (l.take k).length ≤ k := by rw [List.length_take]; omega
  refine awp_seq ?_
  refine awp_region 1 mixed (by kernel_rfl) ?_
  refine rg_q (q_lss rfl rfl) ?_
  refine rg_nil (aops_nil ?_)
  change Awp _ _ _ _ _
  refine awp_seq ?_
  refine awp_cond rfl (fun hc3 => ?_) (fun hc3 => ?_)
  ·
   (try simp only [nb, ne_eq] at hc3)
   have hlt : k < l.length := by omega
   obtain ⟨x, hx⟩ : ∃ x, l[k]? = some x := ⟨_, List.getElem?_eq_getElem hlt⟩
   have hsk : ((l.take (k + 1)).map czP).map cvC = ((l.take k).map czP).map cvC ++ [cvC (czP x)] := by rw [takeSnoc hx, List.map_append, List.map_append]; rfl
   refine awp_skip ?_
   change Awp _ _ _ _ _
   refine awp_seq ?_
   refine awp_block ?_
   refine awp_seq ?_
   refine awp_region 2 mixed (by kernel_rfl) ?_
   refine rg_q (q_indexAddr sl189 rfl rfl (by omega) (map_at (by omega) hx)) ?_
   refine rg_q (q_loadA (ds := [_, _]) sz160 rfl rfl rfl) ?_
   refine rg_nil ?_
   refine aops_allocD zr160 rfl sz160 rfl rfl (by exact .inr ⟨_, rfl⟩) rfl rfl ?_
   refine aops_nil ?_
   change Awp _ _ _ _ _
   refine awp_region 4 mixed (by kernel_rfl) ?_
   refine rg_q (q_move (x := .rs _) rfl) ?_
   refine rg_q (q_loadA (ds := [_, _]) sz160 rfl rfl rfl) ?_
   refine rg_q (q_call en97 (.cons rfl .nil) rfl (fnumber_p x.1 x.2)) ?_
   refine rg_q (q_buildSlice sl72 zr46 rfl rfl (by decide) (.cons rfl (by exact .inl rfl) .nil) ⟨rfl, rfl, trivial⟩ rfl (by decide) rfl) ?_
   refine rg_nil ?_
   refine aops_append sl72 zr46 by46 rfl (by decide) rfl rfl rfl rfl (by (try simp only [List.length_map, List.length_append, List.length_cons, List.length_nil]); omega) (by (try simp only [List.length_map, List.length_append, List.length_cons, List.length_nil]); omega) rfl rfl ?_
   refine aops_q rfl (q_assign (x := .rs _) rfl) ?_
   refine aops_nil ?_
   change Awp _ _ _ _ _
   refine awp_region 2 mixed (by kernel_rfl) ?_
   refine rg_q (q_add rfl rfl (In64.mk (by omega) (by omega))) ?_
   refine rg_q (q_move (x := .d (.v _)) rfl) ?_
   refine rg_nil (aops_nil ?_)
   refine ⟨k + 1, by omega, by omega, ?_⟩
   exact le_head (ms := [3]) (by repeat (first | exact Out.head rfl rfl | (refine Out.put ?_ rfl) | (refine Out.site ?_ rfl) | (refine Out.killS ?_ rfl))) ⟨(by rfl), (by rfl), trivial⟩ ⟨(by ((show Site.row _ _ _ = Site.row _ _ _; (rw [hsk]; rfl)))), trivial⟩ rfl rfl rfl rfl
  ·
   (try simp only [nb, ne_eq] at hc3)
   have hkn : k = l.length := by omega
   subst hkn
   rw [List.take_length]
   refine awp_exit ?_
   change Awp _ _ _ _ _
   refine awp_seq ?_
   refine awp_region 2 mixed (by kernel_rfl) ?_
   refine rg_q (q_move (x := .rs _) rfl) (rg_q (q_assign (x := .rs _) rfl) ?_)
   refine rg_nil (aops_nil ?_)
   change Awp _ _ _ _ _
   refine awp_ret ?_
   refine ⟨_, (.cons (.tmp (by exact .rs rfl)) .nil), ?_⟩
   rfl

theorem cl_le {t : Tsk} (h : TskOk t) : clN t ≤ 1600 := by
  obtain ⟨hg, _, _⟩ := ckG_ok h.gr
  have := cells_in hg
  unfold clN; omega
def imL (t : Tsk) (fs dd : List Int) : List (Nat × Nat) := (vlsL t fs dd).map czP
def evI (t : Tsk) : List Int := allL t.ne.toNat
set_option maxRecDepth 100000 in
theorem imageK_p (t : Tsk) (h : TskOk t) : PC Tryz.prog 37 [.agg (tskC t)] (.tup [.sl 1 ((imL t (evI t) []).map cvC), .v (.int .i64 (0))]) := by
 obtain ⟨ha1, ha2⟩ := allL_ok h
 have hn1 := h.n1
 have hn2 := h.n2
 have hcl := cl_le h
 have hvl : (vlsL t (allL t.ne.toNat) []).length ≤ 10000 := by unfold vlsL; rw [vlsF_len]; omega
 refine pc_of_awpN Tryz.func37 rfl Tryz.ntmps37 (rs := [.tmp 2, .tmp 3]) Tryz.results37 (by simp) fun w0 hmine hrnd hpn => ?_
 refine awp_seq ?_
 refine awp_region 3 mixed (by kernel_rfl) ?_
 refine rg_q (q_box rfl (by exact .inr ⟨_, rfl⟩)) ?_
 refine rg_q (q_assign (x := .d (.sl _ _)) rfl) (rg_q (q_assign (x := .d (.v _)) rfl) ?_)
 refine rg_nil (aops_nil ?_)
 change Awp _ _ _ _ _
 refine awp_seq ?_
 refine awp_region 7 mixed (by kernel_rfl) ?_
 refine rg_q (q_loadA sz37 rfl rfl rfl) ?_
 refine rg_q (q_call en112 (.cons rfl .nil) rfl (open_p t h)) ?_
 refine rg_q (q_move (x := .d (.tup _)) rfl) (rg_q (q_extract rfl rfl) (rg_q (q_extract rfl rfl) (rg_q (q_assign (x := .d (.pt _ _)) rfl) (rg_q (q_assign (x := .d (.v _)) rfl) ?_))))
 refine rg_nil (aops_nil ?_)
 change Awp _ _ _ _ _
 refine awp_seq ?_
 refine awp_seq ?_
 refine awp_region 2 mixed (by kernel_rfl) ?_
 refine rg_q (q_move (x := .d (.v _)) rfl) (rg_q (q_neq rfl rfl) ?_)
 refine rg_nil (aops_nil ?_)
 change Awp _ _ _ _ _
 refine awp_cond rfl (fun hc2 => ?_) (fun hc2 => ?_)
 ·
  simp at hc2
 ·
  (try simp only [nb, ne_eq] at hc2)
  refine awp_skip ?_
  change Awp _ _ _ _ _
  refine awp_seq ?_
  refine awp_region 7 mixed (by kernel_rfl) ?_
  refine rg_q (q_move (x := .d (.pt _ _)) rfl) (rg_q (q_move (x := .d (.pt _ _)) rfl) ?_)
  refine rg_q (q_call en96 (.cons rfl .nil) rfl (all_p t hn1 hn2)) ?_
  refine rg_q (q_call en114 (.cons rfl (.cons rfl (.cons rfl .nil))) rfl (values_p t (allL t.ne.toNat) [] h ha1 (by omega))) ?_
  refine rg_q (q_call en113 (.cons rfl .nil) rfl (numbersOf5_p _ hvl)) ?_
  refine rg_q (q_assign (x := .d (.sl _ _)) rfl) (rg_q (q_assign (x := .d (.v _)) rfl) ?_)
  refine rg_nil (aops_nil ?_)
  change Awp _ _ _ _ _
  refine awp_ret ?_
  refine ⟨_, (.cons (.tmp (by exact .d _)) (.cons (.tmp (by exact .d _)) .nil)), ?_⟩
  rfl
set_option maxRecDepth 100000 in
theorem imageW_p (t : Tsk) (hw : (ckT t).2 ≠ 0) : PC Tryz.prog 37 [.agg (tskC t)] (.tup [.sl 1 (([] : List (Nat × Nat)).map cvC), .v (.int .i64 ((ckT t).2))]) := by
 refine pc_of_awpN Tryz.func37 rfl Tryz.ntmps37 (rs := [.tmp 2, .tmp 3]) Tryz.results37 (by simp) fun w0 hmine hrnd hpn => ?_
 refine awp_seq ?_
 refine awp_region 3 mixed (by kernel_rfl) ?_
 refine rg_q (q_box rfl (by exact .inr ⟨_, rfl⟩)) ?_
 refine rg_q (q_assign (x := .d (.sl _ _)) rfl) (rg_q (q_assign (x := .d (.v _)) rfl) ?_)
 refine rg_nil (aops_nil ?_)
 change Awp _ _ _ _ _
 refine awp_seq ?_
 refine awp_region 7 mixed (by kernel_rfl) ?_
 refine rg_q (q_loadA sz37 rfl rfl rfl) ?_
 refine rg_q (q_call en112 (.cons rfl .nil) rfl (open5_p t hw)) ?_
 refine rg_q (q_move (x := .d (.tup _)) rfl) (rg_q (q_extract rfl rfl) (rg_q (q_extract rfl rfl) (rg_q (q_assign (x := .d (.v _)) rfl) (rg_q (q_assign (x := .d (.v _)) rfl) ?_))))
 refine rg_nil (aops_nil ?_)
 change Awp _ _ _ _ _
 refine awp_seq ?_
 refine awp_seq ?_
 refine awp_region 2 mixed (by kernel_rfl) ?_
 refine rg_q (q_move (x := .d (.v _)) rfl) (rg_q (q_neq rfl rfl) ?_)
 refine rg_nil (aops_nil ?_)
 change Awp _ _ _ _ _
 refine awp_cond rfl (fun hc2 => ?_) (fun hc2 => ?_)
 ·
  (try simp only [nb, ne_eq] at hc2)
  refine awp_seq ?_
  refine awp_region 3 mixed (by kernel_rfl) ?_
  refine rg_q (q_move (x := .d (.v _)) rfl) (rg_q (q_assign (x := .d (.sl _ _)) rfl) (rg_q (q_assign (x := .d (.v _)) rfl) ?_))
  refine rg_nil (aops_nil ?_)
  change Awp _ _ _ _ _
  refine awp_ret ?_
  refine ⟨_, (.cons (.tmp (by exact .d _)) (.cons (.tmp (by exact .d _)) .nil)), ?_⟩
  rfl
 ·
  (try simp only [nb, ne_eq] at hc2)
  exact absurd hc2 hw

def imgR (t : Tsk) : List (Nat × Nat) × Int := if (ckT t).2 ≠ 0 then ([], (ckT t).2) else (imL t (evI t) [], 0)
theorem image5_p (t : Tsk) : PC Tryz.prog 37 [.agg (tskC t)] (.tup [.sl 1 ((imgR t).1.map cvC), .v (.int .i64 (imgR t).2)]) := by
  by_cases hw : (ckT t).2 ≠ 0
  · have hv : imgR t = ([], (ckT t).2) := by unfold imgR; rw [if_pos hw]
    rw [hv]
    exact imageW_p t hw
  · have hv : imgR t = (imL t (evI t) [], 0) := by unfold imgR; rw [if_neg hw]
    rw [hv]
    exact imageK_p t (ckT_ok (Decidable.not_not.1 hw))
def rimF (t : Tsk) (l : List (Int × Int)) (k : Nat) : List (Nat × Nat) := (List.range k).map fun c : Nat => czP (vlA t (c : Int) [] l).1
theorem rimF_succ (t : Tsk) (l : List (Int × Int)) (k : Nat) : rimF t l (k + 1) = rimF t l k ++ [czP (vlA t (k : Int) [] l).1] := by unfold rimF; rw [List.range_succ, List.map_append]; rfl
theorem rimF_len (t : Tsk) (l : List (Int × Int)) (k : Nat) : (rimF t l k).length = k := by unfold rimF; rw [List.length_map, List.length_range]
theorem rim_ev (t : Tsk) : rimF t (evL t) (clN t) = imL t (evI t) [] := by unfold rimF imL vlsL vlsF; rw [List.map_map]; rfl
set_option maxRecDepth 100000 in
theorem rimageOf_p (t : Tsk) (l : List (Int × Int)) (h : TskOk t) (hl : PrsOk t l) : PC Tryz.prog 115 [.agg (tskC t), .sl 2 (l.map shC)] (.sl 1 ((rimF t l (clN t)).map cvC)) := by
 obtain ⟨hg, _, _⟩ := ckG_ok h.gr
 have hci := cells_in hg
 have hcn : ((clN t : Nat) : Int) = t.g.co * t.g.ro := by unfold clN; omega
 refine pc_of_awpN Tryz.func115 rfl Tryz.ntmps115 (rs := [.tmp 4]) Tryz.results115 (by simp) fun w0 hmine hrnd hpn => ?_
 refine awp_seq ?_
 refine awp_region 2 mixed (by kernel_rfl) ?_
 refine rg_q (q_box rfl (by exact .inr ⟨_, rfl⟩)) ?_
 refine rg_q (q_assign (x := .d (.sl _ _)) rfl) ?_
 refine rg_nil (aops_nil ?_)
 change Awp _ _ _ _ _
 refine awp_seq ?_
 refine awp_region 1 mixed (by kernel_rfl) ?_
 refine rg_q (q_assign_nil) ?_
 refine rg_nil (aops_nil ?_)
 change Awp _ _ _ _ _
 refine Awp.le (le_own (k := 5) (e := 46) (sz := 1) rfl rfl) ?_
 refine awp_seq ?_
 refine awp_seq ?_
 refine awp_region 1 mixed (by kernel_rfl) ?_
 refine rg_q (q_assign (x := .d (.v _)) rfl) ?_
 refine rg_nil (aops_nil ?_)
 change Awp _ _ _ _ _
 refine awp_block ?_
 refine awp_loopH [5, 6, 7, 8, 9, 10, 11, 12, 13, 14, 15, 16, 17, 18, 19, 20, 21, 22, 23, 24, 25, 26, 27, 28, 29, 30] [5] (α := Nat) (fun k => [(6, T.i (k : Int)), (5, .rs 5)]) (fun k => [(5, .row 46 1 ((rimF t l k).map cvC))]) (fun k => k ≤ clN t) (fun k => clN t - k) 0 (Nat.zero_le _) ?_ ?_
 · exact le_head (ms := [5]) (by repeat (exact Out.refl _)) ⟨(by rfl), (by rfl), trivial⟩ ⟨(by rfl), trivial⟩ rfl rfl rfl rfl
 ·
  intro k hk
  have hvl := rimF_len t l k
  refine awp_seq ?_
  refine awp_seq ?_
  refine awp_region 5 mixed (by kernel_rfl) ?_
  refine rg_q (q_move (x := .d (.v _)) rfl) (rg_q (q_fieldAddr fld37_2 rfl) ?_)
  refine rg_q (q_loadA (ds := [_, _, _, _, _]) sz35 rfl rfl rfl) ?_
  refine rg_q (q_call en56 (.cons rfl .nil) rfl (rcells_p t.g hg)) ?_
  refine rg_q (q_lss rfl rfl) ?_
  refine rg_nil (aops_nil ?_)
  change Awp _ _ _ _ _
  refine awp_cond rfl (fun hc3 => ?_) (fun hc3 => ?_)
  ·
   (try simp only [nb, ne_eq] at hc3)
   have hlt : k < clN t := by omega
   have hck : clE t.g (k : Int) = 0 := clE_of (by omega) (by omega)
   have hsk : (rimF t l (k + 1)).map cvC = (rimF t l k).map cvC ++ [cvC (czP (vlA t (k : Int) [] l).1)] := by rw [rimF_succ, List.map_append]; rfl
   refine awp_skip ?_
   change Awp _ _ _ _ _
   refine awp_seq ?_
   refine awp_block ?_
   refine awp_seq ?_
   refine awp_region 11 mixed (by kernel_rfl) ?_
   refine rg_q (q_loadA sz37 rfl rfl rfl) ?_
   refine rg_q (q_move (x := .d (.v _)) rfl) (rg_q (q_move (x := .d (.sl _ _)) rfl) ?_)
   refine rg_q (q_call en99 (.cons rfl (.cons rfl (.cons rfl .nil))) rfl (rsum_p t k l h hck hl)) ?_
   refine rg_q (q_move (x := .d (.tup _)) rfl) (rg_q (q_extract rfl rfl) (rg_q (q_extract rfl rfl) (rg_q (q_extract rfl rfl) (rg_q (q_assign (x := .d (.v _)) rfl) (rg_q (q_assign (x := .d (.v _)) rfl) ?_)))))
   refine rg_q (q_assign (x := .d (.v _)) rfl) ?_
   refine rg_nil (aops_nil ?_)
   change Awp _ _ _ _ _
   refine awp_region 5 mixed (by kernel_rfl) ?_
   refine rg_q (q_move (x := .rs _) rfl) (rg_q (q_move (x := .d (.v _)) rfl) (rg_q (q_move (x := .d (.v _)) rfl) ?_))
   refine rg_q (q_call en101 (.cons rfl (.cons rfl .nil)) rfl (rnum_p _ _)) ?_
   refine rg_q (q_buildSlice sl72 zr46 rfl rfl (by decide) (.cons rfl (by exact .inl rfl) .nil) ⟨rfl, rfl, trivial⟩ rfl (by decide) rfl) ?_
   refine rg_nil ?_
   refine aops_append sl72 zr46 by46 rfl (by decide) rfl rfl rfl rfl (by (try simp only [List.length_map, List.length_append, List.length_cons, List.length_nil]); omega) (by (try simp only [List.length_map, List.length_append, List.length_cons, List.length_nil]); omega) rfl rfl ?_
   refine aops_q rfl (q_assign (x := .rs _) rfl) ?_
   refine aops_nil ?_
   change Awp _ _ _ _ _
   refine awp_region 3 mixed (by kernel_rfl) ?_
   refine rg_q (q_move (x := .d (.v _)) rfl) ?_
   refine rg_q (q_add rfl rfl (In64.mk (by omega) (by omega))) ?_
   refine rg_q (q_assign (x := .d (.v _)) rfl) ?_
   refine rg_nil (aops_nil ?_)
   refine ⟨k + 1, by omega, by omega, ?_⟩
   exact le_head (ms := [5]) (by repeat (first | exact Out.head rfl rfl | (refine Out.put ?_ rfl) | (refine Out.site ?_ rfl) | (refine Out.killS ?_ rfl))) ⟨(by rfl), (by rfl), trivial⟩ ⟨(by ((show Site.row _ _ _ = Site.row _ _ _; (rw [hsk]; rfl)))), trivial⟩ rfl rfl rfl rfl
  ·
   (try simp only [nb, ne_eq] at hc3)
   have hkn : k = clN t := by omega
   subst hkn
   refine awp_exit ?_
   change Awp _ _ _ _ _
   refine awp_seq ?_
   refine awp_region 2 mixed (by kernel_rfl) ?_
   refine rg_q (q_move (x := .rs _) rfl) (rg_q (q_assign (x := .rs _) rfl) ?_)
   refine rg_nil (aops_nil ?_)
   change Awp _ _ _ _ _
   refine awp_ret ?_
   refine ⟨_, (.cons (.tmp (by exact .rs rfl)) .nil), ?_⟩
   rfl
set_option maxRecDepth 100000 in
theorem rimage_p (t : Tsk) (h : TskOk t) : PC Tryz.prog 39 [.agg (tskC t)] (.sl 1 ((imL t (evI t) []).map cvC)) := by
 refine pc_of_awpN Tryz.func39 rfl Tryz.ntmps39 (rs := [.tmp 2]) Tryz.results39 (by simp) fun w0 hmine hrnd hpn => ?_
 refine awp_seq ?_
 refine awp_region 2 mixed (by kernel_rfl) ?_
 refine rg_q (q_box rfl (by exact .inr ⟨_, rfl⟩)) ?_
 refine rg_q (q_assign (x := .d (.sl _ _)) rfl) ?_
 refine rg_nil (aops_nil ?_)
 change Awp _ _ _ _ _
 refine awp_seq ?_
 refine awp_region 5 mixed (by kernel_rfl) ?_
 refine rg_q (q_loadA sz37 rfl rfl rfl) ?_
 refine rg_q (q_loadA sz37 rfl rfl rfl) ?_
 refine rg_q (q_call en100 (.cons rfl .nil) rfl (revery_p t h)) ?_
 refine rg_q (q_call en115 (.cons rfl (.cons rfl .nil)) rfl ((by have q := rimageOf_p t (evL t) h (ev_ok h); rw [rim_ev] at q; exact q))) ?_
 refine rg_q (q_assign (x := .d (.sl _ _)) rfl) ?_
 refine rg_nil (aops_nil ?_)
 change Awp _ _ _ _ _
 refine awp_ret ?_
 refine ⟨_, (.cons (.tmp (by exact .d _)) .nil), ?_⟩
 rfl

theorem sbB_is (x y : Nat × Nat) : sbB x.1 x.2 y.1 y.2 = decide (x = y) := by
  obtain ⟨a, b⟩ := x
  obtain ⟨c, d⟩ := y
  unfold sbB
  by_cases h1 : a = c
  · by_cases h2 : b = d
    · simp [h1, h2]
    · have : ¬ (b : Int) = d := by omega
      simp [h1, h2, this]
  · have : ¬ (a : Int) = c := by omega
    simp [h1, this]
set_option maxRecDepth 100000 in
theorem sameNums_p (l m : List (Nat × Nat)) : PC Tryz.prog 38 [.sl 1 (l.map cvC), .sl 1 (m.map cvC)] (.v (.bool (decide (l = m)))) := by
 refine pc_of_awp Tryz.func38 rfl Tryz.ntmps38 (rs := [.tmp 4]) Tryz.results38 (by simp) fun w0 => ?_
 refine awp_seq ?_
 refine awp_region 1 mixed (by kernel_rfl) ?_
 refine rg_q (q_assign (x := .d (.v _)) rfl) ?_
 refine rg_nil (aops_nil ?_)
 change Awp _ _ _ _ _
 refine awp_seq ?_
 refine awp_seq ?_
 refine awp_region 5 mixed (by kernel_rfl) ?_
 refine rg_q (q_move (x := .d (.sl _ _)) rfl) ?_
 refine rg_q (q_len isl72 rfl (by exact len_map _ _)) ?_
 refine rg_q (q_move (x := .d (.sl _ _)) rfl) ?_
 refine rg_q (q_len isl72 rfl (by exact len_map _ _)) ?_
 refine rg_q (q_neq rfl rfl) ?_
 refine rg_nil (aops_nil ?_)
 change Awp _ _ _ _ _
 refine awp_len (t := 6) rfl (fun hl6 => ?_)
 (try simp only [List.length_map] at hl6)
 refine awp_len (t := 8) rfl (fun hl8 => ?_)
 (try simp only [List.length_map] at hl8)
 refine awp_cond rfl (fun hc1 => ?_) (fun hc1 => ?_)
 ·
  (try simp only [nb, ne_eq] at hc1)
  have hz : decide (l = m) = false := decide_eq_false (fun e => by rw [e] at hc1; omega)
  refine awp_seq ?_
  refine awp_region 1 mixed (by kernel_rfl) ?_
  refine rg_q (q_assign (x := .d (.v _)) rfl) ?_
  refine rg_nil (aops_nil ?_)
  change Awp _ _ _ _ _
  refine awp_ret ?_
  refine ⟨_, (.cons (.tmp (by exact .d _)) .nil), ?_⟩
  rw [hz]; rfl
 ·
  (try simp only [nb, ne_eq] at hc1)
  have hlm : l.length = m.length := by omega
  refine awp_skip ?_
  change Awp _ _ _ _ _
  refine awp_seq ?_
  refine awp_seq ?_
  refine awp_region 1 mixed (by kernel_rfl) ?_
  refine rg_q (q_assign (x := .d (.v _)) rfl) ?_
  refine rg_nil (aops_nil ?_)
  change Awp _ _ _ _ _
  refine awp_block ?_
  refine awp_loopH [4, 5, 11, 12, 13, 14, 15, 16, 17, 18, 19, 20, 21, 22, 23, 24, 25, 26] [] (α := Nat) (fun k => [(5, T.i (k : Int))]) (fun k => []) (fun k => k ≤ l.length ∧ l.take k = m.take k) (fun k => l.length - k) 0 ⟨Nat.zero_le _, rfl⟩ ?_ ?_
  · exact le_head (ms := []) (by repeat (exact Out.refl _)) ⟨(by rfl), trivial⟩ trivial rfl rfl rfl rfl
  ·
   intro k ⟨hk, hf⟩
   refine awp_seq ?_
   refine awp_seq ?_
   refine awp_region 4 mixed (by kernel_rfl) ?_
   refine rg_q (q_move (x := .d (.v _)) rfl) (rg_q (q_move (x := .d (.sl _ _)) rfl) ?_)
   refine rg_q (q_len isl72 rfl (by exact len_map _ _)) ?_
   refine rg_q (q_lss rfl rfl) ?_
   refine rg_nil (aops_nil ?_)
   change Awp _ _ _ _ _
   refine awp_len (t := 12) rfl (fun hl12 => ?_)
   (try simp only [List.length_map] at hl12)
   refine awp_cond rfl (fun hc4 => ?_) (fun hc4 => ?_)
   ·
    (try simp only [nb, ne_eq] at hc4)
    have hlt : k < l.length := by omega
    obtain ⟨x, hx⟩ : ∃ x, l[k]? = some x := ⟨_, List.getElem?_eq_getElem hlt⟩
    obtain ⟨y, hy⟩ : ∃ y, m[k]? = some y := ⟨_, List.getElem?_eq_getElem (by omega)⟩
    have hxy := sbB_is x y
    refine awp_skip ?_
    change Awp _ _ _ _ _
    refine awp_seq ?_
    refine awp_block ?_
    refine awp_seq ?_
    refine awp_region 10 mixed (by kernel_rfl) ?_
    refine rg_q (q_move (x := .d (.sl _ _)) rfl) (rg_q (q_move (x := .d (.v _)) rfl) ?_)
    refine rg_q (q_indexAddr sl72 rfl rfl (by omega) (map_at (k := k) (by omega) hx)) ?_
    refine rg_q (q_load sz46 rfl rfl) (rg_q (q_move (x := .d (.sl _ _)) rfl) (rg_q (q_move (x := .d (.v _)) rfl) ?_))
    refine rg_q (q_indexAddr sl72 rfl rfl (by omega) (map_at (k := k) (by omega) hy)) ?_
    refine rg_q (q_load sz46 rfl rfl) ?_
    refine rg_q (q_call en26 (.cons rfl (.cons rfl .nil)) rfl (sameBits_p x.1 x.2 y.1 y.2)) ?_
    refine rg_q (q_not rfl) ?_
    refine rg_nil (aops_nil ?_)
    change Awp _ _ _ _ _
    refine awp_cond rfl (fun hc6 => ?_) (fun hc6 => ?_)
    ·
     (try simp only [nb, ne_eq] at hc6)
     have hz : decide (l = m) = false := decide_eq_false (fun e => by rw [e, hy] at hx; have := Option.some.inj hx; subst this; rw [hc6] at hxy; simp at hxy)
     refine awp_seq ?_
     refine awp_region 1 mixed (by kernel_rfl) ?_
     refine rg_q (q_assign (x := .d (.v _)) rfl) ?_
     refine rg_nil (aops_nil ?_)
     change Awp _ _ _ _ _
     refine awp_ret ?_
     refine ⟨_, (.cons (.tmp (by exact .d _)) .nil), ?_⟩
     rw [hz]; rfl
    ·
     (try simp only [nb, ne_eq] at hc6)
     rw [hc6] at hxy
     have hxe : x = y := of_decide_eq_true hxy.symm
     have hnx : l.take (k + 1) = m.take (k + 1) := by rw [takeSnoc hx, takeSnoc hy, hf, hxe]
     refine awp_skip ?_
     change Awp _ _ _ _ _
     refine awp_region 3 mixed (by kernel_rfl) ?_
     refine rg_q (q_move (x := .d (.v _)) rfl) ?_
     refine rg_q (q_add rfl rfl (In64.mk (by omega) (by omega))) ?_
     refine rg_q (q_assign (x := .d (.v _)) rfl) ?_
     refine rg_nil (aops_nil ?_)
     refine ⟨k + 1, ⟨by omega, hnx⟩, by omega, ?_⟩
     exact le_head (ms := []) (by repeat (first | exact Out.head rfl rfl | (refine Out.put ?_ rfl))) ⟨(by rfl), trivial⟩ trivial rfl rfl rfl rfl
   ·
    (try simp only [nb, ne_eq] at hc4)
    have hz : decide (l = m) = true := decide_eq_true (by rw [← List.take_of_length_le (l := l) (i := k) (by omega), hf, List.take_of_length_le (by omega)])
    refine awp_exit ?_
    change Awp _ _ _ _ _
    refine awp_seq ?_
    refine awp_region 1 mixed (by kernel_rfl) ?_
    refine rg_q (q_assign (x := .d (.v _)) rfl) ?_
    refine rg_nil (aops_nil ?_)
    change Awp _ _ _ _ _
    refine awp_ret ?_
    refine ⟨_, (.cons (.tmp (by exact .d _)) .nil), ?_⟩
    rw [hz]; rfl
set_option maxRecDepth 100000 in
theorem focusImages_p (t : Tsk) : PC Tryz.prog 7 [.agg (tskC t)] (.v (.bool (true))) := by
 refine pc_of_awpN Tryz.func7 rfl Tryz.ntmps7 (rs := [.tmp 2]) Tryz.results7 (by simp) fun w0 hmine hrnd hpn => ?_
 refine awp_seq ?_
 refine awp_region 2 mixed (by kernel_rfl) ?_
 refine rg_q (q_box rfl (by exact .inr ⟨_, rfl⟩)) ?_
 refine rg_q (q_assign (x := .d (.v _)) rfl) ?_
 refine rg_nil (aops_nil ?_)
 change Awp _ _ _ _ _
 refine awp_seq ?_
 refine awp_seq ?_
 refine awp_region 2 mixed (by kernel_rfl) ?_
 refine rg_q (q_call en18 .nil rfl (awake5_p)) ?_
 refine rg_q (q_not rfl) ?_
 refine rg_nil (aops_nil ?_)
 change Awp _ _ _ _ _
 refine awp_cond rfl (fun hc1 => ?_) (fun hc1 => ?_)
 ·
  simp at hc1
 ·
  (try simp only [nb, ne_eq] at hc1)
  refine awp_skip ?_
  change Awp _ _ _ _ _
  refine awp_seq ?_
  refine awp_seq ?_
  refine awp_region 3 mixed (by kernel_rfl) ?_
  refine rg_q (q_loadA sz37 rfl rfl rfl) ?_
  refine rg_q (q_call en19 (.cons rfl .nil) rfl (light_p _)) ?_
  refine rg_q (q_not rfl) ?_
  refine rg_nil (aops_nil ?_)
  change Awp _ _ _ _ _
  refine awp_cond rfl (fun hc3 => ?_) (fun hc3 => ?_)
  ·
   (try simp only [nb, ne_eq] at hc3)
   refine awp_seq ?_
   refine awp_region 1 mixed (by kernel_rfl) ?_
   refine rg_q (q_assign (x := .d (.v _)) rfl) ?_
   refine rg_nil (aops_nil ?_)
   change Awp _ _ _ _ _
   refine awp_ret ?_
   refine ⟨_, (.cons (.tmp (by exact .d _)) .nil), ?_⟩
   rfl
  ·
   (try simp only [nb, ne_eq] at hc3)
   obtain ⟨hl1, hl2⟩ := lit_le hc3
   refine awp_skip ?_
   change Awp _ _ _ _ _
   refine awp_seq ?_
   refine awp_region 8 mixed (by kernel_rfl) ?_
   refine rg_q (q_loadA sz37 rfl rfl rfl) ?_
   refine rg_q (q_call en21 (.cons rfl .nil) rfl (rcopyT_p _ (by omega) (by omega))) ?_
   refine rg_q (q_call en37 (.cons rfl .nil) rfl (image5_p _)) ?_
   refine rg_q (q_move (x := .d (.tup _)) rfl) (rg_q (q_extract rfl rfl) (rg_q (q_extract rfl rfl) (rg_q (q_assign (x := .d (.sl _ _)) rfl) (rg_q (q_assign (x := .d (.v _)) rfl) ?_))))
   refine rg_nil (aops_nil ?_)
   change Awp _ _ _ _ _
   refine awp_seq ?_
   refine awp_seq ?_
   refine awp_region 3 mixed (by kernel_rfl) ?_
   refine rg_q (q_loadA sz37 rfl rfl rfl) ?_
   refine rg_q (q_call en24 (.cons rfl .nil) rfl (rtaskErr_p _)) ?_
   refine rg_q (q_assign (x := .d (.v _)) rfl) ?_
   refine rg_nil (aops_nil ?_)
   change Awp _ _ _ _ _
   refine awp_seq ?_
   refine awp_region 2 mixed (by kernel_rfl) ?_
   refine rg_q (q_move (x := .d (.v _)) rfl) (rg_q (q_neq rfl rfl) ?_)
   refine rg_nil (aops_nil ?_)
   change Awp _ _ _ _ _
   refine awp_cond rfl (fun hc7 => ?_) (fun hc7 => ?_)
   ·
    (try simp only [nb, ne_eq] at hc7)
    have hz : imgR t = ([], (ckT t).2) := by unfold imgR; rw [if_pos hc7]
    refine awp_seq ?_
    refine awp_region 9 mixed (by kernel_rfl) ?_
    refine rg_q (q_move (x := .d (.v _)) rfl) (rg_q (q_move (x := .d (.v _)) rfl) (rg_q (q_eql rfl rfl) (rg_q (q_move (x := .d (.v _)) rfl) ?_)))
    refine rg_g rfl rfl (fun hG => (q_move (x := .d (.sl _ _)) rfl)) ?_
    refine rg_g rfl rfl (fun hG => (q_len isl72 rfl (by exact len_map _ _))) ?_
    refine rg_g rfl rfl (fun hG => (q_eql rfl rfl)) ?_
    refine rg_pick rfl rfl rfl rfl rfl rfl ?_
    refine rg_q (q_assign (x := .d (.v _)) rfl) ?_
    refine rg_nil (aops_nil ?_)
    change Awp _ _ _ _ _
    refine awp_ret ?_
    refine ⟨_, (.cons (.tmp (by exact .d _)) .nil), ?_⟩
    rw [hz]; simp [retD]
   ·
    (try simp only [nb, ne_eq] at hc7)
    have hok : TskOk t := ckT_ok hc7
    have hz : imgR t = (imL t (evI t) [], 0) := by unfold imgR; rw [if_neg (fun q => q hc7)]
    refine awp_skip ?_
    change Awp _ _ _ _ _
    refine awp_seq ?_
    refine awp_region 9 mixed (by kernel_rfl) ?_
    refine rg_q (q_move (x := .d (.v _)) rfl) (rg_q (q_eql rfl rfl) (rg_q (q_move (x := .d (.v _)) rfl) ?_))
    refine rg_g rfl rfl (fun hG => (q_move (x := .d (.sl _ _)) rfl)) ?_
    refine rg_g rfl rfl (fun hG => (q_loadA sz37 rfl rfl rfl)) ?_
    refine rg_g rfl rfl (fun hG => (q_call en39 (.cons rfl .nil) rfl (rimage_p _ (by assumption)))) ?_
    refine rg_g rfl rfl (fun hG => (q_call en38 (.cons rfl (.cons rfl .nil)) rfl (sameNums_p _ _))) ?_
    refine rg_pick rfl rfl rfl rfl rfl rfl ?_
    refine rg_q (q_assign (x := .d (.v _)) rfl) ?_
    refine rg_nil (aops_nil ?_)
    change Awp _ _ _ _ _
    refine awp_ret ?_
    refine ⟨_, (.cons (.tmp (by exact .d _)) .nil), ?_⟩
    rw [hz]; simp [retD]
end Go.Proofs.YtphlaicnmmglhaaGreat.Am.M
