/- Contracts over the abstract machine: small functions of references; the examples. Conditions: none. -/
import Derived.Test.YtgeieocphgnipaaGreatDoorG5
set_option linter.unusedVariables false
set_option linter.unusedSimpArgs false
-- mini
namespace Go.Proofs.YtgeieocphgnipaaGreatDoor.Am.M
open Go
set_option maxRecDepth 100000 in
theorem Within_p (n lo hi : Int) : PC Tryz.prog 34 [.v (.int .i64 (n)), .v (.int .i64 (lo)), .v (.int .i64 (hi))] (.v (.bool (inR lo n hi))) := by
  refine pc_of_awp Tryz.func34 rfl Tryz.ntmps34 (rs := [.tmp 6]) Tryz.results34 (by simp) fun w0 => ?_
  refine awp_seq ?_
  refine awp_region 1 mixed (by kernel_rfl) ?_
  refine rg_q (q_assign (x := .d (.v _)) rfl) ?_
  refine rg_nil ?_
  refine aops_nil ?_
  change Awp _ _ _ _ _
  refine awp_seq ?_
  refine awp_region 9 mixed (by kernel_rfl) ?_
  refine rg_q (q_move (x := .d (.v _)) rfl) ?_
  refine rg_q (q_move (x := .d (.v _)) rfl) ?_
  refine rg_q (q_leq rfl rfl) ?_
  refine rg_q (q_move (x := .d (.v _)) rfl) ?_
  refine rg_g rfl rfl (fun hG => (q_move (x := .d (.v _)) rfl)) ?_
  refine rg_g rfl rfl (fun hG => (q_move (x := .d (.v _)) rfl)) ?_
  refine rg_g rfl rfl (fun hG => (q_leq rfl rfl)) ?_
  refine rg_pick rfl rfl rfl rfl rfl rfl ?_
  refine rg_q (q_assign (x := .d (.v _)) rfl) ?_
  refine rg_nil ?_
  refine aops_nil ?_
  change Awp _ _ _ _ _
  refine awp_ret ?_
  refine ⟨_, (.cons (.tmp (by exact .d _)) .nil), ?_⟩
  simp only [bif_and]; rfl
set_option maxRecDepth 100000 in
theorem Size_p (n : Int) (h : Sm n) : PC Tryz.prog 59 [.v (.int .i64 (n))] (.v (.int .i64 (max n (-n)))) := by
  obtain ⟨h1, h2⟩ := h
  refine pc_of_awp Tryz.func59 rfl Tryz.ntmps59 (rs := [.tmp 2]) Tryz.results59 (by simp) fun w0 => ?_
  refine awp_seq ?_
  refine awp_region 1 mixed (by kernel_rfl) ?_
  refine rg_q (q_assign (x := .d (.v _)) rfl) ?_
  refine rg_nil ?_
  refine aops_nil ?_
  change Awp _ _ _ _ _
  refine awp_seq ?_
  refine awp_region 5 mixed (by kernel_rfl) ?_
  refine rg_q (q_move (x := .d (.v _)) rfl) ?_
  refine rg_q (q_move (x := .d (.v _)) rfl) ?_
  refine rg_q (q_neg rfl (In64.mk (by omega) (by omega))) ?_
  refine rg_q (q_max rfl rfl) ?_
  refine rg_q (q_assign (x := .d (.v _)) rfl) ?_
  refine rg_nil ?_
  refine aops_nil ?_
  change Awp _ _ _ _ _
  refine awp_ret ?_
  refine ⟨_, (.cons (.tmp (by exact .d _)) .nil), ?_⟩
  rfl
set_option maxRecDepth 100000 in
theorem same_p (x y : Dly) : PC Tryz.prog 24 [.agg (dlyC x), .agg (dlyC y)] (.v (.bool (decide (x.ck = y.ck) && decide (x.tk = y.tk)))) := by
  refine pc_of_awp Tryz.func24 rfl Tryz.ntmps24 (rs := [.tmp 4]) Tryz.results24 (by simp) fun w0 => ?_
  refine awp_seq ?_
  refine awp_region 3 mixed (by kernel_rfl) ?_
  refine rg_q (q_box rfl (by exact .inr ⟨_, rfl⟩)) ?_
  refine rg_q (q_box rfl (by exact .inr ⟨_, rfl⟩)) ?_
  refine rg_q (q_assign (x := .d (.v _)) rfl) ?_
  refine rg_nil ?_
  refine aops_nil ?_
  change Awp _ _ _ _ _
  refine awp_seq ?_
  refine awp_region 13 mixed (by kernel_rfl) ?_
  refine rg_q (q_fieldAddr fld33_0 rfl) ?_
  refine rg_q (q_load sz3 rfl rfl) ?_
  refine rg_q (q_fieldAddr fld33_0 rfl) ?_
  refine rg_q (q_load sz3 rfl rfl) ?_
  refine rg_q (q_eql rfl rfl) ?_
  refine rg_q (q_move (x := .d (.v _)) rfl) ?_
  refine rg_g rfl rfl (fun hG => (q_fieldAddr fld33_1 rfl)) ?_
  refine rg_g rfl rfl (fun hG => (q_load sz31 rfl rfl)) ?_
  refine rg_g rfl rfl (fun hG => (q_fieldAddr fld33_1 rfl)) ?_
  refine rg_g rfl rfl (fun hG => (q_load sz31 rfl rfl)) ?_
  refine rg_g rfl rfl (fun hG => (q_call en73 (.cons rfl (.cons rfl .nil)) rfl (ints_p x.tk y.tk))) ?_
  refine rg_pick rfl rfl rfl rfl rfl rfl ?_
  refine rg_q (q_assign (x := .d (.v _)) rfl) ?_
  refine rg_nil ?_
  refine aops_nil ?_
  change Awp _ _ _ _ _
  refine awp_ret ?_
  refine ⟨_, (.cons (.tmp (by exact .d _)) .nil), ?_⟩
  simp only [bif_and]; rfl
set_option maxRecDepth 100000 in
theorem few_p (n : Int) : PC Tryz.prog 18 [.v (.int .i64 (n))] (.v (.bool (decide (n ≤ 18)))) := by
  refine pc_of_awp Tryz.func18 rfl Tryz.ntmps18 (rs := [.tmp 2]) Tryz.results18 (by simp) fun w0 => ?_
  refine awp_seq ?_
  refine awp_region 1 mixed (by kernel_rfl) ?_
  refine rg_q (q_assign (x := .d (.v _)) rfl) ?_
  refine rg_nil ?_
  refine aops_nil ?_
  change Awp _ _ _ _ _
  refine awp_seq ?_
  refine awp_region 3 mixed (by kernel_rfl) ?_
  refine rg_q (q_move (x := .d (.v _)) rfl) ?_
  refine rg_q (q_leq rfl rfl) ?_
  refine rg_q (q_assign (x := .d (.v _)) rfl) ?_
  refine rg_nil ?_
  refine aops_nil ?_
  change Awp _ _ _ _ _
  refine awp_ret ?_
  refine ⟨_, (.cons (.tmp (by exact .d _)) .nil), ?_⟩
  rfl

def exL : Dly := ⟨1000, [1200, 0]⟩
theorem ex_spr : sprR exA exL (0, 400) = ((0, 19), 0) := by decide +kernel
theorem ex_near : nearR 1000 5900 5000 = ((2118, 2119), 0) := by decide +kernel
def exS : ByteArray := ⟨#[49, 48, 48, 48, 32, 45, 32, 48]⟩
theorem ba_toList (s : ByteArray) : s.toList = s.data.toList := by
  have h := Lib.toList_data s
  exact h
theorem ex_pcs : pcs exS = [⟨#[49, 48, 48, 48]⟩, dsh, ⟨#[48]⟩] := by decide +kernel
theorem num_ok {s : ByteArray} {v : Int} {d : List UInt8} (h1 : Lib.atoiAll s.data.toList = .ok v) (h2 : s.data.toList = d) (h3 : Lib.itoa v = d) (h4 : ((Lib.trimPrefix d [45]).length : Int) ≤ 9) : numI s = (v, true) := by
  unfold numI
  rw [h1]
  show (v, _) = _
  rw [ba_toList, h2, h3, decide_eq_true rfl, decide_eq_true h4]; rfl
theorem ex_1000 : numI ⟨#[49, 48, 48, 48]⟩ = (1000, true) := num_ok (by decide +kernel) rfl (by unfold Lib.itoa; rw [if_neg (by decide)]; simp [Lib.decDigits]) (by decide)
theorem ex_0 : numI ⟨#[48]⟩ = (0, true) := num_ok (by decide +kernel) rfl (by unfold Lib.itoa; rw [if_neg (by decide)]; simp [Lib.decDigits]) (by decide)
theorem ex_pc0 : pc0 exS = ⟨#[49, 48, 48, 48]⟩ := by unfold pc0; rw [ex_pcs]; rfl
theorem ex_pcr : pcr exS = [dsh, ⟨#[48]⟩] := by unfold pcr; rw [ex_pcs]; rfl
theorem ex_t1 : tkS dsh = some (-1) := by unfold tkS; rw [if_pos rfl]
theorem ex_t2 : tkS ⟨#[48]⟩ = some 0 := by unfold tkS; rw [if_neg (by decide), ex_0]; rfl
theorem ex_prs : prsR exS = (⟨1000, [-1, 0]⟩, 0) := by
  have e : prsD exS = ⟨1000, [-1, 0]⟩ := by
    unfold prsD
    rw [ex_pc0, ex_1000, ex_pcr]
    simp [tkV, ex_t1, ex_t2]
  unfold prsR
  rw [e, if_neg, if_neg (by decide +kernel)]
  rw [ex_pc0, ex_1000, ex_pcr]
  rintro (q | ⟨x, q1, q2⟩)
  · cases q
  · rcases List.mem_cons.1 q1 with rfl | q1
    · rw [ex_t1] at q2; cases q2
    · rw [List.mem_singleton.1 q1, ex_t2] at q2; cases q2
set_option maxRecDepth 100000 in
theorem awake_p  : PCG Tryz.prog GW 17 [] (.v (.bool (true))) := by
  refine pcg_of_awpN gw_keep Tryz.func17 rfl Tryz.ntmps17 (rs := [.tmp 0]) Tryz.results17 (by simp) fun w0 hmine hrnd hpn hG => ?_
  refine awp_seq ?_
  refine awp_region 1 mixed (by kernel_rfl) ?_
  refine rg_q (q_assign (x := .d (.v _)) rfl) ?_
  refine rg_nil ?_
  refine aops_nil ?_
  change Awp _ _ _ _ _
  refine awp_seq ?_
  refine awp_region 6 mixed (by kernel_rfl) ?_
  refine rg_q (q_call en79 .nil rfl (lawTwo_p)) ?_
  refine rg_q (q_build (cs := [_, _]) pl28 zr28 rfl (.cons rfl (by exact .inl rfl) .nil) ⟨⟨rfl, by decide⟩, trivial⟩ rfl) ?_
  refine rg_q (q_call en19 (.cons rfl (.cons rfl .nil)) rfl (focusEx_p)) ?_
  refine rg_q (q_move (x := .d (.tup _)) rfl) ?_
  refine rg_q (q_extract rfl rfl) ?_
  refine rg_q (q_extract rfl rfl) ?_
  refine rg_nil ?_
  refine aops_alloc zr33 rfl rfl rfl ?_
  refine aops_store sz33 rfl rfl (by exact .inr ⟨_, rfl⟩) rfl rfl (by decide) rfl ?_
  refine aops_q rfl (q_assign (x := .d (.v _)) rfl) ?_
  refine aops_nil ?_
  change Awp _ _ _ _ _
  refine awp_seq ?_
  refine awp_region 8 mixed (by kernel_rfl) ?_
  refine rg_q (q_call en79 .nil rfl (lawTwo_p)) ?_
  refine rg_q (q_buildSlice sl31 zr3 rfl rfl (by decide) (.cons rfl (by exact .inl rfl) (.cons rfl (by exact .inl rfl) .nil)) ⟨rfl, rfl, rfl, rfl, trivial⟩ rfl (by decide) rfl) ?_
  refine rg_q (q_build (cs := [_, _]) pl33 zr33 rfl (.cons rfl (by exact .inl rfl) (.cons rfl (by exact .inl rfl) .nil)) ⟨⟨rfl, by decide⟩, ⟨rfl, by decide⟩, trivial⟩ rfl) ?_
  refine rg_q (q_build (cs := [_, _]) pl28 zr28 rfl (.cons rfl (by exact .inl rfl) .nil) ⟨⟨rfl, by decide⟩, trivial⟩ rfl) ?_
  refine rg_q (q_call en27 (.cons rfl (.cons rfl (.cons rfl .nil))) rfl ((by have h := spread_p exA exL (0, 400); rw [ex_spr] at h; exact h))) ?_
  refine rg_q (q_move (x := .d (.tup _)) rfl) ?_
  refine rg_q (q_extract rfl rfl) ?_
  refine rg_q (q_extract rfl rfl) ?_
  refine rg_nil ?_
  refine aops_alloc zr49 rfl rfl rfl ?_
  refine aops_store sz49 rfl rfl (by exact .inr ⟨_, rfl⟩) rfl rfl (by decide) rfl ?_
  refine aops_q rfl (q_assign (x := .d (.v _)) rfl) ?_
  refine aops_nil ?_
  change Awp _ _ _ _ _
  refine awp_seq ?_
  refine awp_region 4 mixed (by kernel_rfl) ?_
  refine rg_q (q_call en53 (.cons rfl (.cons rfl (.cons rfl .nil))) rfl ((by have h := nearField_p 1000 5900 5000; rw [ex_near] at h; exact h))) ?_
  refine rg_q (q_move (x := .d (.tup _)) rfl) ?_
  refine rg_q (q_extract rfl rfl) ?_
  refine rg_q (q_extract rfl rfl) ?_
  refine rg_nil ?_
  refine aops_alloc zr49 rfl rfl rfl ?_
  refine aops_store sz49 rfl rfl (by exact .inr ⟨_, rfl⟩) rfl rfl (by decide) rfl ?_
  refine aops_q rfl (q_assign (x := .d (.v _)) rfl) ?_
  refine aops_nil ?_
  change Awp _ _ _ _ _
  refine awp_seq ?_
  refine awp_region 4 mixed (by kernel_rfl) ?_
  refine rg_q (q_callG en76 (.cons rfl .nil) rfl hG ((by have h := parseLaw_p exS (by decide); rw [ex_prs] at h; exact h))) ?_
  refine rg_q (q_move (x := .d (.tup _)) rfl) ?_
  refine rg_q (q_extract rfl rfl) ?_
  refine rg_q (q_extract rfl rfl) ?_
  refine rg_nil ?_
  refine aops_alloc zr33 rfl rfl rfl ?_
  refine aops_store sz33 rfl rfl (by exact .inr ⟨_, rfl⟩) rfl rfl (by decide) rfl ?_
  refine aops_q rfl (q_assign (x := .d (.v _)) rfl) ?_
  refine aops_nil ?_
  change Awp _ _ _ _ _
  refine awp_seq ?_
  refine awp_region 37 mixed (by kernel_rfl) ?_
  refine rg_q (q_move (x := .d (.v _)) rfl) ?_
  refine rg_q (q_eql rfl rfl) ?_
  refine rg_q (q_move (x := .d (.v _)) rfl) ?_
  refine rg_g rfl rfl (fun hG => (q_load_refA (ds := [_, _]) sz33 rfl rfl rfl rfl)) ?_
  refine rg_g rfl rfl (fun hG => (q_buildSlice sl31 zr3 rfl rfl (by decide) (.cons rfl (by exact .inl rfl) (.cons rfl (by exact .inl rfl) .nil)) ⟨rfl, rfl, rfl, rfl, trivial⟩ rfl (by decide) rfl)) ?_
  refine rg_g rfl rfl (fun hG => (q_build (cs := [_, _]) pl33 zr33 rfl (.cons rfl (by exact .inl rfl) (.cons rfl (by exact .inl rfl) .nil)) ⟨⟨rfl, by decide⟩, ⟨rfl, by decide⟩, trivial⟩ rfl)) ?_
  refine rg_g rfl rfl (fun hG => (q_call en24 (.cons rfl (.cons rfl .nil)) rfl (same_p exL exL))) ?_
  refine rg_pick rfl rfl rfl rfl rfl rfl ?_
  refine rg_q (q_move (x := .d (.v _)) rfl) ?_
  refine rg_g rfl rfl (fun hG => (q_move (x := .d (.v _)) rfl)) ?_
  refine rg_g rfl rfl (fun hG => (q_eql rfl rfl)) ?_
  refine rg_pick rfl rfl rfl rfl rfl rfl ?_
  refine rg_q (q_move (x := .d (.v _)) rfl) ?_
  refine rg_g rfl rfl (fun hG => (q_load_refA (ds := [_, _]) sz49 rfl rfl rfl rfl)) ?_
  refine rg_g rfl rfl (fun hG => (q_build (cs := [_, _]) pl49 zr49 rfl (.cons rfl (by exact .inl rfl) (.cons rfl (by exact .inl rfl) .nil)) ⟨⟨rfl, by decide⟩, ⟨rfl, by decide⟩, trivial⟩ rfl)) ?_
  refine rg_g rfl rfl (fun hG => (q_eqlI (xs := [_, _]) (ys := [_, _]) eqi49 rfl rfl rfl rfl)) ?_
  refine rg_pick rfl rfl rfl rfl rfl rfl ?_
  refine rg_q (q_move (x := .d (.v _)) rfl) ?_
  refine rg_g rfl rfl (fun hG => (q_move (x := .d (.v _)) rfl)) ?_
  refine rg_g rfl rfl (fun hG => (q_eql rfl rfl)) ?_
  refine rg_pick rfl rfl rfl rfl rfl rfl ?_
  refine rg_q (q_move (x := .d (.v _)) rfl) ?_
  refine rg_g rfl rfl (fun hG => (q_load_refA (ds := [_, _]) sz49 rfl rfl rfl rfl)) ?_
  refine rg_g rfl rfl (fun hG => (q_build (cs := [_, _]) pl49 zr49 rfl (.cons rfl (by exact .inl rfl) (.cons rfl (by exact .inl rfl) .nil)) ⟨⟨rfl, by decide⟩, ⟨rfl, by decide⟩, trivial⟩ rfl)) ?_
  refine rg_g rfl rfl (fun hG => (q_eqlI (xs := [_, _]) (ys := [_, _]) eqi49 rfl rfl rfl rfl)) ?_
  refine rg_pick rfl rfl rfl rfl rfl rfl ?_
  refine rg_q (q_move (x := .d (.v _)) rfl) ?_
  refine rg_g rfl rfl (fun hG => (q_move (x := .d (.v _)) rfl)) ?_
  refine rg_g rfl rfl (fun hG => (q_eql rfl rfl)) ?_
  refine rg_pick rfl rfl rfl rfl rfl rfl ?_
  refine rg_q (q_move (x := .d (.v _)) rfl) ?_
  refine rg_g rfl rfl (fun hG => (q_load_refA (ds := [_, _]) sz33 rfl rfl rfl rfl)) ?_
  refine rg_g rfl rfl (fun hG => (q_buildSlice sl31 zr3 rfl rfl (by decide) (.cons rfl (by exact .inl rfl) (.cons rfl (by exact .inl rfl) .nil)) ⟨rfl, rfl, rfl, rfl, trivial⟩ rfl (by decide) rfl)) ?_
  refine rg_g rfl rfl (fun hG => (q_build (cs := [_, _]) pl33 zr33 rfl (.cons rfl (by exact .inl rfl) (.cons rfl (by exact .inl rfl) .nil)) ⟨⟨rfl, by decide⟩, ⟨rfl, by decide⟩, trivial⟩ rfl)) ?_
  refine rg_g rfl rfl (fun hG => (q_call en24 (.cons rfl (.cons rfl .nil)) rfl (same_p ⟨1000, [-1, 0]⟩ ⟨1000, [-1, 0]⟩))) ?_
  refine rg_pick rfl rfl rfl rfl rfl rfl ?_
  refine rg_q (q_assign (x := .d (.v _)) rfl) ?_
  refine rg_nil ?_
  refine aops_nil ?_
  change Awp _ _ _ _ _
  refine awp_ret ?_
  refine ⟨_, (.cons (.tmp (by exact .d _)) .nil), ?_⟩
  rfl
end Go.Proofs.YtgeieocphgnipaaGreatDoor.Am.M
