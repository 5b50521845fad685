/- Contracts over the abstract machine: a line is read: the reference. Conditions: none. -/
import Derived.Test.YtkbdnkjjklbddaaGreatDoorB13
set_option linter.unusedVariables false
set_option linter.unusedSimpArgs false
-- mini
set_option maxRecDepth 100000
namespace Go.Proofs.YtkbdnkjjklbddaaGreatDoor.Am.M
open Go
theorem rmodeOf_p (l : List Int) (h : l.length = 4) : PC Tryz.prog 81 [.sl 1 (l.map iC)] (.agg [.v (.int .i64 (l.getD 0 0)), .v (.int .i64 (l.getD 1 0)), .v (.int .i64 (l.getD 2 0)), .v (.int .i64 (l.getD 3 0))]) := by
 refine pc_of_awpN Tryz.func81 rfl Tryz.ntmps81 (rs := [.cell 2 24]) Tryz.results81 (by simp) fun w0 hmine hrnd hpn => ?_
 refine awp_seq ?_
 refine xa 0 ?_
 refine rg_nil ?_
 refine aops_alloc zr24 rfl rfl rfl ?_
 refine aops_nil ?_
 change Awp _ _ _ _ _
 refine awp_seq ?_
 refine xa 13 ?_
 refine rg_q (q_move (x := .d (.sl _ _)) rfl) ?_
 refine rg_q (q_indexAddr sl29 rfl rfl (by omega) (map_at (k := 0) (by omega) (at_of 0 (by omega)))) ?_
 refine rg_q (q_load sz3 rfl rfl) (rg_q (q_move (x := .d (.sl _ _)) rfl) ?_)
 refine rg_q (q_indexAddr sl29 rfl rfl (by omega) (map_at (k := 1) (by omega) (at_of 1 (by omega)))) ?_
 refine rg_q (q_load sz3 rfl rfl) (rg_q (q_move (x := .d (.sl _ _)) rfl) ?_)
 refine rg_q (q_indexAddr sl29 rfl rfl (by omega) (map_at (k := 2) (by omega) (at_of 2 (by omega)))) ?_
 refine rg_q (q_load sz3 rfl rfl) (rg_q (q_move (x := .d (.sl _ _)) rfl) ?_)
 refine rg_q (q_indexAddr sl29 rfl rfl (by omega) (map_at (k := 3) (by omega) (at_of 3 (by omega)))) ?_
 refine rg_q (q_load sz3 rfl rfl) ?_
 refine rg_q (q_build (cs := [_, _, _, _]) pl24 zr24 rfl (.cons rfl (by exact .inl rfl) (.cons rfl (by exact .inl rfl) (.cons rfl (by exact .inl rfl) (.cons rfl (by exact .inl rfl) .nil)))) ⟨⟨rfl, by decide⟩, ⟨rfl, by decide⟩, ⟨rfl, by decide⟩, ⟨rfl, by decide⟩, trivial⟩ rfl) ?_
 refine rg_nil ?_
 refine aops_store sz24 rfl rfl (by exact .inr ⟨_, rfl⟩) rfl rfl (by decide) rfl ?_
 refine aops_nil ?_
 change Awp _ _ _ _ _
 refine awp_ret ?_
 refine ⟨_, (.cons (.cellA rfl rfl sz24 rfl) .nil), ?_⟩
 rfl

def nO (s : ByteArray) : Bool := (rnR ((pcs s).drop 1)).2
def nL (s : ByteArray) : List Int := (rnR ((pcs s).drop 1)).1
def wd0 (s : ByteArray) : ByteArray := (pcs s).getD 0 ⟨#[]⟩
theorem line4_p (b0 : Nat) (s : ByteArray) (hs : s.size ≤ 100000) (d0 d1 d2 d3 d4 d5 d6 d7 d8 d9 pl : D) (es fs : List (List D)) (hel : es.length ≤ 100000) (hfl : fs.length ≤ 100000) : PCSX Tryz.prog NGB GB b0 47 [.ref 0 0, .d (.v (.string (s)))] [.tbox [.rs 1, .d (d0), .d (d1), .d (d2), .d (d3), .d (d4), .d (d5), .d (d6), .d (d7), .d (d8), .d (d9), .d (pl), .rs 2, .d (.v (.int .i64 4))], .row 37 2 (es), .row 39 8 (fs)] (.d (.v (.bool ((flP s).2)))) [.tbox [.rs 1, .d (d0), .d (d1), .d (d2), .d (d3), .d (d4), .d (d5), .d (d6), .d (d7), .d (d8), .d (d9), .d (pl), .rs 2, .d (.v (.int .i64 4))], .row 37 2 (es), .row 39 8 (fs ++ [flwC (flP s).1])] := by
 obtain ⟨pl1, pl2⟩ := pcs_len s
 have hw0 : (pcs s)[0]? = some (wd0 s) := by unfold wd0; rw [List.getD_eq_getElem?_getD, List.getElem?_eq_getElem (by omega)]; rfl
 have hps : ∀ x ∈ (pcs s).drop 1, x.size ≤ 100000 := fun x hx => by have := pcs_le (List.mem_of_mem_drop hx); omega
 have hpl : ((pcs s).drop 1).length ≤ 100001 := by rw [List.length_drop]; omega
 refine pcsx_of_awp gb_low Tryz.func47 rfl Tryz.ntmps47 (rs := [.tmp 4]) Tryz.results47 (by simp) 1000 b0 rfl fun w0 hrnd hGB hNG => ?_
 have hG : ∀ w, ExtM w0 w → GW w := fun w h => (hGB w h).1
 refine awp_seq ?_
 refine xa 1 ?_
 refine rg_q (q_a rfl) ?_
 refine rs (xa 3 ?_)
 refine rg_q (q_m rfl) ?_
 refine rg_q (q_call en46 (.cons rfl (.cons rfl .nil)) rfl ((by have h := cut_p s (by omega); rw [← pcs_cut] at h; exact h))) ?_
 refine rg_q (q_assign (x := .d (.sl _ _)) rfl) ?_
 refine rs (awp_seq ?_)
 refine xa 5 ?_
 refine rg_q (q_move (x := .ref _ _) rfl) (rg_q (q_nilCheck_ref rfl) (rg_q (q_fieldAddr_ref fld106_1 rfl) ?_))
 refine rg_q (q_load_tb (x := .d _) sz3 rfl rfl rfl) ?_
 refine rg_q (q_eql rfl rfl) ?_
 refine xc (awp_cond rfl (fun hc2 => ?_) (fun hc2 => ?_))
 ·
  (try simp only [nb, ne_eq] at hc2)
  refine awp_seq ?_
  refine xa 5 ?_
  refine rg_q (q_m rfl) ?_
  refine rg_q (q_call en34 (.cons rfl .nil) rfl (rflawOf_p s hs)) ?_
  refine rg_q (q_move (x := .d (.tup _)) rfl) (rg_q (q_extract rfl rfl) (rg_q (q_extract rfl rfl) ?_))
  refine rg_nil ?_
  refine aops_alloc zr39 rfl rfl rfl ?_
  refine aops_store sz39 rfl rfl (by exact .inr ⟨_, rfl⟩) rfl rfl (by decide) rfl ?_
  refine aops_q rfl (q_a rfl) ?_
  refine aops_nil ?_
  change Awp _ _ _ _ _
  refine awp_seq ?_
  refine Awp.le (le_unref 1000 0 rfl rfl) ?_
  refine awp_regionC 13 [5, 8, 12] [159, 157] mixed (by kernel_rfl) ?_
  refine rgc_q rfl (q_m rfl) rfl ?_
  refine rgc_q rfl (q_m rfl) rfl ?_
  refine rgc_q rfl (q_nilCheck_raw rfl) rfl ?_
  refine rgc_q rfl (q_fieldAddr_raw fld106_0 rfl) rfl ?_
  refine rgc_q rfl (q_fieldAddr_raw fld32_2 rfl) rfl ?_
  refine rgc_c rfl rfl (c_q (q_load_tbR (gy := .tmp 1000) (x := .rs _) sz30 rfl rfl rfl rfl)) ?_
  refine rgc_q rfl (q_load_refA (ds := [_, _, _, _, _, _, _, _]) sz39 rfl rfl rfl rfl) rfl ?_
  refine rgc_q rfl (q_buildSlice sl30 zr39 rfl rfl (by decide) (.cons rfl (by exact .inr ⟨_, rfl⟩) .nil) ⟨rfl, rfl, trivial⟩ rfl (by decide) rfl) rfl ?_
  refine rgc_c rfl rfl (c_append sl30 zr39 by39 rfl (by decide) rfl rfl rfl rfl (by (try simp only [List.length_map, List.length_append, List.length_cons, List.length_nil]); omega) (by (try simp only [List.length_map, List.length_append, List.length_cons, List.length_nil]); omega) rfl) ?_
  refine rgc_q rfl (q_nilCheck_raw rfl) rfl ?_
  refine rgc_q rfl (q_fieldAddr_raw fld106_0 rfl) rfl ?_
  refine rgc_q rfl (q_fieldAddr_raw fld32_2 rfl) rfl ?_
  refine rgc_c rfl rfl ((c_storeRX (gy := .tmp 1000) sz30 rfl rfl rfl rfl (by simp) rfl)) ?_
  refine rgc_nil ?_
  refine aops_nil ?_
  change Awp _ _ _ _ _
  refine awp_seq ?_
  refine xa 2 ?_
  refine rg_q (q_m rfl) (rg_q (q_a rfl) ?_)
  refine xc (awp_ret ?_)
  exact end_mk (.inl rfl) [157, 158, 159] (.tmp rfl) (by repeat (first | exact trivial | refine ⟨rfl, ?_⟩)) rfl
 ·
  exact absurd rfl (of_decide_eq_false hc2)
theorem lineN_p (b0 : Nat) (s : ByteArray) (hs : s.size ≤ 100000) (d0 d1 d2 d3 d4 d5 d6 d7 d8 d9 pl : D) (es fs : List (List D)) (hel : es.length ≤ 100000) (hfl : fs.length ≤ 100000) (a : Int) (ha : a ≠ 4) (hn : nO s = false) : PCSX Tryz.prog NGB GB b0 47 [.ref 0 0, .d (.v (.string (s)))] [.tbox [.rs 1, .d (d0), .d (d1), .d (d2), .d (d3), .d (d4), .d (d5), .d (d6), .d (d7), .d (d8), .d (d9), .d (pl), .rs 2, .d (.v (.int .i64 a))], .row 37 2 (es), .row 39 8 (fs)] (.d (.v (.bool (false)))) [.tbox [.rs 1, .d (d0), .d (d1), .d (d2), .d (d3), .d (d4), .d (d5), .d (d6), .d (d7), .d (d8), .d (d9), .d (pl), .rs 2, .d (.v (.int .i64 a))], .row 37 2 (es), .row 39 8 (fs)] := by
 obtain ⟨pl1, pl2⟩ := pcs_len s
 have hw0 : (pcs s)[0]? = some (wd0 s) := by unfold wd0; rw [List.getD_eq_getElem?_getD, List.getElem?_eq_getElem (by omega)]; rfl
 have hps : ∀ x ∈ (pcs s).drop 1, x.size ≤ 100000 := fun x hx => by have := pcs_le (List.mem_of_mem_drop hx); omega
 have hpl : ((pcs s).drop 1).length ≤ 100001 := by rw [List.length_drop]; omega
 refine pcsx_of_awp gb_low Tryz.func47 rfl Tryz.ntmps47 (rs := [.tmp 4]) Tryz.results47 (by simp) 1000 b0 rfl fun w0 hrnd hGB hNG => ?_
 have hG : ∀ w, ExtM w0 w → GW w := fun w h => (hGB w h).1
 refine awp_seq ?_
 refine xa 1 ?_
 refine rg_q (q_a rfl) ?_
 refine rs (xa 3 ?_)
 refine rg_q (q_m rfl) ?_
 refine rg_q (q_call en46 (.cons rfl (.cons rfl .nil)) rfl ((by have h := cut_p s (by omega); rw [← pcs_cut] at h; exact h))) ?_
 refine rg_q (q_assign (x := .d (.sl _ _)) rfl) ?_
 refine rs (awp_seq ?_)
 refine xa 5 ?_
 refine rg_q (q_move (x := .ref _ _) rfl) (rg_q (q_nilCheck_ref rfl) (rg_q (q_fieldAddr_ref fld106_1 rfl) ?_))
 refine rg_q (q_load_tb (x := .d _) sz3 rfl rfl rfl) ?_
 refine rg_q (q_eql rfl rfl) ?_
 refine xc (awp_cond rfl (fun hc2 => ?_) (fun hc2 => ?_))
 ·
  exact absurd (of_decide_eq_true hc2) ha
 ·
  (try simp only [nb, ne_eq] at hc2)
  refine awp_skip ?_
  change Awp _ _ _ _ _
  refine awp_seq ?_
  refine xa 8 ?_
  refine rg_q (q_move (x := .d (.sl _ _)) rfl) ?_
  refine rg_q (q_slice sl90 rfl rfl rfl (by simp only [List.length_map]; omega) (by simp only [List.length_map]; omega) (by exact map_slice _ _ _ _)) ?_
  rw [show (List.map strC (pcs s)).length = (pcs s).length from List.length_map _, List.take_length]
  refine rg_q (q_call en62 (.cons rfl .nil) rfl ((show PC _ _ _ (.tup [.sl 1 ((nL s).map iC), .v (.bool (nO s))]) from rwnums_p ((pcs s).drop 1) hpl hps))) ?_
  refine rg_q (q_move (x := .d (.tup _)) rfl) (rg_q (q_extract rfl rfl) (rg_q (q_extract rfl rfl) (rg_q (q_assign (x := .d (.sl _ _)) rfl) (rg_q (q_a rfl) ?_))))
  refine rs (awp_seq ?_)
  refine xa 2 ?_
  refine rg_q (q_m rfl) (rg_q (q_not rfl) ?_)
  refine xc (awp_cond rfl (fun hc7 => ?_) (fun hc7 => ?_))
  ·
   (try simp only [nb, ne_eq] at hc7)
   refine awp_seq ?_
   refine xa 1 ?_
   refine rg_q (q_a rfl) ?_
   refine xc (awp_ret ?_)
   exact end_mk (.inl rfl) [157, 158, 159] (.tmp rfl) (by repeat (first | exact trivial | refine ⟨rfl, ?_⟩)) rfl
  ·
   rw [hn] at hc7; cases hc7
theorem line3E_p (b0 : Nat) (s : ByteArray) (hs : s.size ≤ 100000) (d0 d1 d2 d3 d4 d5 d6 d7 d8 d9 pl : D) (es fs : List (List D)) (hel : es.length ≤ 100000) (hfl : fs.length ≤ 100000) (hn : nO s = true) (hw : wd0 s = eleS) (hl : (nL s).length = 2) : PCSX Tryz.prog NGB GB b0 47 [.ref 0 0, .d (.v (.string (s)))] [.tbox [.rs 1, .d (d0), .d (d1), .d (d2), .d (d3), .d (d4), .d (d5), .d (d6), .d (d7), .d (d8), .d (d9), .d (pl), .rs 2, .d (.v (.int .i64 3))], .row 37 2 (es), .row 39 8 (fs)] (.d (.v (.bool (true)))) [.tbox [.rs 1, .d (d0), .d (d1), .d (d2), .d (d3), .d (d4), .d (d5), .d (d6), .d (d7), .d (d8), .d (d9), .d (pl), .rs 2, .d (.v (.int .i64 3))], .row 37 2 (es ++ [shC ((nL s).getD 0 0, (nL s).getD 1 0)]), .row 39 8 (fs)] := by
 obtain ⟨pl1, pl2⟩ := pcs_len s
 have hw0 : (pcs s)[0]? = some (wd0 s) := by unfold wd0; rw [List.getD_eq_getElem?_getD, List.getElem?_eq_getElem (by omega)]; rfl
 have hps : ∀ x ∈ (pcs s).drop 1, x.size ≤ 100000 := fun x hx => by have := pcs_le (List.mem_of_mem_drop hx); omega
 have hpl : ((pcs s).drop 1).length ≤ 100001 := by rw [List.length_drop]; omega
 refine pcsx_of_awp gb_low Tryz.func47 rfl Tryz.ntmps47 (rs := [.tmp 4]) Tryz.results47 (by simp) 1000 b0 rfl fun w0 hrnd hGB hNG => ?_
 have hG : ∀ w, ExtM w0 w → GW w := fun w h => (hGB w h).1
 refine awp_seq ?_
 refine xa 1 ?_
 refine rg_q (q_a rfl) ?_
 refine rs (xa 3 ?_)
 refine rg_q (q_m rfl) ?_
 refine rg_q (q_call en46 (.cons rfl (.cons rfl .nil)) rfl ((by have h := cut_p s (by omega); rw [← pcs_cut] at h; exact h))) ?_
 refine rg_q (q_assign (x := .d (.sl _ _)) rfl) ?_
 refine rs (awp_seq ?_)
 refine xa 5 ?_
 refine rg_q (q_move (x := .ref _ _) rfl) (rg_q (q_nilCheck_ref rfl) (rg_q (q_fieldAddr_ref fld106_1 rfl) ?_))
 refine rg_q (q_load_tb (x := .d _) sz3 rfl rfl rfl) ?_
 refine rg_q (q_eql rfl rfl) ?_
 refine xc (awp_cond rfl (fun hc2 => ?_) (fun hc2 => ?_))
 ·
  cases hc2
 ·
  (try simp only [nb, ne_eq] at hc2)
  refine awp_skip ?_
  change Awp _ _ _ _ _
  refine awp_seq ?_
  refine xa 8 ?_
  refine rg_q (q_move (x := .d (.sl _ _)) rfl) ?_
  refine rg_q (q_slice sl90 rfl rfl rfl (by simp only [List.length_map]; omega) (by simp only [List.length_map]; omega) (by exact map_slice _ _ _ _)) ?_
  rw [show (List.map strC (pcs s)).length = (pcs s).length from List.length_map _, List.take_length]
  refine rg_q (q_call en62 (.cons rfl .nil) rfl ((show PC _ _ _ (.tup [.sl 1 ((nL s).map iC), .v (.bool (nO s))]) from rwnums_p ((pcs s).drop 1) hpl hps))) ?_
  refine rg_q (q_move (x := .d (.tup _)) rfl) (rg_q (q_extract rfl rfl) (rg_q (q_extract rfl rfl) (rg_q (q_assign (x := .d (.sl _ _)) rfl) (rg_q (q_a rfl) ?_))))
  refine rs (awp_seq ?_)
  refine xa 2 ?_
  refine rg_q (q_m rfl) (rg_q (q_not rfl) ?_)
  refine xc (awp_cond rfl (fun hc7 => ?_) (fun hc7 => ?_))
  ·
   rw [hn] at hc7; cases hc7
  ·
   (try simp only [nb, ne_eq] at hc7)
   refine awp_skip ?_
   change Awp _ _ _ _ _
   refine awp_seq ?_
   refine awp_seq ?_
   refine xa 5 ?_
   refine rg_q (q_move (x := .ref _ _) rfl) (rg_q (q_nilCheck_ref rfl) (rg_q (q_fieldAddr_ref fld106_1 rfl) ?_))
   refine rg_q (q_load_tb (x := .d _) sz3 rfl rfl rfl) ?_
   refine rg_q (q_eql rfl rfl) ?_
   refine xc (awp_cond rfl (fun hc9 => ?_) (fun hc9 => ?_))
   ·
    (try simp only [nb, ne_eq] at hc9)
    refine awp_seq ?_
    refine awp_seq ?_
    refine xa 9 ?_
    refine rg_q (q_move (x := .d (.sl _ _)) rfl) ?_
    refine rg_q (q_indexAddr sl90 rfl rfl (by omega) (map_at (k := 0) (by omega) hw0)) ?_
    refine rg_q (q_load sz9 rfl rfl) ?_
    refine rg_q (q_eqls rfl rfl) ?_
    refine rg_q (q_m rfl) ?_
    refine rg_g rfl rfl (fun hG => (q_move (x := .d (.sl _ _)) rfl)) ?_
    refine rg_g rfl rfl (fun hG => (q_len isl29 rfl (by exact len_map _ _))) ?_
    refine rg_g rfl rfl (fun hG => (q_eql rfl rfl)) ?_
    refine rg_pick rfl rfl rfl rfl rfl rfl ?_
    refine xc (awp_cond rfl (fun hc10 => ?_) (fun hc10 => ?_))
    ·
     (try simp only [nb, ne_eq] at hc10)
     refine awp_seq ?_
     refine Awp.le (le_unref 1000 0 rfl rfl) ?_
     refine awp_regionC 21 [6, 15, 20] [158, 157] mixed (by kernel_rfl) ?_
     refine rgc_q rfl (q_m rfl) rfl ?_
     refine rgc_q rfl (q_m rfl) rfl ?_
     refine rgc_q rfl (q_nilCheck_raw rfl) rfl ?_
     refine rgc_q rfl (q_fieldAddr_raw fld106_0 rfl) rfl ?_
     refine rgc_q rfl (q_fieldAddr_raw fld32_0 rfl) rfl ?_
     refine rgc_q rfl (q_fieldAddr_raw fld28_0 rfl) rfl ?_
     refine rgc_c rfl rfl (c_q (q_load_tbR (gy := .tmp 1000) (x := .rs _) sz22 rfl rfl rfl rfl)) ?_
     refine rgc_q rfl (q_move (x := .d (.sl _ _)) rfl) rfl ?_
     refine rgc_q rfl (q_indexAddr sl29 rfl rfl (by omega) (map_at (k := 0) (by omega) (at_of 0 (by omega)))) rfl ?_
     refine rgc_q rfl (q_load sz3 rfl rfl) rfl ?_
     refine rgc_q rfl (q_move (x := .d (.sl _ _)) rfl) rfl ?_
     refine rgc_q rfl (q_indexAddr sl29 rfl rfl (by omega) (map_at (k := 1) (by omega) (at_of 1 (by omega)))) rfl ?_
     refine rgc_q rfl (q_load sz3 rfl rfl) rfl ?_
     refine rgc_q rfl (q_build (cs := [_, _]) pl37 zr37 rfl (.cons rfl (by exact .inl rfl) (.cons rfl (by exact .inl rfl) .nil)) ⟨⟨rfl, by decide⟩, ⟨rfl, by decide⟩, trivial⟩ rfl) rfl ?_
     refine rgc_q rfl (q_buildSlice sl22 zr37 rfl rfl (by decide) (.cons rfl (by exact .inr ⟨_, rfl⟩) .nil) ⟨rfl, rfl, trivial⟩ rfl (by decide) rfl) rfl ?_
     refine rgc_c rfl rfl (c_append sl22 zr37 by37 rfl (by decide) rfl rfl rfl rfl (by (try simp only [List.length_map, List.length_append, List.length_cons, List.length_nil]); omega) (by (try simp only [List.length_map, List.length_append, List.length_cons, List.length_nil]); omega) rfl) ?_
     refine rgc_q rfl (q_nilCheck_raw rfl) rfl ?_
     refine rgc_q rfl (q_fieldAddr_raw fld106_0 rfl) rfl ?_
     refine rgc_q rfl (q_fieldAddr_raw fld32_0 rfl) rfl ?_
     refine rgc_q rfl (q_fieldAddr_raw fld28_0 rfl) rfl ?_
     refine rgc_c rfl rfl ((c_storeRX (gy := .tmp 1000) sz22 rfl rfl rfl rfl (by simp) rfl)) ?_
     refine rgc_nil ?_
     refine aops_nil ?_
     change Awp _ _ _ _ _
     refine awp_seq ?_
     refine xa 1 ?_
     refine rg_q (q_a rfl) ?_
     refine xc (awp_ret ?_)
     exact end_mk (.inl rfl) [157, 158, 159] (.tmp rfl) (by repeat (first | exact trivial | refine ⟨rfl, ?_⟩)) rfl
    ·
     exfalso
     (try simp only [nb, ne_eq, List.length_map] at hc10)
     rcases hc10 with q | q
     · exact q hw
     · omega
   ·
    cases hc9
theorem line3P_p (b0 : Nat) (s : ByteArray) (hs : s.size ≤ 100000) (d0 d1 d2 d3 d4 d5 d6 d7 d8 d9 pl : D) (es fs : List (List D)) (hel : es.length ≤ 100000) (hfl : fs.length ≤ 100000) (hn : nO s = true) (hw : ¬ (wd0 s = eleS ∧ (nL s).length = 2)) : PCSX Tryz.prog NGB GB b0 47 [.ref 0 0, .d (.v (.string (s)))] [.tbox [.rs 1, .d (d0), .d (d1), .d (d2), .d (d3), .d (d4), .d (d5), .d (d6), .d (d7), .d (d8), .d (d9), .d (pl), .rs 2, .d (.v (.int .i64 3))], .row 37 2 (es), .row 39 8 (fs)] (.d (.v (.bool ((bif decide (wd0 s = pulS) then decide ((0 : Int) < ((nL s).length : Int)) else false))))) [.tbox [.rs 1, .d (d0), .d (d1), .d (d2), .d (d3), .d (d4), .d (d5), .d (d6), .d (d7), .d (d8), .d (d9), .d (.sl 1 ((nL s).map iC)), .rs 2, .d (.v (.int .i64 4))], .row 37 2 (es), .row 39 8 (fs)] := by
 obtain ⟨pl1, pl2⟩ := pcs_len s
 have hw0 : (pcs s)[0]? = some (wd0 s) := by unfold wd0; rw [List.getD_eq_getElem?_getD, List.getElem?_eq_getElem (by omega)]; rfl
 have hps : ∀ x ∈ (pcs s).drop 1, x.size ≤ 100000 := fun x hx => by have := pcs_le (List.mem_of_mem_drop hx); omega
 have hpl : ((pcs s).drop 1).length ≤ 100001 := by rw [List.length_drop]; omega
 refine pcsx_of_awp gb_low Tryz.func47 rfl Tryz.ntmps47 (rs := [.tmp 4]) Tryz.results47 (by simp) 1000 b0 rfl fun w0 hrnd hGB hNG => ?_
 have hG : ∀ w, ExtM w0 w → GW w := fun w h => (hGB w h).1
 refine awp_seq ?_
 refine xa 1 ?_
 refine rg_q (q_a rfl) ?_
 refine rs (xa 3 ?_)
 refine rg_q (q_m rfl) ?_
 refine rg_q (q_call en46 (.cons rfl (.cons rfl .nil)) rfl ((by have h := cut_p s (by omega); rw [← pcs_cut] at h; exact h))) ?_
 refine rg_q (q_assign (x := .d (.sl _ _)) rfl) ?_
 refine rs (awp_seq ?_)
 refine xa 5 ?_
 refine rg_q (q_move (x := .ref _ _) rfl) (rg_q (q_nilCheck_ref rfl) (rg_q (q_fieldAddr_ref fld106_1 rfl) ?_))
 refine rg_q (q_load_tb (x := .d _) sz3 rfl rfl rfl) ?_
 refine rg_q (q_eql rfl rfl) ?_
 refine xc (awp_cond rfl (fun hc2 => ?_) (fun hc2 => ?_))
 ·
  cases hc2
 ·
  (try simp only [nb, ne_eq] at hc2)
  refine awp_skip ?_
  change Awp _ _ _ _ _
  refine awp_seq ?_
  refine xa 8 ?_
  refine rg_q (q_move (x := .d (.sl _ _)) rfl) ?_
  refine rg_q (q_slice sl90 rfl rfl rfl (by simp only [List.length_map]; omega) (by simp only [List.length_map]; omega) (by exact map_slice _ _ _ _)) ?_
  rw [show (List.map strC (pcs s)).length = (pcs s).length from List.length_map _, List.take_length]
  refine rg_q (q_call en62 (.cons rfl .nil) rfl ((show PC _ _ _ (.tup [.sl 1 ((nL s).map iC), .v (.bool (nO s))]) from rwnums_p ((pcs s).drop 1) hpl hps))) ?_
  refine rg_q (q_move (x := .d (.tup _)) rfl) (rg_q (q_extract rfl rfl) (rg_q (q_extract rfl rfl) (rg_q (q_assign (x := .d (.sl _ _)) rfl) (rg_q (q_a rfl) ?_))))
  refine rs (awp_seq ?_)
  refine xa 2 ?_
  refine rg_q (q_m rfl) (rg_q (q_not rfl) ?_)
  refine xc (awp_cond rfl (fun hc7 => ?_) (fun hc7 => ?_))
  ·
   rw [hn] at hc7; cases hc7
  ·
   (try simp only [nb, ne_eq] at hc7)
   refine awp_skip ?_
   change Awp _ _ _ _ _
   refine awp_seq ?_
   refine awp_seq ?_
   refine xa 5 ?_
   refine rg_q (q_move (x := .ref _ _) rfl) (rg_q (q_nilCheck_ref rfl) (rg_q (q_fieldAddr_ref fld106_1 rfl) ?_))
   refine rg_q (q_load_tb (x := .d _) sz3 rfl rfl rfl) ?_
   refine rg_q (q_eql rfl rfl) ?_
   refine xc (awp_cond rfl (fun hc9 => ?_) (fun hc9 => ?_))
   ·
    (try simp only [nb, ne_eq] at hc9)
    refine awp_seq ?_
    refine awp_seq ?_
    refine xa 9 ?_
    refine rg_q (q_move (x := .d (.sl _ _)) rfl) ?_
    refine rg_q (q_indexAddr sl90 rfl rfl (by omega) (map_at (k := 0) (by omega) hw0)) ?_
    refine rg_q (q_load sz9 rfl rfl) ?_
    refine rg_q (q_eqls rfl rfl) ?_
    refine rg_q (q_m rfl) ?_
    refine rg_g rfl rfl (fun hG => (q_move (x := .d (.sl _ _)) rfl)) ?_
    refine rg_g rfl rfl (fun hG => (q_len isl29 rfl (by exact len_map _ _))) ?_
    refine rg_g rfl rfl (fun hG => (q_eql rfl rfl)) ?_
    refine rg_pick rfl rfl rfl rfl rfl rfl ?_
    refine xc (awp_cond rfl (fun hc10 => ?_) (fun hc10 => ?_))
    ·
     exfalso
     (try simp only [nb, ne_eq, List.length_map] at hc10)
     exact hw ⟨hc10.1, by omega⟩
    ·
     (try simp only [nb, ne_eq] at hc10)
     refine awp_skip ?_
     change Awp _ _ _ _ _
     refine awp_seq ?_
     refine xa 6 ?_
     refine rg_q (q_move (x := .ref _ _) rfl) (rg_q (q_move (x := .ref _ _) rfl) (rg_q (q_move (x := .d (.sl _ _)) rfl) (rg_q (q_nilCheck_ref rfl) (rg_q (q_fieldAddr_ref fld106_0 rfl) (rg_q (q_fieldAddr_ref fld32_1 rfl) ?_)))))
     refine rg_nil ?_
     refine aops_storeT (z := .d _) sz29 rfl rfl rfl rfl (by exact Nat.le_of_ble_eq_true rfl) rfl ?_
     refine aops_q rfl (q_nilCheck_ref rfl) ?_
     refine aops_q rfl (q_fieldAddr_ref fld106_1 rfl) ?_
     refine aops_storeT (z := .d _) sz3 rfl rfl rfl rfl (by exact Nat.le_of_ble_eq_true rfl) rfl ?_
     refine aops_nil ?_
     change Awp _ _ _ _ _
     refine awp_seq ?_
     refine xa 10 ?_
     refine rg_q (q_move (x := .d (.sl _ _)) rfl) ?_
     refine rg_q (q_indexAddr sl90 rfl rfl (by omega) (map_at (k := 0) (by omega) hw0)) ?_
     refine rg_q (q_load sz9 rfl rfl) ?_
     refine rg_q (q_eqls rfl rfl) ?_
     refine rg_q (q_m rfl) ?_
     refine rg_g rfl rfl (fun hG => (q_move (x := .d (.sl _ _)) rfl)) ?_
     refine rg_g rfl rfl (fun hG => (q_len isl29 rfl (by exact len_map _ _))) ?_
     refine rg_g rfl rfl (fun hG => (q_gtr rfl rfl)) ?_
     refine rg_pick rfl rfl rfl rfl rfl rfl ?_
     refine rg_q (q_a rfl) ?_
     refine xc (awp_ret ?_)
     exact end_mk (.inl rfl) [157, 158, 159] (.tmp rfl) (by repeat (first | exact trivial | refine ⟨rfl, ?_⟩)) rfl
   ·
    cases hc9
theorem lineF_p (b0 : Nat) (s : ByteArray) (hs : s.size ≤ 100000) (d0 d1 d2 d3 d4 d5 d6 d7 d8 d9 pl : D) (es fs : List (List D)) (hel : es.length ≤ 100000) (hfl : fs.length ≤ 100000) (k : Nat) (hk : k < 3) (hn : nO s = true) (hw : ¬ (wd0 s = hwd k ∧ (nL s).length = (hos k).length)) : PCSX Tryz.prog NGB GB b0 47 [.ref 0 0, .d (.v (.string (s)))] [.tbox [.rs 1, .d (d0), .d (d1), .d (d2), .d (d3), .d (d4), .d (d5), .d (d6), .d (d7), .d (d8), .d (d9), .d (pl), .rs 2, .d (.v (.int .i64 (k : Int)))], .row 37 2 (es), .row 39 8 (fs)] (.d (.v (.bool (false)))) [.tbox [.rs 1, .d (d0), .d (d1), .d (d2), .d (d3), .d (d4), .d (d5), .d (d6), .d (d7), .d (d8), .d (d9), .d (pl), .rs 2, .d (.v (.int .i64 ((k : Int) + 1)))], .row 37 2 (es), .row 39 8 (fs)] := by
 obtain ⟨pl1, pl2⟩ := pcs_len s
 have hw0 : (pcs s)[0]? = some (wd0 s) := by unfold wd0; rw [List.getD_eq_getElem?_getD, List.getElem?_eq_getElem (by omega)]; rfl
 have hps : ∀ x ∈ (pcs s).drop 1, x.size ≤ 100000 := fun x hx => by have := pcs_le (List.mem_of_mem_drop hx); omega
 have hpl : ((pcs s).drop 1).length ≤ 100001 := by rw [List.length_drop]; omega
 refine pcsx_of_awp gb_low Tryz.func47 rfl Tryz.ntmps47 (rs := [.tmp 4]) Tryz.results47 (by simp) 1000 b0 rfl fun w0 hrnd hGB hNG => ?_
 have hG : ∀ w, ExtM w0 w → GW w := fun w h => (hGB w h).1
 refine awp_seq ?_
 refine xa 1 ?_
 refine rg_q (q_a rfl) ?_
 refine rs (xa 3 ?_)
 refine rg_q (q_m rfl) ?_
 refine rg_q (q_call en46 (.cons rfl (.cons rfl .nil)) rfl ((by have h := cut_p s (by omega); rw [← pcs_cut] at h; exact h))) ?_
 refine rg_q (q_assign (x := .d (.sl _ _)) rfl) ?_
 refine rs (awp_seq ?_)
 refine xa 5 ?_
 refine rg_q (q_move (x := .ref _ _) rfl) (rg_q (q_nilCheck_ref rfl) (rg_q (q_fieldAddr_ref fld106_1 rfl) ?_))
 refine rg_q (q_load_tb (x := .d _) sz3 rfl rfl rfl) ?_
 refine rg_q (q_eql rfl rfl) ?_
 refine xc (awp_cond rfl (fun hc2 => ?_) (fun hc2 => ?_))
 ·
  exact absurd (of_decide_eq_true hc2) (by omega)
 ·
  (try simp only [nb, ne_eq] at hc2)
  refine awp_skip ?_
  change Awp _ _ _ _ _
  refine awp_seq ?_
  refine xa 8 ?_
  refine rg_q (q_move (x := .d (.sl _ _)) rfl) ?_
  refine rg_q (q_slice sl90 rfl rfl rfl (by simp only [List.length_map]; omega) (by simp only [List.length_map]; omega) (by exact map_slice _ _ _ _)) ?_
  rw [show (List.map strC (pcs s)).length = (pcs s).length from List.length_map _, List.take_length]
  refine rg_q (q_call en62 (.cons rfl .nil) rfl ((show PC _ _ _ (.tup [.sl 1 ((nL s).map iC), .v (.bool (nO s))]) from rwnums_p ((pcs s).drop 1) hpl hps))) ?_
  refine rg_q (q_move (x := .d (.tup _)) rfl) (rg_q (q_extract rfl rfl) (rg_q (q_extract rfl rfl) (rg_q (q_assign (x := .d (.sl _ _)) rfl) (rg_q (q_a rfl) ?_))))
  refine rs (awp_seq ?_)
  refine xa 2 ?_
  refine rg_q (q_m rfl) (rg_q (q_not rfl) ?_)
  refine xc (awp_cond rfl (fun hc7 => ?_) (fun hc7 => ?_))
  ·
   rw [hn] at hc7; cases hc7
  ·
   (try simp only [nb, ne_eq] at hc7)
   refine awp_skip ?_
   change Awp _ _ _ _ _
   refine awp_seq ?_
   refine awp_seq ?_
   refine xa 5 ?_
   refine rg_q (q_move (x := .ref _ _) rfl) (rg_q (q_nilCheck_ref rfl) (rg_q (q_fieldAddr_ref fld106_1 rfl) ?_))
   refine rg_q (q_load_tb (x := .d _) sz3 rfl rfl rfl) ?_
   refine rg_q (q_eql rfl rfl) ?_
   refine xc (awp_cond rfl (fun hc9 => ?_) (fun hc9 => ?_))
   ·
    exact absurd (of_decide_eq_true hc9) (by omega)
   ·
    (try simp only [nb, ne_eq] at hc9)
    have hw3 : ([.v (.string timS), .v (.string outS), .v (.string bacS)] : List D)[(k : Int).toNat]? = some (.v (.string (hwd k))) := by match k, hk with | 0, _ => rfl | 1, _ => rfl | 2, _ => rfl
    have hn3 : ([.v (.int .i64 2), .v (.int .i64 4), .v (.int .i64 4)] : List D)[((k : Int) + 1 - 1).toNat]? = some (.v (.int .i64 ((hos k).length : Int))) := by match k, hk with | 0, _ => rfl | 1, _ => rfl | 2, _ => rfl
    refine awp_skip ?_
    change Awp _ _ _ _ _
    refine awp_seq ?_
    refine xa 7 ?_
    refine rg_q (q_buildA (cs := [_, _, _]) ar155 zr155 rfl (.cons rfl (by exact .inl rfl) (.cons rfl (by exact .inl rfl) (.cons rfl (by exact .inl rfl) .nil))) ⟨⟨rfl, by decide⟩, ⟨rfl, by decide⟩, ⟨rfl, by decide⟩, trivial⟩ rfl) ?_
    refine rg_q (q_move (x := .ref _ _) rfl) (rg_q (q_nilCheck_ref rfl) (rg_q (q_fieldAddr_ref fld106_1 rfl) ?_))
    refine rg_q (q_load_tb (x := .d _) sz3 rfl rfl rfl) ?_
    refine rg_q (q_index_ar ar155 sz9 rfl rfl (by omega) (by omega) hw3) ?_
    refine rg_q (q_a rfl) ?_
    refine rs (xa 8 ?_)
    refine rg_q (q_move (x := .ref _ _) rfl) (rg_q (q_move (x := .ref _ _) rfl) (rg_q (q_nilCheck_ref rfl) (rg_q (q_fieldAddr_ref fld106_1 rfl) ?_)))
    refine rg_q (q_load_tb (x := .d _) sz3 rfl rfl rfl) ?_
    refine rg_q (q_add rfl rfl xi) ?_
    refine rg_q (q_nilCheck_ref rfl) (rg_q (q_fieldAddr_ref fld106_1 rfl) ?_)
    refine rg_nil ?_
    refine aops_storeT (z := .d _) sz3 rfl rfl rfl rfl (by exact Nat.le_of_ble_eq_true rfl) rfl ?_
    refine aops_nil ?_
    change Awp _ _ _ _ _
    refine awp_seq ?_
    refine awp_seq ?_
    refine xa 17 ?_
    refine rg_q (q_move (x := .d (.sl _ _)) rfl) ?_
    refine rg_q (q_indexAddr sl90 rfl rfl (by omega) (map_at (k := 0) (by omega) hw0)) ?_
    refine rg_q (q_load sz9 rfl rfl) (rg_q (q_m rfl) ?_)
    refine rg_q (q_neqs rfl rfl) ?_
    refine rg_q (q_m rfl) ?_
    refine rg_g rfl rfl (fun hG => (q_move (x := .d (.sl _ _)) rfl)) ?_
    refine rg_g rfl rfl (fun hG => (q_len isl29 rfl (by exact len_map _ _))) ?_
    refine rg_g rfl rfl (fun hG => (q_buildA (cs := [_, _, _]) ar156 zr156 rfl (.cons rfl (by exact .inl rfl) (.cons rfl (by exact .inl rfl) (.cons rfl (by exact .inl rfl) .nil))) ⟨⟨rfl, by decide⟩, ⟨rfl, by decide⟩, ⟨rfl, by decide⟩, trivial⟩ rfl)) ?_
    refine rg_g rfl rfl (fun hG => (q_move (x := .ref _ _) rfl)) ?_
    refine rg_g rfl rfl (fun hG => (q_nilCheck_ref rfl)) ?_
    refine rg_g rfl rfl (fun hG => (q_fieldAddr_ref fld106_1 rfl)) ?_
    refine rg_g rfl rfl (fun hG => (q_load_tb (x := .d _) sz3 rfl rfl rfl)) ?_
    refine rg_g rfl rfl (fun hG => (q_sub rfl rfl (In64.mk (by (have hg0 := T.bool_inj (a := _) hG.1; (try simp only [nb, ne_eq] at hg0); omega)) (by (have hg0 := T.bool_inj (a := _) hG.1; (try simp only [nb, ne_eq] at hg0); omega))))) ?_
    refine rg_g rfl rfl (fun hG => (q_index_ar ar156 sz3 rfl rfl (by (have hg0 := T.bool_inj (a := _) hG.1; (try simp only [nb, ne_eq] at hg0); omega)) (by (have hg0 := T.bool_inj (a := _) hG.1; (try simp only [nb, ne_eq] at hg0); omega)) hn3)) ?_
    refine rg_g rfl rfl (fun hG => (q_neq rfl rfl)) ?_
    refine rg_pick rfl rfl rfl rfl rfl rfl ?_
    refine xc (awp_cond rfl (fun hc17 => ?_) (fun hc17 => ?_))
    ·
     (try simp only [nb, ne_eq] at hc17)
     refine awp_seq ?_
     refine xa 1 ?_
     refine rg_q (q_a rfl) ?_
     refine xc (awp_ret ?_)
     exact end_mk (.inl rfl) [157, 158, 159] (.tmp rfl) (by repeat (first | exact trivial | refine ⟨rfl, ?_⟩)) rfl
    ·
     exfalso
     (try simp only [nb, ne_eq, List.length_map] at hc17)
     exact hw ⟨hc17.1, by omega⟩
theorem lineT0_p (b0 : Nat) (s : ByteArray) (hs : s.size ≤ 100000) (d0 d1 d2 d3 d4 d5 d6 d7 d8 d9 pl : D) (es fs : List (List D)) (hel : es.length ≤ 100000) (hfl : fs.length ≤ 100000) (hn : nO s = true) (hw : wd0 s = timS) (hl : (nL s).length = 2) : PCSX Tryz.prog NGB GB b0 47 [.ref 0 0, .d (.v (.string (s)))] [.tbox [.rs 1, .d (d0), .d (d1), .d (d2), .d (d3), .d (d4), .d (d5), .d (d6), .d (d7), .d (d8), .d (d9), .d (pl), .rs 2, .d (.v (.int .i64 0))], .row 37 2 (es), .row 39 8 (fs)] (.d (.v (.bool (true)))) [.tbox [.rs 1, .d (d0), .d (d1), .d (d2), .d (d3), .d (d4), .d (d5), .d (d6), .d (d7), .d (.v (.int .i64 ((nL s).getD 0 0))), .d (.v (.int .i64 ((nL s).getD 1 0))), .d (pl), .rs 2, .d (.v (.int .i64 ((0 : Int) + 1)))], .row 37 2 (es), .row 39 8 (fs)] := by
 obtain ⟨pl1, pl2⟩ := pcs_len s
 have hw0 : (pcs s)[0]? = some (wd0 s) := by unfold wd0; rw [List.getD_eq_getElem?_getD, List.getElem?_eq_getElem (by omega)]; rfl
 have hps : ∀ x ∈ (pcs s).drop 1, x.size ≤ 100000 := fun x hx => by have := pcs_le (List.mem_of_mem_drop hx); omega
 have hpl : ((pcs s).drop 1).length ≤ 100001 := by rw [List.length_drop]; omega
 refine pcsx_of_awp gb_low Tryz.func47 rfl Tryz.ntmps47 (rs := [.tmp 4]) Tryz.results47 (by simp) 1000 b0 rfl fun w0 hrnd hGB hNG => ?_
 have hG : ∀ w, ExtM w0 w → GW w := fun w h => (hGB w h).1
 refine awp_seq ?_
 refine xa 1 ?_
 refine rg_q (q_a rfl) ?_
 refine rs (xa 3 ?_)
 refine rg_q (q_m rfl) ?_
 refine rg_q (q_call en46 (.cons rfl (.cons rfl .nil)) rfl ((by have h := cut_p s (by omega); rw [← pcs_cut] at h; exact h))) ?_
 refine rg_q (q_assign (x := .d (.sl _ _)) rfl) ?_
 refine rs (awp_seq ?_)
 refine xa 5 ?_
 refine rg_q (q_move (x := .ref _ _) rfl) (rg_q (q_nilCheck_ref rfl) (rg_q (q_fieldAddr_ref fld106_1 rfl) ?_))
 refine rg_q (q_load_tb (x := .d _) sz3 rfl rfl rfl) ?_
 refine rg_q (q_eql rfl rfl) ?_
 refine xc (awp_cond rfl (fun hc2 => ?_) (fun hc2 => ?_))
 ·
  cases hc2
 ·
  (try simp only [nb, ne_eq] at hc2)
  refine awp_skip ?_
  change Awp _ _ _ _ _
  refine awp_seq ?_
  refine xa 8 ?_
  refine rg_q (q_move (x := .d (.sl _ _)) rfl) ?_
  refine rg_q (q_slice sl90 rfl rfl rfl (by simp only [List.length_map]; omega) (by simp only [List.length_map]; omega) (by exact map_slice _ _ _ _)) ?_
  rw [show (List.map strC (pcs s)).length = (pcs s).length from List.length_map _, List.take_length]
  refine rg_q (q_call en62 (.cons rfl .nil) rfl ((show PC _ _ _ (.tup [.sl 1 ((nL s).map iC), .v (.bool (nO s))]) from rwnums_p ((pcs s).drop 1) hpl hps))) ?_
  refine rg_q (q_move (x := .d (.tup _)) rfl) (rg_q (q_extract rfl rfl) (rg_q (q_extract rfl rfl) (rg_q (q_assign (x := .d (.sl _ _)) rfl) (rg_q (q_a rfl) ?_))))
  refine rs (awp_seq ?_)
  refine xa 2 ?_
  refine rg_q (q_m rfl) (rg_q (q_not rfl) ?_)
  refine xc (awp_cond rfl (fun hc7 => ?_) (fun hc7 => ?_))
  ·
   rw [hn] at hc7; cases hc7
  ·
   (try simp only [nb, ne_eq] at hc7)
   refine awp_skip ?_
   change Awp _ _ _ _ _
   refine awp_seq ?_
   refine awp_seq ?_
   refine xa 5 ?_
   refine rg_q (q_move (x := .ref _ _) rfl) (rg_q (q_nilCheck_ref rfl) (rg_q (q_fieldAddr_ref fld106_1 rfl) ?_))
   refine rg_q (q_load_tb (x := .d _) sz3 rfl rfl rfl) ?_
   refine rg_q (q_eql rfl rfl) ?_
   refine xc (awp_cond rfl (fun hc9 => ?_) (fun hc9 => ?_))
   ·
    cases hc9
   ·
    (try simp only [nb, ne_eq] at hc9)
    have hw3 : ([.v (.string timS), .v (.string outS), .v (.string bacS)] : List D)[(0 : Int).toNat]? = some (.v (.string timS)) := rfl
    have hn3 : ([.v (.int .i64 2), .v (.int .i64 4), .v (.int .i64 4)] : List D)[((0 : Int) + 1 - 1).toNat]? = some (.v (.int .i64 2)) := rfl
    refine awp_skip ?_
    change Awp _ _ _ _ _
    refine awp_seq ?_
    refine xa 7 ?_
    refine rg_q (q_buildA (cs := [_, _, _]) ar155 zr155 rfl (.cons rfl (by exact .inl rfl) (.cons rfl (by exact .inl rfl) (.cons rfl (by exact .inl rfl) .nil))) ⟨⟨rfl, by decide⟩, ⟨rfl, by decide⟩, ⟨rfl, by decide⟩, trivial⟩ rfl) ?_
    refine rg_q (q_move (x := .ref _ _) rfl) (rg_q (q_nilCheck_ref rfl) (rg_q (q_fieldAddr_ref fld106_1 rfl) ?_))
    refine rg_q (q_load_tb (x := .d _) sz3 rfl rfl rfl) ?_
    refine rg_q (q_index_ar ar155 sz9 rfl rfl (by omega) (by omega) hw3) ?_
    refine rg_q (q_a rfl) ?_
    refine rs (xa 8 ?_)
    refine rg_q (q_move (x := .ref _ _) rfl) (rg_q (q_move (x := .ref _ _) rfl) (rg_q (q_nilCheck_ref rfl) (rg_q (q_fieldAddr_ref fld106_1 rfl) ?_)))
    refine rg_q (q_load_tb (x := .d _) sz3 rfl rfl rfl) ?_
    refine rg_q (q_add rfl rfl xi) ?_
    refine rg_q (q_nilCheck_ref rfl) (rg_q (q_fieldAddr_ref fld106_1 rfl) ?_)
    refine rg_nil ?_
    refine aops_storeT (z := .d _) sz3 rfl rfl rfl rfl (by exact Nat.le_of_ble_eq_true rfl) rfl ?_
    refine aops_nil ?_
    change Awp _ _ _ _ _
    refine awp_seq ?_
    refine awp_seq ?_
    refine xa 17 ?_
    refine rg_q (q_move (x := .d (.sl _ _)) rfl) ?_
    refine rg_q (q_indexAddr sl90 rfl rfl (by omega) (map_at (k := 0) (by omega) hw0)) ?_
    refine rg_q (q_load sz9 rfl rfl) (rg_q (q_m rfl) ?_)
    refine rg_q (q_neqs rfl rfl) ?_
    refine rg_q (q_m rfl) ?_
    refine rg_g rfl rfl (fun hG => (q_move (x := .d (.sl _ _)) rfl)) ?_
    refine rg_g rfl rfl (fun hG => (q_len isl29 rfl (by exact len_map _ _))) ?_
    refine rg_g rfl rfl (fun hG => (q_buildA (cs := [_, _, _]) ar156 zr156 rfl (.cons rfl (by exact .inl rfl) (.cons rfl (by exact .inl rfl) (.cons rfl (by exact .inl rfl) .nil))) ⟨⟨rfl, by decide⟩, ⟨rfl, by decide⟩, ⟨rfl, by decide⟩, trivial⟩ rfl)) ?_
    refine rg_g rfl rfl (fun hG => (q_move (x := .ref _ _) rfl)) ?_
    refine rg_g rfl rfl (fun hG => (q_nilCheck_ref rfl)) ?_
    refine rg_g rfl rfl (fun hG => (q_fieldAddr_ref fld106_1 rfl)) ?_
    refine rg_g rfl rfl (fun hG => (q_load_tb (x := .d _) sz3 rfl rfl rfl)) ?_
    refine rg_g rfl rfl (fun hG => (q_sub rfl rfl (In64.mk (by (have hg0 := T.bool_inj (a := _) hG.1; (try simp only [nb, ne_eq] at hg0); omega)) (by (have hg0 := T.bool_inj (a := _) hG.1; (try simp only [nb, ne_eq] at hg0); omega))))) ?_
    refine rg_g rfl rfl (fun hG => (q_index_ar ar156 sz3 rfl rfl (by (have hg0 := T.bool_inj (a := _) hG.1; (try simp only [nb, ne_eq] at hg0); omega)) (by (have hg0 := T.bool_inj (a := _) hG.1; (try simp only [nb, ne_eq] at hg0); omega)) hn3)) ?_
    refine rg_g rfl rfl (fun hG => (q_neq rfl rfl)) ?_
    refine rg_pick rfl rfl rfl rfl rfl rfl ?_
    refine xc (awp_cond rfl (fun hc17 => ?_) (fun hc17 => ?_))
    ·
     exfalso
     (try simp only [nb, ne_eq, List.length_map] at hc17)
     rcases hc17 with q | q
     · exact q hw
     · omega
    ·
     (try simp only [nb, ne_eq] at hc17)
     refine awp_skip ?_
     change Awp _ _ _ _ _
     refine awp_seq ?_
     refine awp_seq ?_
     refine xa 1 ?_
     refine rg_q (q_m rfl) ?_
     refine xc (awp_block ?_)
     refine awp_seq ?_
     refine xa 2 ?_
     refine rg_q (q_eqls rfl rfl) ?_
     refine rg_q (q_a rfl) ?_
     refine xc (awp_cond rfl (fun hc21 => ?_) (fun hc21 => ?_))
     ·
      (try simp only [nb, ne_eq] at hc21)
      refine xa 12 ?_
      refine rg_q (q_move (x := .ref _ _) rfl) (rg_q (q_move (x := .d (.sl _ _)) rfl) ?_)
      refine rg_q (q_indexAddr sl29 rfl rfl (by omega) (map_at (k := 0) (by omega) (at_of 0 (by omega)))) ?_
      refine rg_q (q_load sz3 rfl rfl) (rg_q (q_move (x := .d (.sl _ _)) rfl) ?_)
      refine rg_q (q_indexAddr sl29 rfl rfl (by omega) (map_at (k := 1) (by omega) (at_of 1 (by omega)))) ?_
      refine rg_q (q_load sz3 rfl rfl) ?_
      refine rg_q (q_build (cs := [_, _]) pl26 zr26 rfl (.cons rfl (by exact .inl rfl) (.cons rfl (by exact .inl rfl) .nil)) ⟨⟨rfl, by decide⟩, ⟨rfl, by decide⟩, trivial⟩ rfl) ?_
      refine rg_q (q_nilCheck_ref rfl) (rg_q (q_fieldAddr_ref fld106_0 rfl) (rg_q (q_fieldAddr_ref fld32_0 rfl) (rg_q (q_fieldAddr_ref fld28_3 rfl) ?_)))
      refine rg_nil ?_
      refine aops_storeTA sz26 rfl rfl (by exact .inr ⟨_, rfl⟩) rfl rfl (by exact Nat.le_of_ble_eq_true rfl) rfl ?_
      refine aops_nil ?_
      change Awp _ _ _ _ _
      refine awp_seq ?_
      refine xa 1 ?_
      refine rg_q (q_a rfl) ?_
      refine xc (awp_ret ?_)
      exact end_mk (.inl rfl) [157, 158, 159] (.tmp rfl) (by repeat (first | exact trivial | refine ⟨rfl, ?_⟩)) rfl
     ·
      exact absurd (of_decide_eq_false hc21) (by decide)
theorem lineT1_p (b0 : Nat) (s : ByteArray) (hs : s.size ≤ 100000) (d0 d1 d2 d3 d4 d5 d6 d7 d8 d9 pl : D) (es fs : List (List D)) (hel : es.length ≤ 100000) (hfl : fs.length ≤ 100000) (hn : nO s = true) (hw : wd0 s = outS) (hl : (nL s).length = 4) : PCSX Tryz.prog NGB GB b0 47 [.ref 0 0, .d (.v (.string (s)))] [.tbox [.rs 1, .d (d0), .d (d1), .d (d2), .d (d3), .d (d4), .d (d5), .d (d6), .d (d7), .d (d8), .d (d9), .d (pl), .rs 2, .d (.v (.int .i64 1))], .row 37 2 (es), .row 39 8 (fs)] (.d (.v (.bool (true)))) [.tbox [.rs 1, .d (.v (.int .i64 ((nL s).getD 0 0))), .d (.v (.int .i64 ((nL s).getD 1 0))), .d (.v (.int .i64 ((nL s).getD 2 0))), .d (.v (.int .i64 ((nL s).getD 3 0))), .d (d4), .d (d5), .d (d6), .d (d7), .d (d8), .d (d9), .d (pl), .rs 2, .d (.v (.int .i64 ((1 : Int) + 1)))], .row 37 2 (es), .row 39 8 (fs)] := by
 obtain ⟨pl1, pl2⟩ := pcs_len s
 have hw0 : (pcs s)[0]? = some (wd0 s) := by unfold wd0; rw [List.getD_eq_getElem?_getD, List.getElem?_eq_getElem (by omega)]; rfl
 have hps : ∀ x ∈ (pcs s).drop 1, x.size ≤ 100000 := fun x hx => by have := pcs_le (List.mem_of_mem_drop hx); omega
 have hpl : ((pcs s).drop 1).length ≤ 100001 := by rw [List.length_drop]; omega
 refine pcsx_of_awp gb_low Tryz.func47 rfl Tryz.ntmps47 (rs := [.tmp 4]) Tryz.results47 (by simp) 1000 b0 rfl fun w0 hrnd hGB hNG => ?_
 have hG : ∀ w, ExtM w0 w → GW w := fun w h => (hGB w h).1
 refine awp_seq ?_
 refine xa 1 ?_
 refine rg_q (q_a rfl) ?_
 refine rs (xa 3 ?_)
 refine rg_q (q_m rfl) ?_
 refine rg_q (q_call en46 (.cons rfl (.cons rfl .nil)) rfl ((by have h := cut_p s (by omega); rw [← pcs_cut] at h; exact h))) ?_
 refine rg_q (q_assign (x := .d (.sl _ _)) rfl) ?_
 refine rs (awp_seq ?_)
 refine xa 5 ?_
 refine rg_q (q_move (x := .ref _ _) rfl) (rg_q (q_nilCheck_ref rfl) (rg_q (q_fieldAddr_ref fld106_1 rfl) ?_))
 refine rg_q (q_load_tb (x := .d _) sz3 rfl rfl rfl) ?_
 refine rg_q (q_eql rfl rfl) ?_
 refine xc (awp_cond rfl (fun hc2 => ?_) (fun hc2 => ?_))
 ·
  cases hc2
 ·
  (try simp only [nb, ne_eq] at hc2)
  refine awp_skip ?_
  change Awp _ _ _ _ _
  refine awp_seq ?_
  refine xa 8 ?_
  refine rg_q (q_move (x := .d (.sl _ _)) rfl) ?_
  refine rg_q (q_slice sl90 rfl rfl rfl (by simp only [List.length_map]; omega) (by simp only [List.length_map]; omega) (by exact map_slice _ _ _ _)) ?_
  rw [show (List.map strC (pcs s)).length = (pcs s).length from List.length_map _, List.take_length]
  refine rg_q (q_call en62 (.cons rfl .nil) rfl ((show PC _ _ _ (.tup [.sl 1 ((nL s).map iC), .v (.bool (nO s))]) from rwnums_p ((pcs s).drop 1) hpl hps))) ?_
  refine rg_q (q_move (x := .d (.tup _)) rfl) (rg_q (q_extract rfl rfl) (rg_q (q_extract rfl rfl) (rg_q (q_assign (x := .d (.sl _ _)) rfl) (rg_q (q_a rfl) ?_))))
  refine rs (awp_seq ?_)
  refine xa 2 ?_
  refine rg_q (q_m rfl) (rg_q (q_not rfl) ?_)
  refine xc (awp_cond rfl (fun hc7 => ?_) (fun hc7 => ?_))
  ·
   rw [hn] at hc7; cases hc7
  ·
   (try simp only [nb, ne_eq] at hc7)
   refine awp_skip ?_
   change Awp _ _ _ _ _
   refine awp_seq ?_
   refine awp_seq ?_
   refine xa 5 ?_
   refine rg_q (q_move (x := .ref _ _) rfl) (rg_q (q_nilCheck_ref rfl) (rg_q (q_fieldAddr_ref fld106_1 rfl) ?_))
   refine rg_q (q_load_tb (x := .d _) sz3 rfl rfl rfl) ?_
   refine rg_q (q_eql rfl rfl) ?_
   refine xc (awp_cond rfl (fun hc9 => ?_) (fun hc9 => ?_))
   ·
    cases hc9
   ·
    (try simp only [nb, ne_eq] at hc9)
    have hw3 : ([.v (.string timS), .v (.string outS), .v (.string bacS)] : List D)[(1 : Int).toNat]? = some (.v (.string outS)) := rfl
    have hn3 : ([.v (.int .i64 2), .v (.int .i64 4), .v (.int .i64 4)] : List D)[((1 : Int) + 1 - 1).toNat]? = some (.v (.int .i64 4)) := rfl
    refine awp_skip ?_
    change Awp _ _ _ _ _
    refine awp_seq ?_
    refine xa 7 ?_
    refine rg_q (q_buildA (cs := [_, _, _]) ar155 zr155 rfl (.cons rfl (by exact .inl rfl) (.cons rfl (by exact .inl rfl) (.cons rfl (by exact .inl rfl) .nil))) ⟨⟨rfl, by decide⟩, ⟨rfl, by decide⟩, ⟨rfl, by decide⟩, trivial⟩ rfl) ?_
    refine rg_q (q_move (x := .ref _ _) rfl) (rg_q (q_nilCheck_ref rfl) (rg_q (q_fieldAddr_ref fld106_1 rfl) ?_))
    refine rg_q (q_load_tb (x := .d _) sz3 rfl rfl rfl) ?_
    refine rg_q (q_index_ar ar155 sz9 rfl rfl (by omega) (by omega) hw3) ?_
    refine rg_q (q_a rfl) ?_
    refine rs (xa 8 ?_)
    refine rg_q (q_move (x := .ref _ _) rfl) (rg_q (q_move (x := .ref _ _) rfl) (rg_q (q_nilCheck_ref rfl) (rg_q (q_fieldAddr_ref fld106_1 rfl) ?_)))
    refine rg_q (q_load_tb (x := .d _) sz3 rfl rfl rfl) ?_
    refine rg_q (q_add rfl rfl xi) ?_
    refine rg_q (q_nilCheck_ref rfl) (rg_q (q_fieldAddr_ref fld106_1 rfl) ?_)
    refine rg_nil ?_
    refine aops_storeT (z := .d _) sz3 rfl rfl rfl rfl (by exact Nat.le_of_ble_eq_true rfl) rfl ?_
    refine aops_nil ?_
    change Awp _ _ _ _ _
    refine awp_seq ?_
    refine awp_seq ?_
    refine xa 17 ?_
    refine rg_q (q_move (x := .d (.sl _ _)) rfl) ?_
    refine rg_q (q_indexAddr sl90 rfl rfl (by omega) (map_at (k := 0) (by omega) hw0)) ?_
    refine rg_q (q_load sz9 rfl rfl) (rg_q (q_m rfl) ?_)
    refine rg_q (q_neqs rfl rfl) ?_
    refine rg_q (q_m rfl) ?_
    refine rg_g rfl rfl (fun hG => (q_move (x := .d (.sl _ _)) rfl)) ?_
    refine rg_g rfl rfl (fun hG => (q_len isl29 rfl (by exact len_map _ _))) ?_
    refine rg_g rfl rfl (fun hG => (q_buildA (cs := [_, _, _]) ar156 zr156 rfl (.cons rfl (by exact .inl rfl) (.cons rfl (by exact .inl rfl) (.cons rfl (by exact .inl rfl) .nil))) ⟨⟨rfl, by decide⟩, ⟨rfl, by decide⟩, ⟨rfl, by decide⟩, trivial⟩ rfl)) ?_
    refine rg_g rfl rfl (fun hG => (q_move (x := .ref _ _) rfl)) ?_
    refine rg_g rfl rfl (fun hG => (q_nilCheck_ref rfl)) ?_
    refine rg_g rfl rfl (fun hG => (q_fieldAddr_ref fld106_1 rfl)) ?_
    refine rg_g rfl rfl (fun hG => (q_load_tb (x := .d _) sz3 rfl rfl rfl)) ?_
    refine rg_g rfl rfl (fun hG => (q_sub rfl rfl (In64.mk (by (have hg0 := T.bool_inj (a := _) hG.1; (try simp only [nb, ne_eq] at hg0); omega)) (by (have hg0 := T.bool_inj (a := _) hG.1; (try simp only [nb, ne_eq] at hg0); omega))))) ?_
    refine rg_g rfl rfl (fun hG => (q_index_ar ar156 sz3 rfl rfl (by (have hg0 := T.bool_inj (a := _) hG.1; (try simp only [nb, ne_eq] at hg0); omega)) (by (have hg0 := T.bool_inj (a := _) hG.1; (try simp only [nb, ne_eq] at hg0); omega)) hn3)) ?_
    refine rg_g rfl rfl (fun hG => (q_neq rfl rfl)) ?_
    refine rg_pick rfl rfl rfl rfl rfl rfl ?_
    refine xc (awp_cond rfl (fun hc17 => ?_) (fun hc17 => ?_))
    ·
     exfalso
     (try simp only [nb, ne_eq, List.length_map] at hc17)
     rcases hc17 with q | q
     · exact q hw
     · omega
    ·
     (try simp only [nb, ne_eq] at hc17)
     refine awp_skip ?_
     change Awp _ _ _ _ _
     refine awp_seq ?_
     refine awp_seq ?_
     refine xa 1 ?_
     refine rg_q (q_m rfl) ?_
     refine xc (awp_block ?_)
     refine awp_seq ?_
     refine xa 2 ?_
     refine rg_q (q_eqls rfl rfl) ?_
     refine rg_q (q_a rfl) ?_
     refine xc (awp_cond rfl (fun hc21 => ?_) (fun hc21 => ?_))
     ·
      exact absurd (of_decide_eq_true hc21) (by decide)
     ·
      (try simp only [nb, ne_eq] at hc21)
      refine awp_seq ?_
      refine xa 2 ?_
      refine rg_q (q_eqls rfl rfl) ?_
      refine rg_q (q_a rfl) ?_
      refine xc (awp_cond rfl (fun hc23 => ?_) (fun hc23 => ?_))
      ·
       (try simp only [nb, ne_eq] at hc23)
       refine xa 7 ?_
       refine rg_q (q_move (x := .ref _ _) rfl) (rg_q (q_move (x := .d (.sl _ _)) rfl) ?_)
       refine rg_q (q_call en81 (.cons rfl .nil) rfl (rmodeOf_p (nL s) hl)) ?_
       refine rg_q (q_nilCheck_ref rfl) (rg_q (q_fieldAddr_ref fld106_0 rfl) (rg_q (q_fieldAddr_ref fld32_0 rfl) (rg_q (q_fieldAddr_ref fld28_1 rfl) ?_)))
       refine rg_nil ?_
       refine aops_storeTA sz24 rfl rfl (by exact .inr ⟨_, rfl⟩) rfl rfl (by exact Nat.le_of_ble_eq_true rfl) rfl ?_
       refine aops_nil ?_
       change Awp _ _ _ _ _
       refine awp_seq ?_
       refine xa 1 ?_
       refine rg_q (q_a rfl) ?_
       refine xc (awp_ret ?_)
       exact end_mk (.inl rfl) [157, 158, 159] (.tmp rfl) (by repeat (first | exact trivial | refine ⟨rfl, ?_⟩)) rfl
      ·
       exact absurd (of_decide_eq_false hc23) (by decide)
theorem lineT2_p (b0 : Nat) (s : ByteArray) (hs : s.size ≤ 100000) (d0 d1 d2 d3 d4 d5 d6 d7 d8 d9 pl : D) (es fs : List (List D)) (hel : es.length ≤ 100000) (hfl : fs.length ≤ 100000) (hn : nO s = true) (hw : wd0 s = bacS) (hl : (nL s).length = 4) : PCSX Tryz.prog NGB GB b0 47 [.ref 0 0, .d (.v (.string (s)))] [.tbox [.rs 1, .d (d0), .d (d1), .d (d2), .d (d3), .d (d4), .d (d5), .d (d6), .d (d7), .d (d8), .d (d9), .d (pl), .rs 2, .d (.v (.int .i64 2))], .row 37 2 (es), .row 39 8 (fs)] (.d (.v (.bool (true)))) [.tbox [.rs 1, .d (d0), .d (d1), .d (d2), .d (d3), .d (.v (.int .i64 ((nL s).getD 0 0))), .d (.v (.int .i64 ((nL s).getD 1 0))), .d (.v (.int .i64 ((nL s).getD 2 0))), .d (.v (.int .i64 ((nL s).getD 3 0))), .d (d8), .d (d9), .d (pl), .rs 2, .d (.v (.int .i64 ((2 : Int) + 1)))], .row 37 2 (es), .row 39 8 (fs)] := by
 obtain ⟨pl1, pl2⟩ := pcs_len s
 have hw0 : (pcs s)[0]? = some (wd0 s) := by unfold wd0; rw [List.getD_eq_getElem?_getD, List.getElem?_eq_getElem (by omega)]; rfl
 have hps : ∀ x ∈ (pcs s).drop 1, x.size ≤ 100000 := fun x hx => by have := pcs_le (List.mem_of_mem_drop hx); omega
 have hpl : ((pcs s).drop 1).length ≤ 100001 := by rw [List.length_drop]; omega
 refine pcsx_of_awp gb_low Tryz.func47 rfl Tryz.ntmps47 (rs := [.tmp 4]) Tryz.results47 (by simp) 1000 b0 rfl fun w0 hrnd hGB hNG => ?_
 have hG : ∀ w, ExtM w0 w → GW w := fun w h => (hGB w h).1
 refine awp_seq ?_
 refine xa 1 ?_
 refine rg_q (q_a rfl) ?_
 refine rs (xa 3 ?_)
 refine rg_q (q_m rfl) ?_
 refine rg_q (q_call en46 (.cons rfl (.cons rfl .nil)) rfl ((by have h := cut_p s (by omega); rw [← pcs_cut] at h; exact h))) ?_
 refine rg_q (q_assign (x := .d (.sl _ _)) rfl) ?_
 refine rs (awp_seq ?_)
 refine xa 5 ?_
 refine rg_q (q_move (x := .ref _ _) rfl) (rg_q (q_nilCheck_ref rfl) (rg_q (q_fieldAddr_ref fld106_1 rfl) ?_))
 refine rg_q (q_load_tb (x := .d _) sz3 rfl rfl rfl) ?_
 refine rg_q (q_eql rfl rfl) ?_
 refine xc (awp_cond rfl (fun hc2 => ?_) (fun hc2 => ?_))
 ·
  cases hc2
 ·
  (try simp only [nb, ne_eq] at hc2)
  refine awp_skip ?_
  change Awp _ _ _ _ _
  refine awp_seq ?_
  refine xa 8 ?_
  refine rg_q (q_move (x := .d (.sl _ _)) rfl) ?_
  refine rg_q (q_slice sl90 rfl rfl rfl (by simp only [List.length_map]; omega) (by simp only [List.length_map]; omega) (by exact map_slice _ _ _ _)) ?_
  rw [show (List.map strC (pcs s)).length = (pcs s).length from List.length_map _, List.take_length]
  refine rg_q (q_call en62 (.cons rfl .nil) rfl ((show PC _ _ _ (.tup [.sl 1 ((nL s).map iC), .v (.bool (nO s))]) from rwnums_p ((pcs s).drop 1) hpl hps))) ?_
  refine rg_q (q_move (x := .d (.tup _)) rfl) (rg_q (q_extract rfl rfl) (rg_q (q_extract rfl rfl) (rg_q (q_assign (x := .d (.sl _ _)) rfl) (rg_q (q_a rfl) ?_))))
  refine rs (awp_seq ?_)
  refine xa 2 ?_
  refine rg_q (q_m rfl) (rg_q (q_not rfl) ?_)
  refine xc (awp_cond rfl (fun hc7 => ?_) (fun hc7 => ?_))
  ·
   rw [hn] at hc7; cases hc7
  ·
   (try simp only [nb, ne_eq] at hc7)
   refine awp_skip ?_
   change Awp _ _ _ _ _
   refine awp_seq ?_
   refine awp_seq ?_
   refine xa 5 ?_
   refine rg_q (q_move (x := .ref _ _) rfl) (rg_q (q_nilCheck_ref rfl) (rg_q (q_fieldAddr_ref fld106_1 rfl) ?_))
   refine rg_q (q_load_tb (x := .d _) sz3 rfl rfl rfl) ?_
   refine rg_q (q_eql rfl rfl) ?_
   refine xc (awp_cond rfl (fun hc9 => ?_) (fun hc9 => ?_))
   ·
    cases hc9
   ·
    (try simp only [nb, ne_eq] at hc9)
    have hw3 : ([.v (.string timS), .v (.string outS), .v (.string bacS)] : List D)[(2 : Int).toNat]? = some (.v (.string bacS)) := rfl
    have hn3 : ([.v (.int .i64 2), .v (.int .i64 4), .v (.int .i64 4)] : List D)[((2 : Int) + 1 - 1).toNat]? = some (.v (.int .i64 4)) := rfl
    refine awp_skip ?_
    change Awp _ _ _ _ _
    refine awp_seq ?_
    refine xa 7 ?_
    refine rg_q (q_buildA (cs := [_, _, _]) ar155 zr155 rfl (.cons rfl (by exact .inl rfl) (.cons rfl (by exact .inl rfl) (.cons rfl (by exact .inl rfl) .nil))) ⟨⟨rfl, by decide⟩, ⟨rfl, by decide⟩, ⟨rfl, by decide⟩, trivial⟩ rfl) ?_
    refine rg_q (q_move (x := .ref _ _) rfl) (rg_q (q_nilCheck_ref rfl) (rg_q (q_fieldAddr_ref fld106_1 rfl) ?_))
    refine rg_q (q_load_tb (x := .d _) sz3 rfl rfl rfl) ?_
    refine rg_q (q_index_ar ar155 sz9 rfl rfl (by omega) (by omega) hw3) ?_
    refine rg_q (q_a rfl) ?_
    refine rs (xa 8 ?_)
    refine rg_q (q_move (x := .ref _ _) rfl) (rg_q (q_move (x := .ref _ _) rfl) (rg_q (q_nilCheck_ref rfl) (rg_q (q_fieldAddr_ref fld106_1 rfl) ?_)))
    refine rg_q (q_load_tb (x := .d _) sz3 rfl rfl rfl) ?_
    refine rg_q (q_add rfl rfl xi) ?_
    refine rg_q (q_nilCheck_ref rfl) (rg_q (q_fieldAddr_ref fld106_1 rfl) ?_)
    refine rg_nil ?_
    refine aops_storeT (z := .d _) sz3 rfl rfl rfl rfl (by exact Nat.le_of_ble_eq_true rfl) rfl ?_
    refine aops_nil ?_
    change Awp _ _ _ _ _
    refine awp_seq ?_
    refine awp_seq ?_
    refine xa 17 ?_
    refine rg_q (q_move (x := .d (.sl _ _)) rfl) ?_
    refine rg_q (q_indexAddr sl90 rfl rfl (by omega) (map_at (k := 0) (by omega) hw0)) ?_
    refine rg_q (q_load sz9 rfl rfl) (rg_q (q_m rfl) ?_)
    refine rg_q (q_neqs rfl rfl) ?_
    refine rg_q (q_m rfl) ?_
    refine rg_g rfl rfl (fun hG => (q_move (x := .d (.sl _ _)) rfl)) ?_
    refine rg_g rfl rfl (fun hG => (q_len isl29 rfl (by exact len_map _ _))) ?_
    refine rg_g rfl rfl (fun hG => (q_buildA (cs := [_, _, _]) ar156 zr156 rfl (.cons rfl (by exact .inl rfl) (.cons rfl (by exact .inl rfl) (.cons rfl (by exact .inl rfl) .nil))) ⟨⟨rfl, by decide⟩, ⟨rfl, by decide⟩, ⟨rfl, by decide⟩, trivial⟩ rfl)) ?_
    refine rg_g rfl rfl (fun hG => (q_move (x := .ref _ _) rfl)) ?_
    refine rg_g rfl rfl (fun hG => (q_nilCheck_ref rfl)) ?_
    refine rg_g rfl rfl (fun hG => (q_fieldAddr_ref fld106_1 rfl)) ?_
    refine rg_g rfl rfl (fun hG => (q_load_tb (x := .d _) sz3 rfl rfl rfl)) ?_
    refine rg_g rfl rfl (fun hG => (q_sub rfl rfl (In64.mk (by (have hg0 := T.bool_inj (a := _) hG.1; (try simp only [nb, ne_eq] at hg0); omega)) (by (have hg0 := T.bool_inj (a := _) hG.1; (try simp only [nb, ne_eq] at hg0); omega))))) ?_
    refine rg_g rfl rfl (fun hG => (q_index_ar ar156 sz3 rfl rfl (by (have hg0 := T.bool_inj (a := _) hG.1; (try simp only [nb, ne_eq] at hg0); omega)) (by (have hg0 := T.bool_inj (a := _) hG.1; (try simp only [nb, ne_eq] at hg0); omega)) hn3)) ?_
    refine rg_g rfl rfl (fun hG => (q_neq rfl rfl)) ?_
    refine rg_pick rfl rfl rfl rfl rfl rfl ?_
    refine xc (awp_cond rfl (fun hc17 => ?_) (fun hc17 => ?_))
    ·
     exfalso
     (try simp only [nb, ne_eq, List.length_map] at hc17)
     rcases hc17 with q | q
     · exact q hw
     · omega
    ·
     (try simp only [nb, ne_eq] at hc17)
     refine awp_skip ?_
     change Awp _ _ _ _ _
     refine awp_seq ?_
     refine awp_seq ?_
     refine xa 1 ?_
     refine rg_q (q_m rfl) ?_
     refine xc (awp_block ?_)
     refine awp_seq ?_
     refine xa 2 ?_
     refine rg_q (q_eqls rfl rfl) ?_
     refine rg_q (q_a rfl) ?_
     refine xc (awp_cond rfl (fun hc21 => ?_) (fun hc21 => ?_))
     ·
      exact absurd (of_decide_eq_true hc21) (by decide)
     ·
      (try simp only [nb, ne_eq] at hc21)
      refine awp_seq ?_
      refine xa 2 ?_
      refine rg_q (q_eqls rfl rfl) ?_
      refine rg_q (q_a rfl) ?_
      refine xc (awp_cond rfl (fun hc23 => ?_) (fun hc23 => ?_))
      ·
       exact absurd (of_decide_eq_true hc23) (by decide)
      ·
       (try simp only [nb, ne_eq] at hc23)
       refine xa 7 ?_
       refine rg_q (q_move (x := .ref _ _) rfl) (rg_q (q_move (x := .d (.sl _ _)) rfl) ?_)
       refine rg_q (q_call en81 (.cons rfl .nil) rfl (rmodeOf_p (nL s) hl)) ?_
       refine rg_q (q_nilCheck_ref rfl) (rg_q (q_fieldAddr_ref fld106_0 rfl) (rg_q (q_fieldAddr_ref fld32_0 rfl) (rg_q (q_fieldAddr_ref fld28_2 rfl) ?_)))
       refine rg_nil ?_
       refine aops_storeTA sz24 rfl rfl (by exact .inr ⟨_, rfl⟩) rfl rfl (by exact Nat.le_of_ble_eq_true rfl) rfl ?_
       refine aops_nil ?_
       change Awp _ _ _ _ _
       refine awp_seq ?_
       refine xa 1 ?_
       refine rg_q (q_a rfl) ?_
       refine xc (awp_ret ?_)
       exact end_mk (.inl rfl) [157, 158, 159] (.tmp rfl) (by repeat (first | exact trivial | refine ⟨rfl, ?_⟩)) rfl
end Go.Proofs.YtkbdnkjjklbddaaGreatDoor.Am.M
