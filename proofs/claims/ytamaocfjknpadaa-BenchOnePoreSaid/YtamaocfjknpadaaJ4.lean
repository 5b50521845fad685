/- Contracts over the abstract machine, joined. Conditions: none. -/
import Derived.Test.YtamaocfjknpadaaJ3
import Derived.Test.YtamaocfjknpadaaAm57
import Derived.Test.YtamaocfjknpadaaAm58
import Derived.Test.YtamaocfjknpadaaAmF
set_option linter.unusedVariables false
set_option linter.unusedSimpArgs false
-- mini
set_option maxRecDepth 100000
namespace Go.Proofs.Ytamaocfjknpadaa.Am.M
open Go

theorem fl_a0 {s : Spc} (h : (s.fl.length : Int) = 1) : s.fl[0]? = some (s.fl.getD 0 ⟨0, (0, 0), (0, 0), 0, 0, 0⟩) := by
  rw [List.getD_eq_getElem?_getD, List.getElem?_eq_getElem (by omega)]; rfl
theorem mv_two {s : Spc} {b : Int} (h0 : (ckSpc s).2 = 0) (ha : ¬ s.fl.all (mvB b) = true) : (mvR s b).2 = 2 := by
  unfold mvR
  rw [if_neg (fun q => q h0)]
  unfold mvR0
  by_cases h : inR (-100000) b 100000 = true
  · rw [if_pos h, if_neg ha]
  · rw [if_neg h]
theorem fd_inj : ∀ {l m : List Nat}, l.map fd = m.map fd → l = m
  | [], [], _ => rfl
  | [], _ :: _, h => by cases h
  | _ :: _, [], h => by cases h
  | a :: l, b :: m, h => by
    obtain ⟨h1, h2⟩ := List.cons.inj h
    have e : a = b := by unfold fd at h1; cases h1; rfl
    rw [e, fd_inj h2]
set_option maxHeartbeats 4000000 in
theorem onePoreE_p (s : Spc) (pr : Int × Int) (b : Int) (hal : ¬ s.fl.all (mvB b) = true) : PC Try.prog 4 [.agg (spcC s), .agg (shC pr), .v (.int .i64 (b))] (.v (.bool (true))) := by
 refine pc_of_awpN Try.func4 rfl Try.ntmps4 (rs := [.tmp 6]) Try.results4 (by simp) fun w0 hmine hrnd hpn => ?_
 refine awp_seq ?_
 refine xa 3 ?_
 refine rg_q (q_box rfl (by exact .inr ⟨_, rfl⟩)) ?_
 refine rg_q (q_box rfl (by exact .inr ⟨_, rfl⟩)) ?_
 refine rg_q (q_a rfl) ?_
 refine rs (awp_seq ?_)
 refine xa 2 ?_
 refine rg_q (q_call en6 .nil rfl (awake_p)) ?_
 refine rg_q (q_not rfl) ?_
 refine xc (awp_cond rfl (fun hc1 => ?_) (fun hc1 => ?_))
 ·
  simp at hc1
 ·
  (try simp only [nb, ne_eq] at hc1)
  refine awp_skip ?_
  change Awp _ _ _ _ _
  refine awp_seq ?_
  refine awp_seq ?_
  refine xa 20 ?_
  refine rg_q (q_loadA sz40 rfl rfl rfl) ?_
  refine rg_q (q_call en11 (.cons rfl .nil) rfl (slight_p s)) ?_
  refine rg_q (q_not rfl) (rg_q (q_m rfl) ?_)
  refine rg_g rfl rfl (fun hG => (q_loadA sz40 rfl rfl rfl)) ?_
  refine rg_g rfl rfl (fun hG => (q_call en12 (.cons rfl .nil) rfl (specimenErr_p s))) ?_
  refine rg_g rfl rfl (fun hG => (q_neq rfl rfl)) ?_
  refine rg_pick rfl rfl rfl rfl rfl rfl ?_
  refine rg_q (q_m rfl) ?_
  refine rg_g rfl rfl (fun hG => (q_fieldAddr fld40_0 rfl)) ?_
  refine rg_g rfl rfl (fun hG => (q_loadA (ds := [_, _, _, _, _, _, _, _, _, _, _]) sz37 rfl rfl rfl)) ?_
  refine rg_g rfl rfl (fun hG => (q_loadA (ds := [_, _]) sz41 rfl rfl rfl)) ?_
  refine rg_g rfl rfl (fun hG => (q_call en13 (.cons rfl (.cons rfl .nil)) rfl (rpairErr_p s.ar pr (by have hg0 := T.bool_inj (a := _) hG.1; (try simp only [nb, ne_eq] at hg0); have := (sli_le hg0.1).1; omega)))) ?_
  refine rg_g rfl rfl (fun hG => (q_neq rfl rfl)) ?_
  refine rg_pick rfl rfl rfl rfl rfl rfl ?_
  refine rg_q (q_m rfl) ?_
  refine rg_g rfl rfl (fun hG => (q_m rfl)) ?_
  refine rg_g rfl rfl (fun hG => (q_call en10 (.cons rfl (.cons rfl (.cons rfl .nil))) rfl (within4_p _ _ _))) ?_
  refine rg_g rfl rfl (fun hG => (q_not rfl)) ?_
  refine rg_pick rfl rfl rfl rfl rfl rfl ?_
  refine xc (awp_cond rfl (fun hc3 => ?_) (fun hc3 => ?_))
  ·
   (try simp only [nb, ne_eq] at hc3)
   refine awp_seq ?_
   refine xa 1 ?_
   refine rg_q (q_a rfl) ?_
   refine xc (awp_ret ?_)
   refine ⟨_, xk1, ?_⟩
   rfl
  ·
   (try simp only [nb, ne_eq] at hc3)
   obtain ⟨⟨⟨hsl, h0⟩, hp0⟩, hbw⟩ := hc3
   have hb1 : -1000 ≤ b ∧ b ≤ 1000 := by simpa [inR] using hbw
   obtain ⟨l1, l2, l3⟩ := sli_le hsl
   have hsp := spc_ok h0
   have hok := hsp.ar
   have hfl2 : ((trO s pr).map fd).length = 64 := by rw [List.length_map, trO_len]
   have hm2 := mv_two h0 hal
   refine awp_skip ?_
   change Awp _ _ _ _ _
   refine awp_seq ?_
   refine awp_seq ?_
   refine xa 12 ?_
   refine rg_q (q_fieldAddr fld40_2 rfl) (rg_q (q_load sz38 rfl rfl) ?_)
   refine rg_q (q_len isl38 rfl (by exact len_map _ _)) ?_
   refine rg_q (q_eql rfl rfl) (rg_q (q_m rfl) ?_)
   refine rg_g rfl rfl (fun hG => (q_fieldAddr fld40_2 rfl)) ?_
   refine rg_g rfl rfl (fun hG => (q_load sz38 rfl rfl)) ?_
   refine rg_g rfl rfl (fun hG => (q_indexAddr sl38 rfl rfl (by (have hg0 := T.bool_inj (a := _) hG.1; (try simp only [nb, ne_eq] at hg0); omega)) (map_at (k := 0) (by rfl) (fl_a0 (by (have hg0 := T.bool_inj (a := _) hG.1; (try simp only [nb, ne_eq] at hg0); omega)))))) ?_
   refine rg_g rfl rfl (fun hG => (q_fieldAddr fld48_0 rfl)) ?_
   refine rg_g rfl rfl (fun hG => (q_load sz3 rfl rfl)) ?_
   refine rg_g rfl rfl (fun hG => (q_eql rfl rfl)) ?_
   refine rg_pick rfl rfl rfl rfl rfl rfl ?_
   refine xc (awp_len (t := 43) rfl (fun hl43 => ?_))
   (try simp only [List.length_map] at hl43)
   refine awp_cond rfl (fun hc5 => ?_) (fun hc5 => ?_)
   ·
    (try simp only [nb, ne_eq] at hc5)
    obtain ⟨hl1, hkd⟩ := hc5
    obtain ⟨x, hfx⟩ : ∃ x, s.fl = [x] := by
     match hq : s.fl with
     | [] => rw [hq] at hl1; simp at hl1
     | [x] => exact ⟨x, rfl⟩
     | x :: y :: l => rw [hq] at hl1; simp at hl1; omega
    have hx0 : s.fl[0]? = some x := by rw [hfx]; rfl
    have hk : x.kd = 0 := by rw [hfx] at hkd; exact hkd
    have hxm : x ∈ s.fl := by rw [hfx]; simp
    have hsm := one_smp h0 hp0 hxm hk
    have hpu := one_pls (pr := pr) h0 hxm
    have htr := one_trc h0 hp0 hfx hk
    have hfl1 : ((pbB s x.am (smpI s.ar x.at_ pr)).map fd).length = 64 := by rw [List.length_map, pbB_len]
    refine awp_seq ?_
    refine xa 15 ?_
    refine rg_q (q_fieldAddr fld40_0 rfl) ?_
    refine rg_q (q_loadA (ds := [_, _, _, _, _, _, _, _, _, _, _]) sz37 rfl rfl rfl) ?_
    refine rg_q (q_call en15 (.cons rfl .nil) rfl (copyArr_p s.ar (by omega))) ?_
    refine rg_q (q_fieldAddr fld40_2 rfl) (rg_q (q_load sz38 rfl rfl) ?_)
    refine rg_q (q_indexAddr sl38 rfl rfl (by omega) (map_at (k := 0) (by rfl) hx0)) ?_
    refine rg_q (q_fieldAddr fld48_1 rfl) ?_
    refine rg_q (q_loadA (ds := [_, _]) sz46 rfl rfl rfl) ?_
    refine rg_q (q_loadA (ds := [_, _]) sz41 rfl rfl rfl) ?_
    refine rg_q (q_call en14 (.cons rfl (.cons rfl (.cons rfl .nil))) rfl ((by have h := sampleOf_p s.ar x.at_ pr; rw [hsm] at h; exact h))) ?_
    refine rg_q (q_move (x := .d (.tup _)) rfl) (rg_q (q_extract rfl rfl) (rg_q (q_extract rfl rfl) (rg_q (q_a rfl) (rg_q (q_a rfl) ?_))))
    refine rs (awp_regionM 16 [none, none, none, none, none, none, none, none, none, none, none, none, none, some 9, some 9, none] mixed (by kernel_rfl) ?_)
    refine rgm_q rfl (q_fieldAddr fld40_1 rfl) ?_
    refine rgm_q rfl (q_load sz23 rfl rfl) ?_
    refine rgm_q rfl (q_call en17 (.cons rfl .nil) rfl (copyInts4_p s.pl (by omega))) ?_
    refine rgm_q rfl (q_fieldAddr fld40_2 rfl) ?_
    refine rgm_q rfl (q_load sz38 rfl rfl) ?_
    refine rgm_q rfl (q_indexAddr sl38 rfl rfl (by omega) (map_at (k := 0) (by rfl) hx0)) ?_
    refine rgm_q rfl (q_fieldAddr fld48_4 rfl) ?_
    refine rgm_q rfl (q_load sz3 rfl rfl) ?_
    refine rgm_q rfl (q_m rfl) ?_
    refine rgm_q rfl (q_call en16 (.cons rfl (.cons rfl (.cons rfl .nil))) rfl ((by have h := bpulsed_p s.pl x.am (smpI s.ar x.at_ pr); rw [hpu] at h; exact h))) ?_
    refine rgm_q rfl (q_move (x := .d (.tup _)) rfl) ?_
    refine rgm_q rfl (q_extract rfl rfl) ?_
    refine rgm_q rfl (q_extract rfl rfl) ?_
    refine rgm_m (k := 9) rfl rfl (by rfl) (m_alloc zr54 rfl rfl) ?_
    refine rgm_m (k := 9) rfl rfl (by rfl) (m_store (cs' := (pbB s x.am (smpI s.ar x.at_ pr)).map fd) sz54 rfl rfl (by exact .inr ⟨_, rfl⟩) hfl1 rfl (Nat.le_of_ble_eq_true rfl) (setCs_all hfl1)) ?_
    refine rgm_q rfl (q_a rfl) ?_
    refine rgm_nil (aops_nil ?_)
    change Awp _ _ _ _ _
    refine awp_seq ?_
    refine Awp.le (le_freeze 9 9 0 (cs := (pbB s x.am (smpI s.ar x.at_ pr)).map fd) rfl rfl rfl rfl hmine) ?_
    refine awp_regionM 10 [none, none, none, none, none, none, none, some 11, some 11, none] mixed (by kernel_rfl) ?_
    refine rgm_q rfl (q_loadA sz40 rfl rfl rfl) ?_
    refine rgm_q rfl (q_call en19 (.cons rfl .nil) rfl (copySpc_p s (by omega) (by omega) (by omega))) ?_
    refine rgm_q rfl (q_loadA (ds := [_, _]) sz41 rfl rfl rfl) ?_
    refine rgm_q rfl (q_call en18 (.cons rfl (.cons rfl .nil)) rfl ((by have h := traceOfS_p s pr; rw [tcO_bits] at h; exact h))) ?_
    refine rgm_q rfl (q_move (x := .d (.tup _)) rfl) ?_
    refine rgm_q rfl (q_extract rfl rfl) ?_
    refine rgm_q rfl (q_extract rfl rfl) ?_
    refine rgm_m (k := 11) rfl rfl (by rfl) (m_alloc zr54 rfl rfl) ?_
    refine rgm_m (k := 11) rfl rfl (by rfl) (m_store (cs' := (trO s pr).map fd) sz54 rfl rfl (by exact .inr ⟨_, rfl⟩) hfl2 rfl (Nat.le_of_ble_eq_true rfl) (setCs_all hfl2)) ?_
    refine rgm_q rfl (q_a rfl) ?_
    refine rgm_nil (aops_nil ?_)
    change Awp _ _ _ _ _
    refine awp_seq ?_
    refine Awp.le (le_freeze 11 11 0 (cs := (trO s pr).map fd) rfl rfl rfl rfl hmine) ?_
    refine xa 24 ?_
    refine rg_q (q_m rfl) (rg_q (q_neq rfl rfl) (rg_q (q_m rfl) ?_))
    refine rg_g rfl rfl (fun hG => (q_m rfl)) ?_
    refine rg_g rfl rfl (fun hG => (q_neq rfl rfl)) ?_
    refine rg_pick rfl rfl rfl rfl rfl rfl ?_
    refine rg_q (q_m rfl) ?_
    refine rg_g rfl rfl (fun hG => (q_m rfl)) ?_
    refine rg_g rfl rfl (fun hG => (q_neq rfl rfl)) ?_
    refine rg_g rfl rfl (fun hG => (q_m rfl)) ?_
    refine rg_g rfl rfl (fun hG => (q_m rfl)) ?_
    refine rg_g rfl rfl (fun hG => (q_neq rfl rfl)) ?_
    refine rg_pickg rfl rfl rfl rfl rfl rfl rfl rfl ?_
    refine rg_pick rfl rfl rfl rfl rfl rfl ?_
    refine rg_q (q_m rfl) ?_
    refine rg_g rfl rfl (fun hG => (q_m rfl)) ?_
    refine rg_g rfl rfl (fun hG => (q_eql rfl rfl)) ?_
    refine rg_g rfl rfl (fun hG => (q_m rfl)) ?_
    refine rg_g rfl rfl (fun hG => (q_loadA sz54 rfl (show (((pbB s x.am (smpI s.ar x.at_ pr)).map fd).drop 0).take 64 = (pbB s x.am (smpI s.ar x.at_ pr)).map fd from by rw [List.drop_zero]; exact List.take_of_length_le (by rw [hfl1]; exact Nat.le_refl _)) hfl1)) ?_
    refine rg_g rfl rfl (fun hG => (q_loadA sz54 rfl (show (((trO s pr).map fd).drop 0).take 64 = (trO s pr).map fd from by rw [List.drop_zero]; exact List.take_of_length_le (by rw [hfl2]; exact Nat.le_refl _)) hfl2)) ?_
    refine rg_g rfl rfl (fun hG => (q_call en20 (.cons rfl (.cons rfl .nil)) rfl (sameTrace_p (pbB s x.am (smpI s.ar x.at_ pr)) (trO s pr) (pbB_len _ _ _) (trO_len _ _)))) ?_
    refine rg_g rfl rfl (fun hG => (q_not rfl)) ?_
    refine rg_pickg rfl rfl rfl rfl rfl rfl rfl rfl ?_
    refine rg_pick rfl rfl rfl rfl rfl rfl ?_
    refine xc (awp_cond rfl (fun hc9 => ?_) (fun hc9 => ?_))
    ·
     rcases htr with q | ⟨q1, q2⟩
     · simp [q] at hc9
     · simp [q1, q2] at hc9
    ·
     (try simp only [nb, ne_eq] at hc9)
     refine awp_skip ?_
     change Awp _ _ _ _ _
     refine awp_seq ?_
     refine xa 7 ?_
     refine rg_q (q_loadA sz40 rfl rfl rfl) ?_
     refine rg_q (q_call en19 (.cons rfl .nil) rfl (copySpc_p s (by omega) (by omega) (by omega))) ?_
     refine rg_q (q_m rfl) ?_
     refine rg_q (q_call en21 (.cons rfl (.cons rfl .nil)) rfl (moved_p s b)) ?_
     refine rg_q (q_move (x := .d (.tup _)) rfl) (rg_q (q_extract rfl rfl) (rg_q (q_extract rfl rfl) ?_))
     refine rg_nil ?_
     refine aops_alloc zr40 rfl rfl rfl ?_
     refine aops_store sz40 rfl rfl (by exact .inr ⟨_, rfl⟩) rfl rfl (by decide) rfl ?_
     refine aops_q rfl (q_a rfl) ?_
     refine aops_nil (xq (awp_seq ?_))
     refine xa 2 ?_
     refine rg_q (q_m rfl) (rg_q (q_neq rfl rfl) ?_)
     refine xc (awp_cond rfl (fun hc12 => ?_) (fun hc12 => ?_))
     ·
      (try simp only [nb, ne_eq] at hc12)
      refine awp_seq ?_
      refine xa 3 ?_
      refine rg_q (q_m rfl) (rg_q (q_eql rfl rfl) (rg_q (q_a rfl) ?_))
      refine xc (awp_ret ?_)
      refine ⟨_, xk1, ?_⟩
      simp [retD, hm2]
     ·
      simp [hm2] at hc12
   ·
    (try simp only [nb, ne_eq] at hc5)
    refine awp_skip ?_
    change Awp _ _ _ _ _
    refine awp_seq ?_
    refine xa 7 ?_
    refine rg_q (q_loadA sz40 rfl rfl rfl) ?_
    refine rg_q (q_call en19 (.cons rfl .nil) rfl (copySpc_p s (by omega) (by omega) (by omega))) ?_
    refine rg_q (q_m rfl) ?_
    refine rg_q (q_call en21 (.cons rfl (.cons rfl .nil)) rfl (moved_p s b)) ?_
    refine rg_q (q_move (x := .d (.tup _)) rfl) (rg_q (q_extract rfl rfl) (rg_q (q_extract rfl rfl) ?_))
    refine rg_nil ?_
    refine aops_alloc zr40 rfl rfl rfl ?_
    refine aops_store sz40 rfl rfl (by exact .inr ⟨_, rfl⟩) rfl rfl (by decide) rfl ?_
    refine aops_q rfl (q_a rfl) ?_
    refine aops_nil (xq (awp_seq ?_))
    refine xa 2 ?_
    refine rg_q (q_m rfl) (rg_q (q_neq rfl rfl) ?_)
    refine xc (awp_cond rfl (fun hc12 => ?_) (fun hc12 => ?_))
    ·
     (try simp only [nb, ne_eq] at hc12)
     refine awp_seq ?_
     refine xa 3 ?_
     refine rg_q (q_m rfl) (rg_q (q_eql rfl rfl) (rg_q (q_a rfl) ?_))
     refine xc (awp_ret ?_)
     refine ⟨_, xk1, ?_⟩
     simp [retD, hm2]
    ·
     simp [hm2] at hc12
set_option maxHeartbeats 4000000 in
theorem onePoreO_p (s : Spc) (pr : Int × Int) (b : Int) (hal : s.fl.all (mvB b) = true) : PC Try.prog 4 [.agg (spcC s), .agg (shC pr), .v (.int .i64 (b))] (.v (.bool (true))) := by
 refine pc_of_awpN Try.func4 rfl Try.ntmps4 (rs := [.tmp 6]) Try.results4 (by simp) fun w0 hmine hrnd hpn => ?_
 refine awp_seq ?_
 refine xa 3 ?_
 refine rg_q (q_box rfl (by exact .inr ⟨_, rfl⟩)) ?_
 refine rg_q (q_box rfl (by exact .inr ⟨_, rfl⟩)) ?_
 refine rg_q (q_a rfl) ?_
 refine rs (awp_seq ?_)
 refine xa 2 ?_
 refine rg_q (q_call en6 .nil rfl (awake_p)) ?_
 refine rg_q (q_not rfl) ?_
 refine xc (awp_cond rfl (fun hc1 => ?_) (fun hc1 => ?_))
 ·
  simp at hc1
 ·
  (try simp only [nb, ne_eq] at hc1)
  refine awp_skip ?_
  change Awp _ _ _ _ _
  refine awp_seq ?_
  refine awp_seq ?_
  refine xa 20 ?_
  refine rg_q (q_loadA sz40 rfl rfl rfl) ?_
  refine rg_q (q_call en11 (.cons rfl .nil) rfl (slight_p s)) ?_
  refine rg_q (q_not rfl) (rg_q (q_m rfl) ?_)
  refine rg_g rfl rfl (fun hG => (q_loadA sz40 rfl rfl rfl)) ?_
  refine rg_g rfl rfl (fun hG => (q_call en12 (.cons rfl .nil) rfl (specimenErr_p s))) ?_
  refine rg_g rfl rfl (fun hG => (q_neq rfl rfl)) ?_
  refine rg_pick rfl rfl rfl rfl rfl rfl ?_
  refine rg_q (q_m rfl) ?_
  refine rg_g rfl rfl (fun hG => (q_fieldAddr fld40_0 rfl)) ?_
  refine rg_g rfl rfl (fun hG => (q_loadA (ds := [_, _, _, _, _, _, _, _, _, _, _]) sz37 rfl rfl rfl)) ?_
  refine rg_g rfl rfl (fun hG => (q_loadA (ds := [_, _]) sz41 rfl rfl rfl)) ?_
  refine rg_g rfl rfl (fun hG => (q_call en13 (.cons rfl (.cons rfl .nil)) rfl (rpairErr_p s.ar pr (by have hg0 := T.bool_inj (a := _) hG.1; (try simp only [nb, ne_eq] at hg0); have := (sli_le hg0.1).1; omega)))) ?_
  refine rg_g rfl rfl (fun hG => (q_neq rfl rfl)) ?_
  refine rg_pick rfl rfl rfl rfl rfl rfl ?_
  refine rg_q (q_m rfl) ?_
  refine rg_g rfl rfl (fun hG => (q_m rfl)) ?_
  refine rg_g rfl rfl (fun hG => (q_call en10 (.cons rfl (.cons rfl (.cons rfl .nil))) rfl (within4_p _ _ _))) ?_
  refine rg_g rfl rfl (fun hG => (q_not rfl)) ?_
  refine rg_pick rfl rfl rfl rfl rfl rfl ?_
  refine xc (awp_cond rfl (fun hc3 => ?_) (fun hc3 => ?_))
  ·
   (try simp only [nb, ne_eq] at hc3)
   refine awp_seq ?_
   refine xa 1 ?_
   refine rg_q (q_a rfl) ?_
   refine xc (awp_ret ?_)
   refine ⟨_, xk1, ?_⟩
   rfl
  ·
   (try simp only [nb, ne_eq] at hc3)
   obtain ⟨⟨⟨hsl, h0⟩, hp0⟩, hbw⟩ := hc3
   have hb1 : -1000 ≤ b ∧ b ≤ 1000 := by simpa [inR] using hbw
   obtain ⟨l1, l2, l3⟩ := sli_le hsl
   have hsp := spc_ok h0
   have hok := hsp.ar
   have hfl2 : ((trO s pr).map fd).length = 64 := by rw [List.length_map, trO_len]
   have hbb : inR (-100000) b 100000 = true := by simp [inR]; omega
   have hlS : (shS s b).ar.el.length = s.ar.el.length := List.length_map _
   refine awp_skip ?_
   change Awp _ _ _ _ _
   refine awp_seq ?_
   refine awp_seq ?_
   refine xa 12 ?_
   refine rg_q (q_fieldAddr fld40_2 rfl) (rg_q (q_load sz38 rfl rfl) ?_)
   refine rg_q (q_len isl38 rfl (by exact len_map _ _)) ?_
   refine rg_q (q_eql rfl rfl) (rg_q (q_m rfl) ?_)
   refine rg_g rfl rfl (fun hG => (q_fieldAddr fld40_2 rfl)) ?_
   refine rg_g rfl rfl (fun hG => (q_load sz38 rfl rfl)) ?_
   refine rg_g rfl rfl (fun hG => (q_indexAddr sl38 rfl rfl (by (have hg0 := T.bool_inj (a := _) hG.1; (try simp only [nb, ne_eq] at hg0); omega)) (map_at (k := 0) (by rfl) (fl_a0 (by (have hg0 := T.bool_inj (a := _) hG.1; (try simp only [nb, ne_eq] at hg0); omega)))))) ?_
   refine rg_g rfl rfl (fun hG => (q_fieldAddr fld48_0 rfl)) ?_
   refine rg_g rfl rfl (fun hG => (q_load sz3 rfl rfl)) ?_
   refine rg_g rfl rfl (fun hG => (q_eql rfl rfl)) ?_
   refine rg_pick rfl rfl rfl rfl rfl rfl ?_
   refine xc (awp_len (t := 43) rfl (fun hl43 => ?_))
   (try simp only [List.length_map] at hl43)
   refine awp_cond rfl (fun hc5 => ?_) (fun hc5 => ?_)
   ·
    (try simp only [nb, ne_eq] at hc5)
    obtain ⟨hl1, hkd⟩ := hc5
    obtain ⟨x, hfx⟩ : ∃ x, s.fl = [x] := by
     match hq : s.fl with
     | [] => rw [hq] at hl1; simp at hl1
     | [x] => exact ⟨x, rfl⟩
     | x :: y :: l => rw [hq] at hl1; simp at hl1; omega
    have hx0 : s.fl[0]? = some x := by rw [hfx]; rfl
    have hk : x.kd = 0 := by rw [hfx] at hkd; exact hkd
    have hxm : x ∈ s.fl := by rw [hfx]; simp
    have hsm := one_smp h0 hp0 hxm hk
    have hpu := one_pls (pr := pr) h0 hxm
    have htr := one_trc h0 hp0 hfx hk
    have hfl1 : ((pbB s x.am (smpI s.ar x.at_ pr)).map fd).length = 64 := by rw [List.length_map, pbB_len]
    refine awp_seq ?_
    refine xa 15 ?_
    refine rg_q (q_fieldAddr fld40_0 rfl) ?_
    refine rg_q (q_loadA (ds := [_, _, _, _, _, _, _, _, _, _, _]) sz37 rfl rfl rfl) ?_
    refine rg_q (q_call en15 (.cons rfl .nil) rfl (copyArr_p s.ar (by omega))) ?_
    refine rg_q (q_fieldAddr fld40_2 rfl) (rg_q (q_load sz38 rfl rfl) ?_)
    refine rg_q (q_indexAddr sl38 rfl rfl (by omega) (map_at (k := 0) (by rfl) hx0)) ?_
    refine rg_q (q_fieldAddr fld48_1 rfl) ?_
    refine rg_q (q_loadA (ds := [_, _]) sz46 rfl rfl rfl) ?_
    refine rg_q (q_loadA (ds := [_, _]) sz41 rfl rfl rfl) ?_
    refine rg_q (q_call en14 (.cons rfl (.cons rfl (.cons rfl .nil))) rfl ((by have h := sampleOf_p s.ar x.at_ pr; rw [hsm] at h; exact h))) ?_
    refine rg_q (q_move (x := .d (.tup _)) rfl) (rg_q (q_extract rfl rfl) (rg_q (q_extract rfl rfl) (rg_q (q_a rfl) (rg_q (q_a rfl) ?_))))
    refine rs (awp_regionM 16 [none, none, none, none, none, none, none, none, none, none, none, none, none, some 9, some 9, none] mixed (by kernel_rfl) ?_)
    refine rgm_q rfl (q_fieldAddr fld40_1 rfl) ?_
    refine rgm_q rfl (q_load sz23 rfl rfl) ?_
    refine rgm_q rfl (q_call en17 (.cons rfl .nil) rfl (copyInts4_p s.pl (by omega))) ?_
    refine rgm_q rfl (q_fieldAddr fld40_2 rfl) ?_
    refine rgm_q rfl (q_load sz38 rfl rfl) ?_
    refine rgm_q rfl (q_indexAddr sl38 rfl rfl (by omega) (map_at (k := 0) (by rfl) hx0)) ?_
    refine rgm_q rfl (q_fieldAddr fld48_4 rfl) ?_
    refine rgm_q rfl (q_load sz3 rfl rfl) ?_
    refine rgm_q rfl (q_m rfl) ?_
    refine rgm_q rfl (q_call en16 (.cons rfl (.cons rfl (.cons rfl .nil))) rfl ((by have h := bpulsed_p s.pl x.am (smpI s.ar x.at_ pr); rw [hpu] at h; exact h))) ?_
    refine rgm_q rfl (q_move (x := .d (.tup _)) rfl) ?_
    refine rgm_q rfl (q_extract rfl rfl) ?_
    refine rgm_q rfl (q_extract rfl rfl) ?_
    refine rgm_m (k := 9) rfl rfl (by rfl) (m_alloc zr54 rfl rfl) ?_
    refine rgm_m (k := 9) rfl rfl (by rfl) (m_store (cs' := (pbB s x.am (smpI s.ar x.at_ pr)).map fd) sz54 rfl rfl (by exact .inr ⟨_, rfl⟩) hfl1 rfl (Nat.le_of_ble_eq_true rfl) (setCs_all hfl1)) ?_
    refine rgm_q rfl (q_a rfl) ?_
    refine rgm_nil (aops_nil ?_)
    change Awp _ _ _ _ _
    refine awp_seq ?_
    refine Awp.le (le_freeze 9 9 0 (cs := (pbB s x.am (smpI s.ar x.at_ pr)).map fd) rfl rfl rfl rfl hmine) ?_
    refine awp_regionM 10 [none, none, none, none, none, none, none, some 11, some 11, none] mixed (by kernel_rfl) ?_
    refine rgm_q rfl (q_loadA sz40 rfl rfl rfl) ?_
    refine rgm_q rfl (q_call en19 (.cons rfl .nil) rfl (copySpc_p s (by omega) (by omega) (by omega))) ?_
    refine rgm_q rfl (q_loadA (ds := [_, _]) sz41 rfl rfl rfl) ?_
    refine rgm_q rfl (q_call en18 (.cons rfl (.cons rfl .nil)) rfl ((by have h := traceOfS_p s pr; rw [tcO_bits] at h; exact h))) ?_
    refine rgm_q rfl (q_move (x := .d (.tup _)) rfl) ?_
    refine rgm_q rfl (q_extract rfl rfl) ?_
    refine rgm_q rfl (q_extract rfl rfl) ?_
    refine rgm_m (k := 11) rfl rfl (by rfl) (m_alloc zr54 rfl rfl) ?_
    refine rgm_m (k := 11) rfl rfl (by rfl) (m_store (cs' := (trO s pr).map fd) sz54 rfl rfl (by exact .inr ⟨_, rfl⟩) hfl2 rfl (Nat.le_of_ble_eq_true rfl) (setCs_all hfl2)) ?_
    refine rgm_q rfl (q_a rfl) ?_
    refine rgm_nil (aops_nil ?_)
    change Awp _ _ _ _ _
    refine awp_seq ?_
    refine Awp.le (le_freeze 11 11 0 (cs := (trO s pr).map fd) rfl rfl rfl rfl hmine) ?_
    refine xa 24 ?_
    refine rg_q (q_m rfl) (rg_q (q_neq rfl rfl) (rg_q (q_m rfl) ?_))
    refine rg_g rfl rfl (fun hG => (q_m rfl)) ?_
    refine rg_g rfl rfl (fun hG => (q_neq rfl rfl)) ?_
    refine rg_pick rfl rfl rfl rfl rfl rfl ?_
    refine rg_q (q_m rfl) ?_
    refine rg_g rfl rfl (fun hG => (q_m rfl)) ?_
    refine rg_g rfl rfl (fun hG => (q_neq rfl rfl)) ?_
    refine rg_g rfl rfl (fun hG => (q_m rfl)) ?_
    refine rg_g rfl rfl (fun hG => (q_m rfl)) ?_
    refine rg_g rfl rfl (fun hG => (q_neq rfl rfl)) ?_
    refine rg_pickg rfl rfl rfl rfl rfl rfl rfl rfl ?_
    refine rg_pick rfl rfl rfl rfl rfl rfl ?_
    refine rg_q (q_m rfl) ?_
    refine rg_g rfl rfl (fun hG => (q_m rfl)) ?_
    refine rg_g rfl rfl (fun hG => (q_eql rfl rfl)) ?_
    refine rg_g rfl rfl (fun hG => (q_m rfl)) ?_
    refine rg_g rfl rfl (fun hG => (q_loadA sz54 rfl (show (((pbB s x.am (smpI s.ar x.at_ pr)).map fd).drop 0).take 64 = (pbB s x.am (smpI s.ar x.at_ pr)).map fd from by rw [List.drop_zero]; exact List.take_of_length_le (by rw [hfl1]; exact Nat.le_refl _)) hfl1)) ?_
    refine rg_g rfl rfl (fun hG => (q_loadA sz54 rfl (show (((trO s pr).map fd).drop 0).take 64 = (trO s pr).map fd from by rw [List.drop_zero]; exact List.take_of_length_le (by rw [hfl2]; exact Nat.le_refl _)) hfl2)) ?_
    refine rg_g rfl rfl (fun hG => (q_call en20 (.cons rfl (.cons rfl .nil)) rfl (sameTrace_p (pbB s x.am (smpI s.ar x.at_ pr)) (trO s pr) (pbB_len _ _ _) (trO_len _ _)))) ?_
    refine rg_g rfl rfl (fun hG => (q_not rfl)) ?_
    refine rg_pickg rfl rfl rfl rfl rfl rfl rfl rfl ?_
    refine rg_pick rfl rfl rfl rfl rfl rfl ?_
    refine xc (awp_cond rfl (fun hc9 => ?_) (fun hc9 => ?_))
    ·
     rcases htr with q | ⟨q1, q2⟩
     · simp [q] at hc9
     · simp [q1, q2] at hc9
    ·
     (try simp only [nb, ne_eq] at hc9)
     refine awp_skip ?_
     change Awp _ _ _ _ _
     refine awp_seq ?_
     refine xa 3 ?_
     refine rg_q (q_loadA sz40 rfl rfl rfl) ?_
     refine rg_q (q_call en19 (.cons rfl .nil) rfl (copySpc_p s (by omega) (by omega) (by omega))) ?_
     refine rg_q (q_m rfl) ?_
     refine rg_nil ?_
     refine aops_callL [115] [] en21 (movedT_p s b h0 hbb hal) (.cons rfl (.cons rfl .nil)) rfl rfl rfl (by repeat (exact trivial)) (by repeat (first | exact trivial | refine ⟨rfl, ?_⟩)) rfl ?_
     refine aops_q rfl (q_move (x := .own _ _ _ _) rfl) ?_
     refine aops_q rfl (q_extract_tag0 rfl) ?_
     refine aops_q rfl (q_extract_tag1 rfl) ?_
     refine aops_alloc zr40 rfl rfl rfl ?_
     refine aops_le (le_tbox (k := 13) (ts := [_, _, _, _, _, _, _, _, _, _, _, _, _]) rfl rfl) ?_
     refine aops_storeAg sz40 rfl rfl rfl rfl rfl rfl rfl ?_
     refine aops_q rfl (q_a rfl) ?_
     refine aops_nil (xq (awp_seq ?_))
     refine xa 2 ?_
     refine rg_q (q_m rfl) (rg_q (q_neq rfl rfl) ?_)
     refine xc (awp_cond rfl (fun hc12 => ?_) (fun hc12 => ?_))
     ·
      simp at hc12
     ·
      (try simp only [nb, ne_eq] at hc12)
      refine awp_skip ?_
      change Awp _ _ _ _ _
      refine awp_seq ?_
      refine awp_seq ?_
      refine xa 1 ?_
      refine rg_q (q_a rfl) ?_
      refine xc (awp_block ?_)
      refine awp_loopH [15, 122, 123, 124, 125, 126, 127, 128, 129, 130, 131, 132, 133, 134, 135, 136, 137, 138, 139, 140, 141, 142, 143, 144] [115] (α := Nat) (fun k => [(15, T.i (k : Int))]) (fun k => [(115, .row 46 2 ((shL b s.ar.el k).map shC))]) (fun k => k ≤ s.ar.el.length) (fun k => s.ar.el.length - k) 0 (Nat.zero_le _) ?_ ?_
      · exact xh (ms := [115]) (by repeat (exact Out.refl _)) ⟨(by rfl), trivial⟩ ⟨(by rfl), trivial⟩
      ·
       intro k hk2
       refine awp_seq ?_
       refine awp_seq ?_
       refine xa 6 ?_
       refine rg_q (q_m rfl) (rg_q (q_fieldAddr_ref fld40_0 rfl) (rg_q (q_fieldAddr_ref fld37_0 rfl) ?_))
       refine rg_q (q_load_tb (x := .rs _) sz31 rfl rfl rfl) ?_
       refine rg_q (q_len_rs isl31 rfl rfl) ?_
       refine rg_q (q_lss rfl rfl) ?_
       refine rn ?_
       change Awp _ _ _ _ _
       skip
       (try simp only [List.length_map] at hl125)
       refine awp_cond rfl (fun hc15 => ?_) (fun hc15 => ?_)
       ·
        (try simp only [nb, ne_eq] at hc15)
        (try simp only [List.length_map, shL_len] at hc15)
        have hlt : k < s.ar.el.length := by omega
        obtain ⟨pe, hpe⟩ : ∃ pe, s.ar.el[k]? = some pe := ⟨_, List.getElem?_eq_getElem hlt⟩
        have hpb := hok.el pe (List.mem_of_getElem? hpe)
        have hml2 : ((shL b s.ar.el k).map shC).length = s.ar.el.length := by rw [List.length_map, shL_len]
        have hrow : ((shL b s.ar.el k).map shC)[k]? = some (shC pe) := by rw [List.getElem?_map, shL_at hpe]; rfl
        refine awp_skip ?_
        change Awp _ _ _ _ _
        refine awp_seq ?_
        refine awp_block ?_
        refine xa 15 ?_
        refine rg_q (q_fieldAddr_ref fld40_0 rfl) (rg_q (q_fieldAddr_ref fld37_0 rfl) ?_)
        refine rg_q (q_load_tb (x := .rs _) sz31 rfl rfl rfl) ?_
        refine rg_q (q_m rfl) (rg_q (q_fieldAddr_ref fld40_0 rfl) (rg_q (q_fieldAddr_ref fld37_0 rfl) ?_))
        refine rg_q (q_load_tb (x := .rs _) sz31 rfl rfl rfl) ?_
        refine rg_q (q_m rfl) ?_
        refine rg_q (q_indexAddr_rs sl31 rfl rfl rfl (by omega) (by omega)) ?_
        refine rg_q (q_fieldAddr_ref fld46_0 rfl) ?_
        refine rg_q (q_load_row sz3 rfl rfl (i := k) (j := 0) (by rw [Int.toNat_natCast]) hrow rfl) ?_
        refine rg_q (q_m rfl) ?_
        refine rg_q (q_add rfl rfl xi) ?_
        refine rg_q (q_indexAddr_rs sl31 rfl rfl rfl (by omega) (by omega)) ?_
        refine rg_q (q_fieldAddr_ref fld46_0 rfl) ?_
        refine rg_nil ?_
        refine aops_store_row sz3 rfl rfl (by exact .inl rfl) rfl rfl (i := k) (j := 0) (es' := (shL b s.ar.el (k + 1)).map shC) (by rw [Int.toNat_natCast]) hrow (by decide) (sh_row hpe) ?_
        refine aops_nil ?_
        change Awp _ _ _ _ _
        refine xa 3 ?_
        refine rg_q (q_m rfl) ?_
        refine rg_q (q_add rfl rfl xi) ?_
        refine rg_q (q_a rfl) ?_
        refine rn ?_
        refine ⟨k + 1, by omega, by omega, ?_⟩
        exact xh (ms := [115]) (by repeat (first | exact Out.head rfl rfl | (refine Out.put ?_ rfl) | (refine Out.site ?_ rfl))) ⟨(by rfl), trivial⟩ ⟨(by rfl), trivial⟩
       ·
        (try simp only [nb, ne_eq] at hc15)
        (try simp only [List.length_map, shL_len] at hc15)
        have hkn : k = s.ar.el.length := by omega
        subst hkn
        rw [shL_all]
        refine awp_exit ?_
        change Awp _ _ _ _ _
        refine awp_seq ?_
        refine awp_seq ?_
        refine Awp.le (le_freezeTB 13 115 0 rfl rfl rfl rfl hmine) ?_
        refine Awp.le (le_boxT 13 (spcC (shS s b)) rfl rfl (by intro j d h; match j, h with | 0, h | 1, h | 2, h | 3, h | 4, h | 5, h | 6, h | 7, h | 8, h | 9, h | 10, h | 11, h | 12, h => cases h; rfl)) ?_
        refine xa 3 ?_
        refine rg_q (q_load_refA sz40 rfl rfl rfl rfl) ?_
        refine rg_q (q_call en12 (.cons rfl .nil) rfl (specimenErr_p (shS s b))) ?_
        refine rg_q (q_neq rfl rfl) ?_
        refine xc (awp_cond rfl (fun hc18 => ?_) (fun hc18 => ?_))
        ·
         (try simp only [nb, ne_eq] at hc18)
         refine awp_seq ?_
         refine xa 1 ?_
         refine rg_q (q_a rfl) ?_
         refine xc (awp_ret ?_)
         refine ⟨_, xk1, ?_⟩
         rfl
        ·
         (try simp only [nb, ne_eq] at hc18)
         have h2 : (ckSpc (shS s b)).2 = 0 := by simpa using hc18
         have htc := tcR_sh h0 h2 hp0
         have hto : trO (shS s b) pr = trO s pr := by
          have e := congrArg Prod.fst htc
          rw [tcO_bits, tcO_bits] at e
          exact fd_inj e
         refine awp_skip ?_
         change Awp _ _ _ _ _
         refine awp_seq ?_
         refine awp_regionM 10 [none, none, none, none, none, none, none, some 16, some 16, none] mixed (by kernel_rfl) ?_
         refine rgm_q rfl (q_loadA sz40 rfl rfl rfl) ?_
         refine rgm_q rfl (q_call en19 (.cons rfl .nil) rfl (copySpc_p s (by omega) (by omega) (by omega))) ?_
         refine rgm_q rfl (q_loadA (ds := [_, _]) sz41 rfl rfl rfl) ?_
         refine rgm_q rfl (q_call en18 (.cons rfl (.cons rfl .nil)) rfl ((by have h := traceOfS_p s pr; rw [tcO_bits] at h; exact h))) ?_
         refine rgm_q rfl (q_move (x := .d (.tup _)) rfl) ?_
         refine rgm_q rfl (q_extract rfl rfl) ?_
         refine rgm_q rfl (q_extract rfl rfl) ?_
         refine rgm_m (k := 16) rfl rfl (by rfl) (m_alloc zr54 rfl rfl) ?_
         refine rgm_m (k := 16) rfl rfl (by rfl) (m_store (cs' := (trO s pr).map fd) sz54 rfl rfl (by exact .inr ⟨_, rfl⟩) hfl2 rfl (Nat.le_of_ble_eq_true rfl) (setCs_all hfl2)) ?_
         refine rgm_q rfl (q_a rfl) ?_
         refine rgm_nil (aops_nil ?_)
         change Awp _ _ _ _ _
         refine awp_seq ?_
         refine Awp.le (le_freeze 16 16 0 (cs := (trO s pr).map fd) rfl rfl rfl rfl hmine) ?_
         refine xa 6 ?_
         refine rg_q (q_load_refA sz40 rfl rfl rfl rfl) ?_
         refine rg_q (q_loadA (ds := [_, _]) sz41 rfl rfl rfl) ?_
         refine rg_q (q_call en18 (.cons rfl (.cons rfl .nil)) rfl ((by have h := traceOfS_p (shS s b) pr; rw [htc, tcO_bits] at h; exact h))) ?_
         refine rg_q (q_move (x := .d (.tup _)) rfl) (rg_q (q_extract rfl rfl) (rg_q (q_extract rfl rfl) ?_))
         refine rg_nil ?_
         refine aops_allocD zr54 rfl sz54 rfl rfl (by exact .inr ⟨_, rfl⟩) hfl2 rfl ?_
         refine aops_q rfl (q_a rfl) ?_
         refine aops_nil (xq (xa 9 ?_))
         refine rg_q (q_m rfl) (rg_q (q_m rfl) (rg_q (q_eql rfl rfl) (rg_q (q_m rfl) ?_)))
         refine rg_g rfl rfl (fun hG => (q_loadA sz54 rfl (show (((trO s pr).map fd).drop 0).take 64 = (trO s pr).map fd from by rw [List.drop_zero]; exact List.take_of_length_le (by rw [hfl2]; exact Nat.le_refl _)) hfl2)) ?_
         refine rg_g rfl rfl (fun hG => (q_loadA sz54 rfl (show (((trO s pr).map fd).drop 0).take 64 = (trO s pr).map fd from by rw [List.drop_zero]; exact List.take_of_length_le (by rw [hfl2]; exact Nat.le_refl _)) hfl2)) ?_
         refine rg_g rfl rfl (fun hG => (q_call en20 (.cons rfl (.cons rfl .nil)) rfl (sameTrace_p (trO s pr) (trO s pr) (trO_len _ _) (trO_len _ _)))) ?_
         refine rg_pick rfl rfl rfl rfl rfl rfl ?_
         refine rg_q (q_a rfl) ?_
         refine xc (awp_ret ?_)
         refine ⟨_, xk1, ?_⟩
         simp [retD]
   ·
    (try simp only [nb, ne_eq] at hc5)
    refine awp_skip ?_
    change Awp _ _ _ _ _
    refine awp_seq ?_
    refine xa 3 ?_
    refine rg_q (q_loadA sz40 rfl rfl rfl) ?_
    refine rg_q (q_call en19 (.cons rfl .nil) rfl (copySpc_p s (by omega) (by omega) (by omega))) ?_
    refine rg_q (q_m rfl) ?_
    refine rg_nil ?_
    refine aops_callL [115] [] en21 (movedT_p s b h0 hbb hal) (.cons rfl (.cons rfl .nil)) rfl rfl rfl (by repeat (exact trivial)) (by repeat (first | exact trivial | refine ⟨rfl, ?_⟩)) rfl ?_
    refine aops_q rfl (q_move (x := .own _ _ _ _) rfl) ?_
    refine aops_q rfl (q_extract_tag0 rfl) ?_
    refine aops_q rfl (q_extract_tag1 rfl) ?_
    refine aops_alloc zr40 rfl rfl rfl ?_
    refine aops_le (le_tbox (k := 13) (ts := [_, _, _, _, _, _, _, _, _, _, _, _, _]) rfl rfl) ?_
    refine aops_storeAg sz40 rfl rfl rfl rfl rfl rfl rfl ?_
    refine aops_q rfl (q_a rfl) ?_
    refine aops_nil (xq (awp_seq ?_))
    refine xa 2 ?_
    refine rg_q (q_m rfl) (rg_q (q_neq rfl rfl) ?_)
    refine xc (awp_cond rfl (fun hc12 => ?_) (fun hc12 => ?_))
    ·
     simp at hc12
    ·
     (try simp only [nb, ne_eq] at hc12)
     refine awp_skip ?_
     change Awp _ _ _ _ _
     refine awp_seq ?_
     refine awp_seq ?_
     refine xa 1 ?_
     refine rg_q (q_a rfl) ?_
     refine xc (awp_block ?_)
     refine awp_loopH [15, 122, 123, 124, 125, 126, 127, 128, 129, 130, 131, 132, 133, 134, 135, 136, 137, 138, 139, 140, 141, 142, 143, 144] [115] (α := Nat) (fun k => [(15, T.i (k : Int))]) (fun k => [(115, .row 46 2 ((shL b s.ar.el k).map shC))]) (fun k => k ≤ s.ar.el.length) (fun k => s.ar.el.length - k) 0 (Nat.zero_le _) ?_ ?_
     · exact xh (ms := [115]) (by repeat (exact Out.refl _)) ⟨(by rfl), trivial⟩ ⟨(by rfl), trivial⟩
     ·
      intro k hk2
      refine awp_seq ?_
      refine awp_seq ?_
      refine xa 6 ?_
      refine rg_q (q_m rfl) (rg_q (q_fieldAddr_ref fld40_0 rfl) (rg_q (q_fieldAddr_ref fld37_0 rfl) ?_))
      refine rg_q (q_load_tb (x := .rs _) sz31 rfl rfl rfl) ?_
      refine rg_q (q_len_rs isl31 rfl rfl) ?_
      refine rg_q (q_lss rfl rfl) ?_
      refine rn ?_
      change Awp _ _ _ _ _
      skip
      (try simp only [List.length_map] at hl125)
      refine awp_cond rfl (fun hc15 => ?_) (fun hc15 => ?_)
      ·
       (try simp only [nb, ne_eq] at hc15)
       (try simp only [List.length_map, shL_len] at hc15)
       have hlt : k < s.ar.el.length := by omega
       obtain ⟨pe, hpe⟩ : ∃ pe, s.ar.el[k]? = some pe := ⟨_, List.getElem?_eq_getElem hlt⟩
       have hpb := hok.el pe (List.mem_of_getElem? hpe)
       have hml2 : ((shL b s.ar.el k).map shC).length = s.ar.el.length := by rw [List.length_map, shL_len]
       have hrow : ((shL b s.ar.el k).map shC)[k]? = some (shC pe) := by rw [List.getElem?_map, shL_at hpe]; rfl
       refine awp_skip ?_
       change Awp _ _ _ _ _
       refine awp_seq ?_
       refine awp_block ?_
       refine xa 15 ?_
       refine rg_q (q_fieldAddr_ref fld40_0 rfl) (rg_q (q_fieldAddr_ref fld37_0 rfl) ?_)
       refine rg_q (q_load_tb (x := .rs _) sz31 rfl rfl rfl) ?_
       refine rg_q (q_m rfl) (rg_q (q_fieldAddr_ref fld40_0 rfl) (rg_q (q_fieldAddr_ref fld37_0 rfl) ?_))
       refine rg_q (q_load_tb (x := .rs _) sz31 rfl rfl rfl) ?_
       refine rg_q (q_m rfl) ?_
       refine rg_q (q_indexAddr_rs sl31 rfl rfl rfl (by omega) (by omega)) ?_
       refine rg_q (q_fieldAddr_ref fld46_0 rfl) ?_
       refine rg_q (q_load_row sz3 rfl rfl (i := k) (j := 0) (by rw [Int.toNat_natCast]) hrow rfl) ?_
       refine rg_q (q_m rfl) ?_
       refine rg_q (q_add rfl rfl xi) ?_
       refine rg_q (q_indexAddr_rs sl31 rfl rfl rfl (by omega) (by omega)) ?_
       refine rg_q (q_fieldAddr_ref fld46_0 rfl) ?_
       refine rg_nil ?_
       refine aops_store_row sz3 rfl rfl (by exact .inl rfl) rfl rfl (i := k) (j := 0) (es' := (shL b s.ar.el (k + 1)).map shC) (by rw [Int.toNat_natCast]) hrow (by decide) (sh_row hpe) ?_
       refine aops_nil ?_
       change Awp _ _ _ _ _
       refine xa 3 ?_
       refine rg_q (q_m rfl) ?_
       refine rg_q (q_add rfl rfl xi) ?_
       refine rg_q (q_a rfl) ?_
       refine rn ?_
       refine ⟨k + 1, by omega, by omega, ?_⟩
       exact xh (ms := [115]) (by repeat (first | exact Out.head rfl rfl | (refine Out.put ?_ rfl) | (refine Out.site ?_ rfl))) ⟨(by rfl), trivial⟩ ⟨(by rfl), trivial⟩
      ·
       (try simp only [nb, ne_eq] at hc15)
       (try simp only [List.length_map, shL_len] at hc15)
       have hkn : k = s.ar.el.length := by omega
       subst hkn
       rw [shL_all]
       refine awp_exit ?_
       change Awp _ _ _ _ _
       refine awp_seq ?_
       refine awp_seq ?_
       refine Awp.le (le_freezeTB 13 115 0 rfl rfl rfl rfl hmine) ?_
       refine Awp.le (le_boxT 13 (spcC (shS s b)) rfl rfl (by intro j d h; match j, h with | 0, h | 1, h | 2, h | 3, h | 4, h | 5, h | 6, h | 7, h | 8, h | 9, h | 10, h | 11, h | 12, h => cases h; rfl)) ?_
       refine xa 3 ?_
       refine rg_q (q_load_refA sz40 rfl rfl rfl rfl) ?_
       refine rg_q (q_call en12 (.cons rfl .nil) rfl (specimenErr_p (shS s b))) ?_
       refine rg_q (q_neq rfl rfl) ?_
       refine xc (awp_cond rfl (fun hc18 => ?_) (fun hc18 => ?_))
       ·
        (try simp only [nb, ne_eq] at hc18)
        refine awp_seq ?_
        refine xa 1 ?_
        refine rg_q (q_a rfl) ?_
        refine xc (awp_ret ?_)
        refine ⟨_, xk1, ?_⟩
        rfl
       ·
        (try simp only [nb, ne_eq] at hc18)
        have h2 : (ckSpc (shS s b)).2 = 0 := by simpa using hc18
        have htc := tcR_sh h0 h2 hp0
        have hto : trO (shS s b) pr = trO s pr := by
         have e := congrArg Prod.fst htc
         rw [tcO_bits, tcO_bits] at e
         exact fd_inj e
        refine awp_skip ?_
        change Awp _ _ _ _ _
        refine awp_seq ?_
        refine awp_regionM 10 [none, none, none, none, none, none, none, some 16, some 16, none] mixed (by kernel_rfl) ?_
        refine rgm_q rfl (q_loadA sz40 rfl rfl rfl) ?_
        refine rgm_q rfl (q_call en19 (.cons rfl .nil) rfl (copySpc_p s (by omega) (by omega) (by omega))) ?_
        refine rgm_q rfl (q_loadA (ds := [_, _]) sz41 rfl rfl rfl) ?_
        refine rgm_q rfl (q_call en18 (.cons rfl (.cons rfl .nil)) rfl ((by have h := traceOfS_p s pr; rw [tcO_bits] at h; exact h))) ?_
        refine rgm_q rfl (q_move (x := .d (.tup _)) rfl) ?_
        refine rgm_q rfl (q_extract rfl rfl) ?_
        refine rgm_q rfl (q_extract rfl rfl) ?_
        refine rgm_m (k := 16) rfl rfl (by rfl) (m_alloc zr54 rfl rfl) ?_
        refine rgm_m (k := 16) rfl rfl (by rfl) (m_store (cs' := (trO s pr).map fd) sz54 rfl rfl (by exact .inr ⟨_, rfl⟩) hfl2 rfl (Nat.le_of_ble_eq_true rfl) (setCs_all hfl2)) ?_
        refine rgm_q rfl (q_a rfl) ?_
        refine rgm_nil (aops_nil ?_)
        change Awp _ _ _ _ _
        refine awp_seq ?_
        refine Awp.le (le_freeze 16 16 0 (cs := (trO s pr).map fd) rfl rfl rfl rfl hmine) ?_
        refine xa 6 ?_
        refine rg_q (q_load_refA sz40 rfl rfl rfl rfl) ?_
        refine rg_q (q_loadA (ds := [_, _]) sz41 rfl rfl rfl) ?_
        refine rg_q (q_call en18 (.cons rfl (.cons rfl .nil)) rfl ((by have h := traceOfS_p (shS s b) pr; rw [htc, tcO_bits] at h; exact h))) ?_
        refine rg_q (q_move (x := .d (.tup _)) rfl) (rg_q (q_extract rfl rfl) (rg_q (q_extract rfl rfl) ?_))
        refine rg_nil ?_
        refine aops_allocD zr54 rfl sz54 rfl rfl (by exact .inr ⟨_, rfl⟩) hfl2 rfl ?_
        refine aops_q rfl (q_a rfl) ?_
        refine aops_nil (xq (xa 9 ?_))
        refine rg_q (q_m rfl) (rg_q (q_m rfl) (rg_q (q_eql rfl rfl) (rg_q (q_m rfl) ?_)))
        refine rg_g rfl rfl (fun hG => (q_loadA sz54 rfl (show (((trO s pr).map fd).drop 0).take 64 = (trO s pr).map fd from by rw [List.drop_zero]; exact List.take_of_length_le (by rw [hfl2]; exact Nat.le_refl _)) hfl2)) ?_
        refine rg_g rfl rfl (fun hG => (q_loadA sz54 rfl (show (((trO s pr).map fd).drop 0).take 64 = (trO s pr).map fd from by rw [List.drop_zero]; exact List.take_of_length_le (by rw [hfl2]; exact Nat.le_refl _)) hfl2)) ?_
        refine rg_g rfl rfl (fun hG => (q_call en20 (.cons rfl (.cons rfl .nil)) rfl (sameTrace_p (trO s pr) (trO s pr) (trO_len _ _) (trO_len _ _)))) ?_
        refine rg_pick rfl rfl rfl rfl rfl rfl ?_
        refine rg_q (q_a rfl) ?_
        refine xc (awp_ret ?_)
        refine ⟨_, xk1, ?_⟩
        simp [retD]

theorem benchOnePore_p (s : Spc) (pr : Int × Int) (b : Int) : PC Try.prog 4 [.agg (spcC s), .agg (shC pr), .v (.int .i64 (b))] (.v (.bool (true))) := by
  by_cases h : s.fl.all (mvB b) = true
  · exact onePoreO_p s pr b h
  · exact onePoreE_p s pr b h
end Go.Proofs.Ytamaocfjknpadaa.Am.M
