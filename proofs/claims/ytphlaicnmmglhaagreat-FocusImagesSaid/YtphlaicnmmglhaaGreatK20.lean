/- Contracts over the abstract machine: the reference of chapter 4: arrays, specimens, copies. Conditions: none. -/
import Derived.Test.YtphlaicnmmglhaaGreatK19
set_option linter.unusedVariables false
set_option linter.unusedSimpArgs false
-- mini
namespace Go.Proofs.YtphlaicnmmglhaaGreat.Am.M
open Go
set_option maxRecDepth 100000 in
theorem rcheckSampling_p (s : Int × Int) : PC Tryz.prog 168 [.agg (shC s)] (.v (.int .i64 (sampE s))) := by
 refine pc_of_awp Tryz.func168 rfl Tryz.ntmps168 (rs := [.tmp 2]) Tryz.results168 (by simp) fun w0 => ?_
 refine awp_seq ?_
 refine awp_region 2 mixed (by kernel_rfl) ?_
 refine rg_q (q_box rfl (by exact .inr ⟨_, rfl⟩)) ?_
 refine rg_q (q_assign (x := .d (.v _)) rfl) ?_
 refine rg_nil (aops_nil ?_)
 change Awp _ _ _ _ _
 refine awp_seq ?_
 refine awp_seq ?_
 refine awp_region 10 mixed (by kernel_rfl) ?_
 refine rg_q (q_fieldAddr fld26_0 rfl) (rg_q (q_load sz3 rfl rfl) ?_)
 refine rg_q (q_call en31 (.cons rfl (.cons rfl (.cons rfl .nil))) rfl (within4_p _ _ _)) ?_
 refine rg_q (q_not rfl) (rg_q (q_move (x := .d (.v _)) rfl) ?_)
 refine rg_g rfl rfl (fun hG => (q_fieldAddr fld26_1 rfl)) ?_
 refine rg_g rfl rfl (fun hG => (q_load sz3 rfl rfl)) ?_
 refine rg_g rfl rfl (fun hG => (q_call en31 (.cons rfl (.cons rfl (.cons rfl .nil))) rfl (within4_p _ _ _))) ?_
 refine rg_g rfl rfl (fun hG => (q_not rfl)) ?_
 refine rg_pick rfl rfl rfl rfl rfl rfl ?_
 refine rg_nil (aops_nil ?_)
 change Awp _ _ _ _ _
 refine awp_cond rfl (fun hc1 => ?_) (fun hc1 => ?_)
 ·
  (try simp only [nb, ne_eq] at hc1)
  have hz : sampE s = 2 := by unfold sampE; rw [if_neg (by intro h; simp_all)]
  refine awp_seq ?_
  refine awp_region 1 mixed (by kernel_rfl) ?_
  refine rg_q (q_assign (x := .d (.v _)) rfl) ?_
  refine rg_nil (aops_nil ?_)
  change Awp _ _ _ _ _
  refine awp_ret ?_
  refine ⟨_, (.cons (.tmp (by exact .d _)) .nil), ?_⟩
  rw [hz]; rfl
 ·
  (try simp only [nb, ne_eq] at hc1)
  have hz : sampE s = 0 := by unfold sampE; rw [if_pos (by simp_all)]
  refine awp_skip ?_
  change Awp _ _ _ _ _
  refine awp_seq ?_
  refine awp_region 1 mixed (by kernel_rfl) ?_
  refine rg_q (q_assign (x := .d (.v _)) rfl) ?_
  refine rg_nil (aops_nil ?_)
  change Awp _ _ _ _ _
  refine awp_ret ?_
  refine ⟨_, (.cons (.tmp (by exact .d _)) .nil), ?_⟩
  rw [hz]; rfl
theorem elE_is (p : Int × Int) : elE p = if (inR (-100000) p.1 100000 && inR (-100000) p.2 100000) = true then (if 0 ≤ p.2 then 15 else 0) else 2 := by
  unfold elE
  rw [spotE_is p]
  by_cases h : (inR (-100000) p.1 100000 && inR (-100000) p.2 100000) = true
  · rw [if_pos h, if_pos h]
    unfold firstE; rw [if_pos rfl]
    unfold firstE whenI
    by_cases h2 : 0 ≤ p.2
    · simp [firstE, h2]
    · simp [firstE, h2]
  · rw [if_neg h, if_neg h]; rfl
theorem first4 (a b c d : Int) : firstE [a, b, c, d] = if a ≠ 0 then a else if b ≠ 0 then b else if c ≠ 0 then c else d := by
  unfold firstE
  by_cases h1 : a = 0
  · rw [if_pos h1, if_neg (fun q => q h1)]
    unfold firstE
    by_cases h2 : b = 0
    · rw [if_pos h2, if_neg (fun q => q h2)]
      unfold firstE
      by_cases h3 : c = 0
      · rw [if_pos h3, if_neg (fun q => q h3)]
        unfold firstE
        by_cases h4 : d = 0
        · rw [if_pos h4, h4]; rfl
        · rw [if_neg h4]
      · rw [if_neg h3, if_pos h3]
    · rw [if_neg h2, if_pos h2]
  · rw [if_neg h1, if_pos h1]
set_option maxRecDepth 100000 in
theorem rcheckArr_p (a : Arr) : PC Tryz.prog 92 [.agg (arrC a)] (.tup [.v (.int .i64 ((ckArr a).1)), .v (.int .i64 ((ckArr a).2))]) := by
 have hu : ckArr a = if a.el.length = 0 then (0, 10) else if 16 < a.el.length then (0, 8) else if (ckEls 0 a.el).2 ≠ 0 then ckEls 0 a.el else (0, arrE0 a) := rfl
 have h4 : arrE0 a = if modeE a.ou ≠ 0 then modeE a.ou else if modeE a.ba ≠ 0 then modeE a.ba else if whenI (decide (a.ou.t ≠ a.ba.t)) 23 ≠ 0 then whenI (decide (a.ou.t ≠ a.ba.t)) 23 else sampE a.ts := first4 _ _ _ _
 refine pc_of_awp Tryz.func92 rfl Tryz.ntmps92 (rs := [.tmp 2, .tmp 3]) Tryz.results92 (by simp) fun w0 => ?_
 refine awp_seq ?_
 refine awp_region 3 mixed (by kernel_rfl) ?_
 refine rg_q (q_box rfl (by exact .inr ⟨_, rfl⟩)) ?_
 refine rg_q (q_assign (x := .d (.v _)) rfl) (rg_q (q_assign (x := .d (.v _)) rfl) ?_)
 refine rg_nil (aops_nil ?_)
 change Awp _ _ _ _ _
 refine awp_seq ?_
 refine awp_seq ?_
 refine awp_region 4 mixed (by kernel_rfl) ?_
 refine rg_q (q_fieldAddr fld28_0 rfl) (rg_q (q_load sz22 rfl rfl) ?_)
 refine rg_q (q_len isl22 rfl (by exact len_map _ _)) ?_
 refine rg_q (q_eql rfl rfl) ?_
 refine rg_nil (aops_nil ?_)
 change Awp _ _ _ _ _
 refine awp_len (t := 8) rfl (fun hl8 => ?_)
 (try simp only [List.length_map] at hl8)
 refine awp_cond rfl (fun hc1 => ?_) (fun hc1 => ?_)
 ·
  (try simp only [nb, ne_eq] at hc1)
  rw [if_pos (by omega)] at hu
  refine awp_seq ?_
  refine awp_region 2 mixed (by kernel_rfl) ?_
  refine rg_q (q_assign (x := .d (.v _)) rfl) (rg_q (q_assign (x := .d (.v _)) rfl) ?_)
  refine rg_nil (aops_nil ?_)
  change Awp _ _ _ _ _
  refine awp_ret ?_
  refine ⟨_, (.cons (.tmp (by exact .d _)) (.cons (.tmp (by exact .d _)) .nil)), ?_⟩
  rw [hu]; rfl
 ·
  (try simp only [nb, ne_eq] at hc1)
  rw [if_neg (by omega)] at hu
  refine awp_skip ?_
  change Awp _ _ _ _ _
  refine awp_seq ?_
  refine awp_seq ?_
  refine awp_region 4 mixed (by kernel_rfl) ?_
  refine rg_q (q_fieldAddr fld28_0 rfl) (rg_q (q_load sz22 rfl rfl) ?_)
  refine rg_q (q_len isl22 rfl (by exact len_map _ _)) ?_
  refine rg_q (q_gtr rfl rfl) ?_
  refine rg_nil (aops_nil ?_)
  change Awp _ _ _ _ _
  refine awp_len (t := 12) rfl (fun hl12 => ?_)
  (try simp only [List.length_map] at hl12)
  refine awp_cond rfl (fun hc3 => ?_) (fun hc3 => ?_)
  ·
   (try simp only [nb, ne_eq] at hc3)
   rw [if_pos (by omega)] at hu
   refine awp_seq ?_
   refine awp_region 2 mixed (by kernel_rfl) ?_
   refine rg_q (q_assign (x := .d (.v _)) rfl) (rg_q (q_assign (x := .d (.v _)) rfl) ?_)
   refine rg_nil (aops_nil ?_)
   change Awp _ _ _ _ _
   refine awp_ret ?_
   refine ⟨_, (.cons (.tmp (by exact .d _)) (.cons (.tmp (by exact .d _)) .nil)), ?_⟩
   rw [hu]; rfl
  ·
   (try simp only [nb, ne_eq] at hc3)
   rw [if_neg (by omega)] at hu
   refine awp_skip ?_
   change Awp _ _ _ _ _
   refine awp_seq ?_
   refine awp_seq ?_
   refine awp_region 1 mixed (by kernel_rfl) ?_
   refine rg_q (q_assign (x := .d (.v _)) rfl) ?_
   refine rg_nil (aops_nil ?_)
   change Awp _ _ _ _ _
   refine awp_block ?_
   refine awp_loopH [2, 3, 4, 15, 16, 17, 18, 19, 20, 21, 22, 23, 24, 25, 26, 27, 28, 29, 30, 31, 32, 33, 34, 35, 36, 37] [] (α := Nat) (fun k => [(4, T.i (k : Int))]) (fun k => []) (fun k => k ≤ a.el.length ∧ ckEls 0 a.el = ckEls k (a.el.drop k)) (fun k => a.el.length - k) 0 ⟨Nat.zero_le _, rfl⟩ ?_ ?_
   · exact le_head (ms := []) (by repeat (exact Out.refl _)) ⟨(by rfl), trivial⟩ trivial rfl rfl rfl rfl
   ·
    intro k ⟨hk, hf⟩
    refine awp_seq ?_
    refine awp_seq ?_
    refine awp_region 5 mixed (by kernel_rfl) ?_
    refine rg_q (q_move (x := .d (.v _)) rfl) (rg_q (q_fieldAddr fld28_0 rfl) (rg_q (q_load sz22 rfl rfl) ?_))
    refine rg_q (q_len isl22 rfl (by exact len_map _ _)) ?_
    refine rg_q (q_lss rfl rfl) ?_
    refine rg_nil (aops_nil ?_)
    change Awp _ _ _ _ _
    refine awp_len (t := 17) rfl (fun hl17 => ?_)
    (try simp only [List.length_map] at hl17)
    refine awp_cond rfl (fun hc6 => ?_) (fun hc6 => ?_)
    ·
     (try simp only [nb, ne_eq] at hc6)
     have hlt : k < a.el.length := by omega
     obtain ⟨x, hx⟩ : ∃ x, a.el[k]? = some x := ⟨_, List.getElem?_eq_getElem hlt⟩
     have hd := ckEls_at hx
     have he := elE_is x
     refine awp_skip ?_
     change Awp _ _ _ _ _
     refine awp_seq ?_
     refine awp_block ?_
     refine awp_seq ?_
     refine awp_seq ?_
     refine awp_region 7 mixed (by kernel_rfl) ?_
     refine rg_q (q_fieldAddr fld28_0 rfl) (rg_q (q_load sz22 rfl rfl) (rg_q (q_move (x := .d (.v _)) rfl) ?_))
     refine rg_q (q_indexAddr sl22 rfl rfl (by omega) (map_at (by omega) hx)) ?_
     refine rg_q (q_loadA (ds := [_, _]) sz33 rfl rfl rfl) ?_
     refine rg_q (q_call en167 (.cons rfl .nil) rfl (risSpot_p _)) ?_
     refine rg_q (q_not rfl) ?_
     refine rg_nil (aops_nil ?_)
     change Awp _ _ _ _ _
     refine awp_cond rfl (fun hc8 => ?_) (fun hc8 => ?_)
     ·
      (try simp only [nb, ne_eq] at hc8)
      rw [if_neg (by rcases hc8 with q | q <;> simp [q])] at he
      have hz : ckEls 0 a.el = ((k : Int), 2) := by rw [hf, hd, he]; rfl
      rw [hz] at hu
      refine awp_seq ?_
      refine awp_region 3 mixed (by kernel_rfl) ?_
      refine rg_q (q_move (x := .d (.v _)) rfl) (rg_q (q_assign (x := .d (.v _)) rfl) (rg_q (q_assign (x := .d (.v _)) rfl) ?_))
      refine rg_nil (aops_nil ?_)
      change Awp _ _ _ _ _
      refine awp_ret ?_
      refine ⟨_, (.cons (.tmp (by exact .d _)) (.cons (.tmp (by exact .d _)) .nil)), ?_⟩
      rw [hu]; rfl
     ·
      (try simp only [nb, ne_eq] at hc8)
      rw [if_pos (by simp [hc8.1, hc8.2])] at he
      refine awp_skip ?_
      change Awp _ _ _ _ _
      refine awp_seq ?_
      refine awp_region 7 mixed (by kernel_rfl) ?_
      refine rg_q (q_fieldAddr fld28_0 rfl) (rg_q (q_load sz22 rfl rfl) (rg_q (q_move (x := .d (.v _)) rfl) ?_))
      refine rg_q (q_indexAddr sl22 rfl rfl (by omega) (map_at (by omega) hx)) ?_
      refine rg_q (q_fieldAddr fld33_1 rfl) (rg_q (q_load sz3 rfl rfl) (rg_q (q_geq rfl rfl) ?_))
      refine rg_nil (aops_nil ?_)
      change Awp _ _ _ _ _
      refine awp_cond rfl (fun hc10 => ?_) (fun hc10 => ?_)
      ·
       (try simp only [nb, ne_eq] at hc10)
       rw [if_pos hc10] at he
       have hz : ckEls 0 a.el = ((k : Int), 15) := by rw [hf, hd, he]; rfl
       rw [hz] at hu
       refine awp_seq ?_
       refine awp_region 3 mixed (by kernel_rfl) ?_
       refine rg_q (q_move (x := .d (.v _)) rfl) (rg_q (q_assign (x := .d (.v _)) rfl) (rg_q (q_assign (x := .d (.v _)) rfl) ?_))
       refine rg_nil (aops_nil ?_)
       change Awp _ _ _ _ _
       refine awp_ret ?_
       refine ⟨_, (.cons (.tmp (by exact .d _)) (.cons (.tmp (by exact .d _)) .nil)), ?_⟩
       rw [hu]; rfl
      ·
       (try simp only [nb, ne_eq] at hc10)
       rw [if_neg (by omega)] at he
       refine awp_skip ?_
       change Awp _ _ _ _ _
       refine awp_region 3 mixed (by kernel_rfl) ?_
       refine rg_q (q_move (x := .d (.v _)) rfl) ?_
       refine rg_q (q_add rfl rfl (In64.mk (by omega) (by omega))) ?_
       refine rg_q (q_assign (x := .d (.v _)) rfl) ?_
       refine rg_nil (aops_nil ?_)
       refine ⟨k + 1, ⟨by omega, by rw [hf, hd, if_neg (by rw [he]; simp)]⟩, by omega, ?_⟩
       exact le_head (ms := []) (by repeat (first | exact Out.head rfl rfl | (refine Out.put ?_ rfl))) ⟨(by rfl), trivial⟩ trivial rfl rfl rfl rfl
    ·
     (try simp only [nb, ne_eq] at hc6)
     have hk0 : ckEls 0 a.el = (0, 0) := by rw [hf, List.drop_of_length_le (by omega)]; rfl
     rw [hk0, if_neg (by decide)] at hu
     refine awp_exit ?_
     change Awp _ _ _ _ _
     refine awp_seq ?_
     refine awp_seq ?_
     refine awp_region 4 mixed (by kernel_rfl) ?_
     refine rg_q (q_fieldAddr fld28_1 rfl) ?_
     refine rg_q (q_loadA (ds := [_, _, _, _]) sz24 rfl rfl rfl) ?_
     refine rg_q (q_call en124 (.cons rfl .nil) rfl (xcheckMode_p a.ou)) ?_
     refine rg_q (q_assign (x := .d (.v _)) rfl) ?_
     refine rg_nil (aops_nil ?_)
     change Awp _ _ _ _ _
     refine awp_seq ?_
     refine awp_region 2 mixed (by kernel_rfl) ?_
     refine rg_q (q_move (x := .d (.v _)) rfl) (rg_q (q_neq rfl rfl) ?_)
     refine rg_nil (aops_nil ?_)
     change Awp _ _ _ _ _
     refine awp_cond rfl (fun hc13 => ?_) (fun hc13 => ?_)
     ·
      (try simp only [nb, ne_eq] at hc13)
      rw [if_pos hc13] at h4
      refine awp_seq ?_
      refine awp_region 3 mixed (by kernel_rfl) ?_
      refine rg_q (q_move (x := .d (.v _)) rfl) (rg_q (q_assign (x := .d (.v _)) rfl) (rg_q (q_assign (x := .d (.v _)) rfl) ?_))
      refine rg_nil (aops_nil ?_)
      change Awp _ _ _ _ _
      refine awp_ret ?_
      refine ⟨_, (.cons (.tmp (by exact .d _)) (.cons (.tmp (by exact .d _)) .nil)), ?_⟩
      rw [hu, h4]; rfl
     ·
      (try simp only [nb, ne_eq] at hc13)
      rw [if_neg (fun q => q hc13)] at h4
      refine awp_skip ?_
      change Awp _ _ _ _ _
      refine awp_seq ?_
      refine awp_seq ?_
      refine awp_region 4 mixed (by kernel_rfl) ?_
      refine rg_q (q_fieldAddr fld28_2 rfl) ?_
      refine rg_q (q_loadA (ds := [_, _, _, _]) sz24 rfl rfl rfl) ?_
      refine rg_q (q_call en124 (.cons rfl .nil) rfl (xcheckMode_p a.ba)) ?_
      refine rg_q (q_assign (x := .d (.v _)) rfl) ?_
      refine rg_nil (aops_nil ?_)
      change Awp _ _ _ _ _
      refine awp_seq ?_
      refine awp_region 2 mixed (by kernel_rfl) ?_
      refine rg_q (q_move (x := .d (.v _)) rfl) (rg_q (q_neq rfl rfl) ?_)
      refine rg_nil (aops_nil ?_)
      change Awp _ _ _ _ _
      refine awp_cond rfl (fun hc16 => ?_) (fun hc16 => ?_)
      ·
       (try simp only [nb, ne_eq] at hc16)
       rw [if_pos hc16] at h4
       refine awp_seq ?_
       refine awp_region 3 mixed (by kernel_rfl) ?_
       refine rg_q (q_move (x := .d (.v _)) rfl) (rg_q (q_assign (x := .d (.v _)) rfl) (rg_q (q_assign (x := .d (.v _)) rfl) ?_))
       refine rg_nil (aops_nil ?_)
       change Awp _ _ _ _ _
       refine awp_ret ?_
       refine ⟨_, (.cons (.tmp (by exact .d _)) (.cons (.tmp (by exact .d _)) .nil)), ?_⟩
       rw [hu, h4]; rfl
      ·
       (try simp only [nb, ne_eq] at hc16)
       rw [if_neg (fun q => q hc16)] at h4
       refine awp_skip ?_
       change Awp _ _ _ _ _
       refine awp_seq ?_
       refine awp_seq ?_
       refine awp_region 7 mixed (by kernel_rfl) ?_
       refine rg_q (q_fieldAddr fld28_1 rfl) (rg_q (q_fieldAddr fld24_3 rfl) (rg_q (q_load sz3 rfl rfl) (rg_q (q_fieldAddr fld28_2 rfl) (rg_q (q_fieldAddr fld24_3 rfl) (rg_q (q_load sz3 rfl rfl) ?_)))))
       refine rg_q (q_neq rfl rfl) ?_
       refine rg_nil (aops_nil ?_)
       change Awp _ _ _ _ _
       refine awp_cond rfl (fun hc18 => ?_) (fun hc18 => ?_)
       ·
        (try simp only [nb, ne_eq] at hc18)
        have hw : whenI (decide (a.ou.t ≠ a.ba.t)) 23 = 23 := by unfold whenI; rw [if_pos (decide_eq_true hc18)]
        rw [hw, if_pos (by decide)] at h4
        refine awp_seq ?_
        refine awp_region 2 mixed (by kernel_rfl) ?_
        refine rg_q (q_assign (x := .d (.v _)) rfl) (rg_q (q_assign (x := .d (.v _)) rfl) ?_)
        refine rg_nil (aops_nil ?_)
        change Awp _ _ _ _ _
        refine awp_ret ?_
        refine ⟨_, (.cons (.tmp (by exact .d _)) (.cons (.tmp (by exact .d _)) .nil)), ?_⟩
        rw [hu, h4]; rfl
       ·
        (try simp only [nb, ne_eq] at hc18)
        have hw : whenI (decide (a.ou.t ≠ a.ba.t)) 23 = 0 := by unfold whenI; rw [if_neg (by simpa using hc18)]
        rw [hw, if_neg (by decide)] at h4
        refine awp_skip ?_
        change Awp _ _ _ _ _
        refine awp_seq ?_
        refine awp_region 5 mixed (by kernel_rfl) ?_
        refine rg_q (q_fieldAddr fld28_3 rfl) ?_
        refine rg_q (q_loadA (ds := [_, _]) sz26 rfl rfl rfl) ?_
        refine rg_q (q_call en168 (.cons rfl .nil) rfl (rcheckSampling_p _)) ?_
        refine rg_q (q_assign (x := .d (.v _)) rfl) (rg_q (q_assign (x := .d (.v _)) rfl) ?_)
        refine rg_nil (aops_nil ?_)
        change Awp _ _ _ _ _
        refine awp_ret ?_
        refine ⟨_, (.cons (.tmp (by exact .d _)) (.cons (.tmp (by exact .d _)) .nil)), ?_⟩
        rw [hu, h4]; rfl
set_option maxRecDepth 100000 in
theorem copySpots_p (l : List (Int × Int)) (hl : l.length ≤ 1000) : PC Tryz.prog 149 [.sl 2 (l.map shC)] (.sl 2 (l.map shC)) := by
 refine pc_of_awp Tryz.func149 rfl Tryz.ntmps149 (rs := [.tmp 2]) Tryz.results149 (by simp) fun w0 => ?_
 refine awp_seq ?_
 refine awp_region 1 mixed (by kernel_rfl) ?_
 refine rg_q (q_assign (x := .d (.sl _ _)) rfl) ?_
 refine rg_nil (aops_nil ?_)
 change Awp _ _ _ _ _
 refine awp_seq ?_
 refine awp_region 4 mixed (by kernel_rfl) ?_
 refine rg_q (q_empty0 sl22 zr33) ?_
 refine rg_q (q_move (x := .d (.sl _ _)) rfl) ?_
 refine rg_q (q_append0 sl22 zr33 by33 rfl (by decide) rfl rfl rfl (by (try simp only [List.length_map]); omega) (by (try simp only [List.length_map]); omega)) ?_
 refine rg_q (q_assign (x := .d (.sl _ _)) rfl) ?_
 refine rg_nil (aops_nil ?_)
 change Awp _ _ _ _ _
 refine awp_ret ?_
 refine ⟨_, (.cons (.tmp (by exact .d _)) .nil), ?_⟩
 rfl
set_option maxRecDepth 100000 in
theorem copyArr_p (a : Arr) (hl : a.el.length ≤ 1000) : PC Tryz.prog 79 [.agg (arrC a)] (.agg (arrC a)) := by
 refine pc_of_awp Tryz.func79 rfl Tryz.ntmps79 (rs := [.cell 2 28]) Tryz.results79 (by simp) fun w0 => ?_
 refine awp_seq ?_
 refine awp_region 0 mixed (by kernel_rfl) ?_
 refine rg_nil ?_
 refine aops_box (X := .agg (arrC a)) rfl (by exact .inr ⟨_, rfl⟩) rfl rfl rfl ?_
 refine aops_alloc zr28 rfl rfl rfl ?_
 refine aops_nil ?_
 change Awp _ _ _ _ _
 refine awp_seq ?_
 refine awp_region 4 mixed (by kernel_rfl) ?_
 refine rg_q (q_fieldAddr_ref fld28_0 rfl) (rg_q (q_load_ref sz22 rfl rfl rfl) ?_)
 refine rg_q (q_call en149 (.cons rfl .nil) rfl (copySpots_p _ (by omega))) ?_
 refine rg_q (q_fieldAddr_ref fld28_0 rfl) ?_
 refine rg_nil ?_
 refine aops_store sz22 rfl rfl (by exact .inl rfl) rfl rfl (by exact Nat.le_of_ble_eq_true rfl) rfl ?_
 refine aops_nil ?_
 change Awp _ _ _ _ _
 refine awp_seq ?_
 refine awp_region 1 mixed (by kernel_rfl) ?_
 refine rg_q (q_load_refA (ds := [_, _, _, _, _, _, _, _, _, _, _]) sz28 rfl rfl rfl rfl) ?_
 refine rg_nil ?_
 refine aops_store sz28 rfl rfl (by exact .inr ⟨_, rfl⟩) rfl rfl (by decide) rfl ?_
 refine aops_nil ?_
 change Awp _ _ _ _ _
 refine awp_ret ?_
 refine ⟨_, (.cons (.cellA rfl rfl sz28 rfl) .nil), ?_⟩
 rfl
end Go.Proofs.YtphlaicnmmglhaaGreat.Am.M
