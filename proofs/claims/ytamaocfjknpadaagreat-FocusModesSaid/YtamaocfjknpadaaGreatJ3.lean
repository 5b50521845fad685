/- Contracts over the abstract machine, joined. Conditions: none. -/
import Derived.Test.YtamaocfjknpadaaGreatJ2
import Derived.Test.YtamaocfjknpadaaGreatAmF
import Derived.Test.YtamaocfjknpadaaGreatJ1
set_option linter.unusedVariables false
set_option linter.unusedSimpArgs false
-- mini
set_option maxRecDepth 100000
namespace Go.Proofs.YtamaocfjknpadaaGreat.Am.M
open Go
theorem rcheckSampling_p (s : Int × Int) : PC Tryz.prog 168 [.agg (shC s)] (.v (.int .i64 (sampE s))) := by
 refine pc_of_awp Tryz.func168 rfl Tryz.ntmps168 (rs := [.tmp 2]) Tryz.results168 (by simp) fun w0 => ?_
 refine awp_seq ?_
 refine xa 2 ?_
 refine rg_q (q_box rfl (by exact .inr ⟨_, rfl⟩)) ?_
 refine rg_q (q_a rfl) ?_
 refine rs (awp_seq ?_)
 refine xa 10 ?_
 refine rg_q (q_fieldAddr fld26_0 rfl) (rg_q (q_load sz3 rfl rfl) ?_)
 refine rg_q (q_call en31 (.cons rfl (.cons rfl (.cons rfl .nil))) rfl (within4_p _ _ _)) ?_
 refine rg_q (q_not rfl) (rg_q (q_m rfl) ?_)
 refine rg_g rfl rfl (fun hG => (q_fieldAddr fld26_1 rfl)) ?_
 refine rg_g rfl rfl (fun hG => (q_load sz3 rfl rfl)) ?_
 refine rg_g rfl rfl (fun hG => (q_call en31 (.cons rfl (.cons rfl (.cons rfl .nil))) rfl (within4_p _ _ _))) ?_
 refine rg_g rfl rfl (fun hG => (q_not rfl)) ?_
 refine rg_pick rfl rfl rfl rfl rfl rfl ?_
 refine xc (awp_cond rfl (fun hc1 => ?_) (fun hc1 => ?_))
 ·
  (try simp only [nb, ne_eq] at hc1)
  have hz : sampE s = 2 := by unfold sampE; rw [if_neg (by intro h; simp_all)]
  refine awp_seq ?_
  refine xa 1 ?_
  refine rg_q (q_a rfl) ?_
  refine xc (awp_ret ?_)
  refine ⟨_, xk1, ?_⟩
  rw [hz]; rfl
 ·
  (try simp only [nb, ne_eq] at hc1)
  have hz : sampE s = 0 := by unfold sampE; rw [if_pos (by simp_all)]
  refine awp_skip ?_
  change Awp _ _ _ _ _
  refine awp_seq ?_
  refine xa 1 ?_
  refine rg_q (q_a rfl) ?_
  refine xc (awp_ret ?_)
  refine ⟨_, xk1, ?_⟩
  rw [hz]; rfl
theorem elE_is (p : Int × Int) : elE p = if (inR (-100000) p.1 100000 && inR (-100000) p.2 100000) = true then (if 0 ≤ p.2 then 15 else 0) else 2 := by
  unfold elE
  rw [spotE_is p]
  by_cases h : (inR (-100000) p.1 100000 && inR (-100000) p.2 100000) = true
  · rw [if_pos h, if_pos h]
    unfold firstE; rw [if_pos rfl]
    unfold firstE whenI
    by_cases h2 : 0 ≤ p.2
    · simp [firstE, h2]
    · simp [firstE, h2]
  · rw [if_neg h, if_neg h]; rfl
theorem first4 (a b c d : Int) : firstE [a, b, c, d] = if a ≠ 0 then a else if b ≠ 0 then b else if c ≠ 0 then c else d := by
  unfold firstE
  by_cases h1 : a = 0
  · rw [if_pos h1, if_neg (fun q => q h1)]
    unfold firstE
    by_cases h2 : b = 0
    · rw [if_pos h2, if_neg (fun q => q h2)]
      unfold firstE
      by_cases h3 : c = 0
      · rw [if_pos h3, if_neg (fun q => q h3)]
        unfold firstE
        by_cases h4 : d = 0
        · rw [if_pos h4, h4]; rfl
        · rw [if_neg h4]
      · rw [if_neg h3, if_pos h3]
    · rw [if_neg h2, if_pos h2]
  · rw [if_neg h1, if_pos h1]
theorem rcheckArr_p (a : Arr) : PC Tryz.prog 92 [.agg (arrC a)] (.tup [.v (.int .i64 ((ckArr a).1)), .v (.int .i64 ((ckArr a).2))]) := by
 have hu : ckArr a = if a.el.length = 0 then (0, 10) else if 16 < a.el.length then (0, 8) else if (ckEls 0 a.el).2 ≠ 0 then ckEls 0 a.el else (0, arrE0 a) := rfl
 have h4 : arrE0 a = if modeE a.ou ≠ 0 then modeE a.ou else if modeE a.ba ≠ 0 then modeE a.ba else if whenI (decide (a.ou.t ≠ a.ba.t)) 23 ≠ 0 then whenI (decide (a.ou.t ≠ a.ba.t)) 23 else sampE a.ts := first4 _ _ _ _
 refine pc_of_awp Tryz.func92 rfl Tryz.ntmps92 (rs := [.tmp 2, .tmp 3]) Tryz.results92 (by simp) fun w0 => ?_
 refine awp_seq ?_
 refine xa 3 ?_
 refine rg_q (q_box rfl (by exact .inr ⟨_, rfl⟩)) ?_
 refine rg_q (q_a rfl) (rg_q (q_a rfl) ?_)
 refine rs (awp_seq ?_)
 refine xa 4 ?_
 refine rg_q (q_fieldAddr fld28_0 rfl) (rg_q (q_load sz22 rfl rfl) ?_)
 refine rg_q (q_len isl22 rfl (by exact len_map _ _)) ?_
 refine rg_q (q_eql rfl rfl) ?_
 refine xc (awp_len (t := 8) rfl (fun hl8 => ?_))
 (try simp only [List.length_map] at hl8)
 refine awp_cond rfl (fun hc1 => ?_) (fun hc1 => ?_)
 ·
  (try simp only [nb, ne_eq] at hc1)
  rw [if_pos (by omega)] at hu
  refine awp_seq ?_
  refine xa 2 ?_
  refine rg_q (q_a rfl) (rg_q (q_a rfl) ?_)
  refine xc (awp_ret ?_)
  refine ⟨_, xk2, ?_⟩
  rw [hu]; rfl
 ·
  (try simp only [nb, ne_eq] at hc1)
  rw [if_neg (by omega)] at hu
  refine awp_skip ?_
  change Awp _ _ _ _ _
  refine awp_seq ?_
  refine awp_seq ?_
  refine xa 4 ?_
  refine rg_q (q_fieldAddr fld28_0 rfl) (rg_q (q_load sz22 rfl rfl) ?_)
  refine rg_q (q_len isl22 rfl (by exact len_map _ _)) ?_
  refine rg_q (q_gtr rfl rfl) ?_
  refine xc (awp_len (t := 12) rfl (fun hl12 => ?_))
  (try simp only [List.length_map] at hl12)
  refine awp_cond rfl (fun hc3 => ?_) (fun hc3 => ?_)
  ·
   (try simp only [nb, ne_eq] at hc3)
   rw [if_pos (by omega)] at hu
   refine awp_seq ?_
   refine xa 2 ?_
   refine rg_q (q_a rfl) (rg_q (q_a rfl) ?_)
   refine xc (awp_ret ?_)
   refine ⟨_, xk2, ?_⟩
   rw [hu]; rfl
  ·
   (try simp only [nb, ne_eq] at hc3)
   rw [if_neg (by omega)] at hu
   refine awp_skip ?_
   change Awp _ _ _ _ _
   refine awp_seq ?_
   refine awp_seq ?_
   refine xa 1 ?_
   refine rg_q (q_a rfl) ?_
   refine xc (awp_block ?_)
   refine awp_loopH [2, 3, 4, 15, 16, 17, 18, 19, 20, 21, 22, 23, 24, 25, 26, 27, 28, 29, 30, 31, 32, 33, 34, 35, 36, 37] [] (α := Nat) (fun k => [(4, T.i (k : Int))]) (fun k => []) (fun k => k ≤ a.el.length ∧ ckEls 0 a.el = ckEls k (a.el.drop k)) (fun k => a.el.length - k) 0 ⟨Nat.zero_le _, rfl⟩ ?_ ?_
   · exact xh (ms := []) (by repeat (exact Out.refl _)) ⟨(by rfl), trivial⟩ trivial
   ·
    intro k ⟨hk, hf⟩
    refine awp_seq ?_
    refine awp_seq ?_
    refine xa 5 ?_
    refine rg_q (q_m rfl) (rg_q (q_fieldAddr fld28_0 rfl) (rg_q (q_load sz22 rfl rfl) ?_))
    refine rg_q (q_len isl22 rfl (by exact len_map _ _)) ?_
    refine rg_q (q_lss rfl rfl) ?_
    refine xc (awp_len (t := 17) rfl (fun hl17 => ?_))
    (try simp only [List.length_map] at hl17)
    refine awp_cond rfl (fun hc6 => ?_) (fun hc6 => ?_)
    ·
     (try simp only [nb, ne_eq] at hc6)
     have hlt : k < a.el.length := by omega
     obtain ⟨x, hx⟩ : ∃ x, a.el[k]? = some x := ⟨_, List.getElem?_eq_getElem hlt⟩
     have hd := ckEls_at hx
     have he := elE_is x
     refine awp_skip ?_
     change Awp _ _ _ _ _
     refine awp_seq ?_
     refine awp_block ?_
     refine awp_seq ?_
     refine awp_seq ?_
     refine xa 7 ?_
     refine rg_q (q_fieldAddr fld28_0 rfl) (rg_q (q_load sz22 rfl rfl) (rg_q (q_m rfl) ?_))
     refine rg_q (q_indexAddr sl22 rfl rfl (by omega) (map_at (by omega) hx)) ?_
     refine rg_q (q_loadA (ds := [_, _]) sz33 rfl rfl rfl) ?_
     refine rg_q (q_call en167 (.cons rfl .nil) rfl (risSpot_p _)) ?_
     refine rg_q (q_not rfl) ?_
     refine xc (awp_cond rfl (fun hc8 => ?_) (fun hc8 => ?_))
     ·
      (try simp only [nb, ne_eq] at hc8)
      rw [if_neg (by rcases hc8 with q | q <;> simp [q])] at he
      have hz : ckEls 0 a.el = ((k : Int), 2) := by rw [hf, hd, he]; rfl
      rw [hz] at hu
      refine awp_seq ?_
      refine xa 3 ?_
      refine rg_q (q_m rfl) (rg_q (q_a rfl) (rg_q (q_a rfl) ?_))
      refine xc (awp_ret ?_)
      refine ⟨_, xk2, ?_⟩
      rw [hu]; rfl
     ·
      (try simp only [nb, ne_eq] at hc8)
      rw [if_pos (by simp [hc8.1, hc8.2])] at he
      refine awp_skip ?_
      change Awp _ _ _ _ _
      refine awp_seq ?_
      refine xa 7 ?_
      refine rg_q (q_fieldAddr fld28_0 rfl) (rg_q (q_load sz22 rfl rfl) (rg_q (q_m rfl) ?_))
      refine rg_q (q_indexAddr sl22 rfl rfl (by omega) (map_at (by omega) hx)) ?_
      refine rg_q (q_fieldAddr fld33_1 rfl) (rg_q (q_load sz3 rfl rfl) (rg_q (q_geq rfl rfl) ?_))
      refine xc (awp_cond rfl (fun hc10 => ?_) (fun hc10 => ?_))
      ·
       (try simp only [nb, ne_eq] at hc10)
       rw [if_pos hc10] at he
       have hz : ckEls 0 a.el = ((k : Int), 15) := by rw [hf, hd, he]; rfl
       rw [hz] at hu
       refine awp_seq ?_
       refine xa 3 ?_
       refine rg_q (q_m rfl) (rg_q (q_a rfl) (rg_q (q_a rfl) ?_))
       refine xc (awp_ret ?_)
       refine ⟨_, xk2, ?_⟩
       rw [hu]; rfl
      ·
       (try simp only [nb, ne_eq] at hc10)
       rw [if_neg (by omega)] at he
       refine awp_skip ?_
       change Awp _ _ _ _ _
       refine xa 3 ?_
       refine rg_q (q_m rfl) ?_
       refine rg_q (q_add rfl rfl xi) ?_
       refine rg_q (q_a rfl) ?_
       refine rn ?_
       refine ⟨k + 1, ⟨by omega, by rw [hf, hd, if_neg (by rw [he]; simp)]⟩, by omega, ?_⟩
       exact xh (ms := []) (by repeat (first | exact Out.head rfl rfl | (refine Out.put ?_ rfl))) ⟨(by rfl), trivial⟩ trivial
    ·
     (try simp only [nb, ne_eq] at hc6)
     have hk0 : ckEls 0 a.el = (0, 0) := by rw [hf, List.drop_of_length_le (by omega)]; rfl
     rw [hk0, if_neg (by decide)] at hu
     refine awp_exit ?_
     change Awp _ _ _ _ _
     refine awp_seq ?_
     refine awp_seq ?_
     refine xa 4 ?_
     refine rg_q (q_fieldAddr fld28_1 rfl) ?_
     refine rg_q (q_loadA (ds := [_, _, _, _]) sz24 rfl rfl rfl) ?_
     refine rg_q (q_call en124 (.cons rfl .nil) rfl (xcheckMode_p a.ou)) ?_
     refine rg_q (q_a rfl) ?_
     refine rs (xa 2 ?_)
     refine rg_q (q_m rfl) (rg_q (q_neq rfl rfl) ?_)
     refine xc (awp_cond rfl (fun hc13 => ?_) (fun hc13 => ?_))
     ·
      (try simp only [nb, ne_eq] at hc13)
      rw [if_pos hc13] at h4
      refine awp_seq ?_
      refine xa 3 ?_
      refine rg_q (q_m rfl) (rg_q (q_a rfl) (rg_q (q_a rfl) ?_))
      refine xc (awp_ret ?_)
      refine ⟨_, xk2, ?_⟩
      rw [hu, h4]; rfl
     ·
      (try simp only [nb, ne_eq] at hc13)
      rw [if_neg (fun q => q hc13)] at h4
      refine awp_skip ?_
      change Awp _ _ _ _ _
      refine awp_seq ?_
      refine awp_seq ?_
      refine xa 4 ?_
      refine rg_q (q_fieldAddr fld28_2 rfl) ?_
      refine rg_q (q_loadA (ds := [_, _, _, _]) sz24 rfl rfl rfl) ?_
      refine rg_q (q_call en124 (.cons rfl .nil) rfl (xcheckMode_p a.ba)) ?_
      refine rg_q (q_a rfl) ?_
      refine rs (xa 2 ?_)
      refine rg_q (q_m rfl) (rg_q (q_neq rfl rfl) ?_)
      refine xc (awp_cond rfl (fun hc16 => ?_) (fun hc16 => ?_))
      ·
       (try simp only [nb, ne_eq] at hc16)
       rw [if_pos hc16] at h4
       refine awp_seq ?_
       refine xa 3 ?_
       refine rg_q (q_m rfl) (rg_q (q_a rfl) (rg_q (q_a rfl) ?_))
       refine xc (awp_ret ?_)
       refine ⟨_, xk2, ?_⟩
       rw [hu, h4]; rfl
      ·
       (try simp only [nb, ne_eq] at hc16)
       rw [if_neg (fun q => q hc16)] at h4
       refine awp_skip ?_
       change Awp _ _ _ _ _
       refine awp_seq ?_
       refine awp_seq ?_
       refine xa 7 ?_
       refine rg_q (q_fieldAddr fld28_1 rfl) (rg_q (q_fieldAddr fld24_3 rfl) (rg_q (q_load sz3 rfl rfl) (rg_q (q_fieldAddr fld28_2 rfl) (rg_q (q_fieldAddr fld24_3 rfl) (rg_q (q_load sz3 rfl rfl) ?_)))))
       refine rg_q (q_neq rfl rfl) ?_
       refine xc (awp_cond rfl (fun hc18 => ?_) (fun hc18 => ?_))
       ·
        (try simp only [nb, ne_eq] at hc18)
        have hw : whenI (decide (a.ou.t ≠ a.ba.t)) 23 = 23 := by unfold whenI; rw [if_pos (decide_eq_true hc18)]
        rw [hw, if_pos (by decide)] at h4
        refine awp_seq ?_
        refine xa 2 ?_
        refine rg_q (q_a rfl) (rg_q (q_a rfl) ?_)
        refine xc (awp_ret ?_)
        refine ⟨_, xk2, ?_⟩
        rw [hu, h4]; rfl
       ·
        (try simp only [nb, ne_eq] at hc18)
        have hw : whenI (decide (a.ou.t ≠ a.ba.t)) 23 = 0 := by unfold whenI; rw [if_neg (by simpa using hc18)]
        rw [hw, if_neg (by decide)] at h4
        refine awp_skip ?_
        change Awp _ _ _ _ _
        refine awp_seq ?_
        refine xa 5 ?_
        refine rg_q (q_fieldAddr fld28_3 rfl) ?_
        refine rg_q (q_loadA (ds := [_, _]) sz26 rfl rfl rfl) ?_
        refine rg_q (q_call en168 (.cons rfl .nil) rfl (rcheckSampling_p _)) ?_
        refine rg_q (q_a rfl) (rg_q (q_a rfl) ?_)
        refine xc (awp_ret ?_)
        refine ⟨_, xk2, ?_⟩
        rw [hu, h4]; rfl
theorem copySpots_p (l : List (Int × Int)) (hl : l.length ≤ 1000) : PC Tryz.prog 149 [.sl 2 (l.map shC)] (.sl 2 (l.map shC)) := by
 refine pc_of_awp Tryz.func149 rfl Tryz.ntmps149 (rs := [.tmp 2]) Tryz.results149 (by simp) fun w0 => ?_
 refine awp_seq ?_
 refine xa 1 ?_
 refine rg_q (q_assign (x := .d (.sl _ _)) rfl) ?_
 refine rs (xa 4 ?_)
 refine rg_q (q_empty0 sl22 zr33) ?_
 refine rg_q (q_move (x := .d (.sl _ _)) rfl) ?_
 refine rg_q (q_append0 sl22 zr33 by33 rfl (by decide) rfl rfl rfl (by (try simp only [List.length_map]); omega) (by (try simp only [List.length_map]); omega)) ?_
 refine rg_q (q_assign (x := .d (.sl _ _)) rfl) ?_
 refine xc (awp_ret ?_)
 refine ⟨_, xk1, ?_⟩
 rfl
theorem copyArr_p (a : Arr) (hl : a.el.length ≤ 1000) : PC Tryz.prog 79 [.agg (arrC a)] (.agg (arrC a)) := by
 refine pc_of_awp Tryz.func79 rfl Tryz.ntmps79 (rs := [.cell 2 28]) Tryz.results79 (by simp) fun w0 => ?_
 refine awp_seq ?_
 refine xa 0 ?_
 refine rg_nil ?_
 refine aops_box (X := .agg (arrC a)) rfl (by exact .inr ⟨_, rfl⟩) rfl rfl rfl ?_
 refine aops_alloc zr28 rfl rfl rfl ?_
 refine aops_nil (xq (xa 4 ?_))
 refine rg_q (q_fieldAddr_ref fld28_0 rfl) (rg_q (q_load_ref sz22 rfl rfl rfl) ?_)
 refine rg_q (q_call en149 (.cons rfl .nil) rfl (copySpots_p _ (by omega))) ?_
 refine rg_q (q_fieldAddr_ref fld28_0 rfl) ?_
 refine rg_nil ?_
 refine aops_store sz22 rfl rfl (by exact .inl rfl) rfl rfl (by exact Nat.le_of_ble_eq_true rfl) rfl ?_
 refine aops_nil (xq (xa 1 ?_))
 refine rg_q (q_load_refA (ds := [_, _, _, _, _, _, _, _, _, _, _]) sz28 rfl rfl rfl rfl) ?_
 refine rg_nil ?_
 refine aops_store sz28 rfl rfl (by exact .inr ⟨_, rfl⟩) rfl rfl (by decide) rfl ?_
 refine aops_nil ?_
 change Awp _ _ _ _ _
 refine awp_ret ?_
 refine ⟨_, (.cons (.cellA rfl rfl sz28 rfl) .nil), ?_⟩
 rfl
end Go.Proofs.YtamaocfjknpadaaGreat.Am.M
-- mini
set_option maxRecDepth 100000
namespace Go.Proofs.YtamaocfjknpadaaGreat.Am.M
open Go
theorem rnumber_p (s : Int × Int) (t : Int) (h1 : 0 ≤ s.1) (h2 : s.1 ≤ 1000000000000) (h3 : 1 ≤ s.2) (h4 : s.2 ≤ 100000000) (h5 : 0 ≤ t) (h6 : t ≤ 1000000000000) : PC Tryz.prog 175 [.agg (shC s), .v (.int .i64 (t))] (.v (.int .i64 (rndI (t - s.1) s.2))) := by
 refine pc_of_awp Tryz.func175 rfl Tryz.ntmps175 (rs := [.tmp 4]) Tryz.results175 (by simp) fun w0 => ?_
 refine awp_seq ?_
 refine xa 2 ?_
 refine rg_q (q_box rfl (by exact .inr ⟨_, rfl⟩)) ?_
 refine rg_q (q_a rfl) ?_
 refine rs (xa 8 ?_)
 refine rg_q (q_m rfl) (rg_q (q_fieldAddr fld26_0 rfl) (rg_q (q_load sz3 rfl rfl) ?_))
 refine rg_q (q_sub rfl rfl xi) ?_
 refine rg_q (q_fieldAddr fld26_1 rfl) (rg_q (q_load sz3 rfl rfl) ?_)
 refine rg_q (q_call en239 (.cons rfl (.cons rfl .nil)) rfl (rrounded4_p _ _ (by omega) (by omega) (by omega) (by omega))) ?_
 refine rg_q (q_a rfl) ?_
 refine xc (awp_ret ?_)
 refine ⟨_, xk1, ?_⟩
 rfl

theorem el_in {a : Arr} (hok : ArrOk a) {i : Int} (h1 : 0 ≤ i) (h2 : i < a.el.length) : (-100000 ≤ (elAt a i).1 ∧ (elAt a i).1 ≤ 100000) ∧ -100000 ≤ (elAt a i).2 ∧ (elAt a i).2 < 0 :=
  hok.el _ (List.mem_of_getElem? (el_at h1 h2))
theorem plate_ok {z t : Int} : plateE z t = 0 ↔ 1 ≤ z ∧ z ≤ t - 1 := by
  unfold plateE; rw [must_zero (by decide)]; simp [inR]
theorem way_of {a : Arr} (hok : ArrOk a) {i : Int} (h1 : 0 ≤ i) (h2 : i < a.el.length) {t : Int × Int} (hs : spotE t = 0) (hp : plateE t.2 a.ou.t = 0) {m : Md} (hm : m.t = a.ou.t) : wayE m (elAt a i) t = 0 := by
  obtain ⟨⟨e1, e2⟩, e3, e4⟩ := el_in hok h1 h2
  have hp2 := plate_ok.1 hp
  unfold wayE
  rw [first_zero]
  intro x hx
  simp only [List.mem_cons, List.not_mem_nil, or_false] at hx
  rcases hx with rfl | rfl | rfl | rfl
  · exact spot_ok.2 (by omega)
  · exact hs
  · rw [must_zero (by decide)]; simpa using e4
  · rw [must_zero (by decide), hm]; simp [inR]; omega
theorem rechoAt_p (a : Arr) (t p : Int × Int) (hok : ArrOk a) (hpk : (0 ≤ p.1 ∧ p.1 < a.el.length) ∧ 0 ≤ p.2 ∧ p.2 < a.el.length) (hs : spotE t = 0) (hp : plateE t.2 a.ou.t = 0) : PC Tryz.prog 179 [.agg (arrC a), .agg (shC t), .agg (shC p)] (.v (.int .i64 (echI a t p))) := by
 obtain ⟨⟨p1, p2⟩, p3, p4⟩ := hpk
 have hx := el_at p1 p2
 have hy := el_at p3 p4
 have hw1 := way_of hok p1 p2 hs hp (m := a.ou) rfl
 have hw2 := way_of hok p3 p4 hs hp (m := a.ba) hok.th.symm
 have e1 : ((p.1.toNat : Nat) : Int) = p.1 := by omega
 have e2 : ((p.2.toNat : Nat) : Int) = p.2 := by omega
 have r1 := rt_in a.ou (elAt a p.1) t
 have r2 := rt_in a.ba (elAt a p.2) t
 refine pc_of_awpN Tryz.func179 rfl Tryz.ntmps179 (rs := [.tmp 6]) Tryz.results179 (by simp) fun w0 hmine hrnd hpn => ?_
 refine awp_seq ?_
 refine xa 4 ?_
 refine rg_q (q_box rfl (by exact .inr ⟨_, rfl⟩)) ?_
 refine rg_q (q_box rfl (by exact .inr ⟨_, rfl⟩)) ?_
 refine rg_q (q_box rfl (by exact .inr ⟨_, rfl⟩)) ?_
 refine rg_q (q_a rfl) ?_
 refine rs (xa 22 ?_)
 refine rg_q (q_fieldAddr fld28_1 rfl) ?_
 refine rg_q (q_loadA (ds := [_, _, _, _]) sz24 rfl rfl rfl) ?_
 refine rg_q (q_fieldAddr fld28_0 rfl) (rg_q (q_load sz22 rfl rfl) ?_)
 refine rg_q (q_indexAddr_ar ar63 rfl rfl (by omega) (by omega)) ?_
 refine rg_q (q_load sz3 rfl rfl) ?_
 refine rg_q (q_indexAddr sl22 rfl rfl (by omega) (map_at (k := p.1.toNat) (by omega) hx)) ?_
 refine rg_q (q_loadA (ds := [_, _]) sz33 rfl rfl rfl) ?_
 refine rg_q (q_loadA (ds := [_, _]) sz33 rfl rfl rfl) ?_
 refine rg_q (q_call en244 (.cons rfl (.cons rfl (.cons rfl .nil))) rfl (xrounded_p a.ou (elAt a p.1) t hok.ou hw1)) ?_
 refine rg_q (q_fieldAddr fld28_2 rfl) ?_
 refine rg_q (q_loadA (ds := [_, _, _, _]) sz24 rfl rfl rfl) ?_
 refine rg_q (q_fieldAddr fld28_0 rfl) (rg_q (q_load sz22 rfl rfl) ?_)
 refine rg_q (q_indexAddr_ar ar63 rfl rfl (by omega) (by omega)) ?_
 refine rg_q (q_load sz3 rfl rfl) ?_
 refine rg_q (q_indexAddr sl22 rfl rfl (by omega) (map_at (k := p.2.toNat) (by omega) hy)) ?_
 refine rg_q (q_loadA (ds := [_, _]) sz33 rfl rfl rfl) ?_
 refine rg_q (q_loadA (ds := [_, _]) sz33 rfl rfl rfl) ?_
 refine rg_q (q_call en244 (.cons rfl (.cons rfl (.cons rfl .nil))) rfl (xrounded_p a.ba (elAt a p.2) t hok.ba hw2)) ?_
 refine rg_q (q_add rfl rfl xi) ?_
 refine rg_q (q_a rfl) ?_
 refine xc (awp_ret ?_)
 refine ⟨_, xk1, ?_⟩
 rfl
theorem rsampleOf_p (a : Arr) (t p : Int × Int) (hok : ArrOk a) (hpk : (0 ≤ p.1 ∧ p.1 < a.el.length) ∧ 0 ≤ p.2 ∧ p.2 < a.el.length) (hs : spotE t = 0) (hp : plateE t.2 a.ou.t = 0) : PC Tryz.prog 111 [.agg (arrC a), .agg (shC t), .agg (shC p)] (.v (.int .i64 (smpI a t p))) := by
 have he := ech_in a t p
 refine pc_of_awpN Tryz.func111 rfl Tryz.ntmps111 (rs := [.tmp 6]) Tryz.results111 (by simp) fun w0 hmine hrnd hpn => ?_
 refine awp_seq ?_
 refine xa 4 ?_
 refine rg_q (q_box rfl (by exact .inr ⟨_, rfl⟩)) ?_
 refine rg_q (q_box rfl (by exact .inr ⟨_, rfl⟩)) ?_
 refine rg_q (q_box rfl (by exact .inr ⟨_, rfl⟩)) ?_
 refine rg_q (q_a rfl) ?_
 refine rs (xa 8 ?_)
 refine rg_q (q_fieldAddr fld28_3 rfl) ?_
 refine rg_q (q_loadA (ds := [_, _]) sz26 rfl rfl rfl) ?_
 refine rg_q (q_loadA (ds := [_, _, _, _, _, _, _, _, _, _, _]) sz28 rfl rfl rfl) ?_
 refine rg_q (q_loadA (ds := [_, _]) sz33 rfl rfl rfl) ?_
 refine rg_q (q_loadA (ds := [_, _]) sz63 rfl rfl rfl) ?_
 refine rg_q (q_call en179 (.cons rfl (.cons rfl (.cons rfl .nil))) rfl (rechoAt_p a t p hok hpk hs hp)) ?_
 refine rg_q (q_call en175 (.cons rfl (.cons rfl .nil)) rfl (rnumber_p a.ts (echI a t p) hok.t1 hok.t2 hok.t3 hok.t4 (by omega) (by omega))) ?_
 refine rg_q (q_a rfl) ?_
 refine xc (awp_ret ?_)
 refine ⟨_, xk1, ?_⟩
 rfl

def erI (a : Arr) (t p : Int × Int) : Rg := ((ltI a.ou (elAt a p.1) t).1.1 + (ltI a.ba (elAt a p.2) t).1.1, (ltI a.ou (elAt a p.1) t).1.2 + (ltI a.ba (elAt a p.2) t).1.2)
end Go.Proofs.YtamaocfjknpadaaGreat.Am.M
-- mini
set_option maxRecDepth 100000
namespace Go.Proofs.YtamaocfjknpadaaGreat.Am.M
open Go

def echC (m n : Md) (a t b : Int × Int) : List D := mdC m ++ mdC n ++ shC a ++ shC t ++ shC b
theorem echoTime_p (m n : Md) (a t b : Int × Int) (hm : MdOk m) (hn : MdOk n) (hw1 : wayE m a t = 0) (hw2 : wayE n b t = 0) : PC Tryz.prog 237 [.agg (echC m n a t b)] (.tup [.agg [.v (.int .i64 ((ltI m a t).1.1 + (ltI n b t).1.1)), .v (.int .i64 ((ltI m a t).1.2 + (ltI n b t).1.2))], .v (.int .i64 (0))]) := by
 have hfe : firstE [modeE m, modeE n] = 0 := first_zero.2 (by intro x hx; simp only [List.mem_cons, List.not_mem_nil, or_false] at hx; rcases hx with q | q; (rw [q]; exact mode_ok.2 hm); (rw [q]; exact mode_ok.2 hn))
 have hz1 := (way_law hm hw1).1
 have hz2 := (way_law hn hw2).1
 have hcx1 := (way_law hm hw1).2
 have hcx2 := (way_law hn hw2).2
 have hl1 := lt_is hm hw1
 have hl2 := lt_is hn hw2
 have li1 := least_in hcx1
 have li2 := least_in hcx2
 obtain ⟨a1, a2, a3, a4⟩ := li1
 obtain ⟨b1, b2, b3, b4⟩ := li2
 have f1 : (wayI m a t).2 = 0 := by rw [hz1]
 have f2 : (wayI n b t).2 = 0 := by rw [hz2]
 refine pc_of_awpN Tryz.func237 rfl Tryz.ntmps237 (rs := [.cell 2 56, .tmp 3]) Tryz.results237 (by simp) fun w0 hmine hrnd hpn => ?_
 refine awp_seq ?_
 refine xa 1 ?_
 refine rg_q (q_box rfl (by exact .inr ⟨_, rfl⟩)) ?_
 refine rg_nil ?_
 refine aops_alloc zr56 rfl rfl rfl ?_
 refine aops_q rfl (q_a rfl) ?_
 refine aops_nil (xq (awp_seq ?_))
 refine xa 9 ?_
 refine rg_q (q_fieldAddr fld339_0 rfl) ?_
 refine rg_q (q_loadA (ds := [_, _, _, _]) sz24 rfl rfl rfl) ?_
 refine rg_q (q_call en122 (.cons rfl .nil) rfl (checkMode_p m)) ?_
 refine rg_q (q_fieldAddr fld339_1 rfl) ?_
 refine rg_q (q_loadA (ds := [_, _, _, _]) sz24 rfl rfl rfl) ?_
 refine rg_q (q_call en122 (.cons rfl .nil) rfl (checkMode_p n)) ?_
 refine rg_q (q_buildSlice sl282 zr40 rfl rfl (by decide) (.cons rfl (by exact .inl rfl) (.cons rfl (by exact .inl rfl) .nil)) ⟨rfl, rfl, rfl, rfl, trivial⟩ rfl (by decide) rfl) ?_
 refine rg_q (q_call en183 (.cons rfl .nil) rfl (rfirst_p [_, _])) ?_
 refine rg_q (q_a rfl) ?_
 refine rs (xa 2 ?_)
 refine rg_q (q_m rfl) (rg_q (q_neq rfl rfl) ?_)
 refine xc (awp_cond rfl (fun hc2 => ?_) (fun hc2 => ?_))
 ·
  exact absurd hfe (of_decide_eq_true hc2)
 ·
  (try simp only [nb, ne_eq] at hc2)
  refine awp_skip ?_
  change Awp _ _ _ _ _
  refine awp_seq ?_
  refine xa 10 ?_
  refine rg_q (q_fieldAddr fld339_0 rfl) ?_
  refine rg_q (q_loadA (ds := [_, _, _, _]) sz24 rfl rfl rfl) ?_
  refine rg_q (q_fieldAddr fld339_2 rfl) ?_
  refine rg_q (q_loadA (ds := [_, _]) sz33 rfl rfl rfl) ?_
  refine rg_q (q_fieldAddr fld339_3 rfl) ?_
  refine rg_q (q_loadA (ds := [_, _]) sz33 rfl rfl rfl) ?_
  refine rg_q (q_call en268 (.cons rfl (.cons rfl (.cons rfl .nil))) rfl (way_p m a t hm)) ?_
  refine rg_q (q_move (x := .d (.tup _)) rfl) (rg_q (q_extract rfl rfl) (rg_q (q_extract rfl rfl) ?_))
  refine rg_nil ?_
  refine aops_alloc zr366 rfl rfl rfl ?_
  refine aops_store sz366 rfl rfl (by exact .inr ⟨_, rfl⟩) rfl rfl (by decide) rfl ?_
  refine aops_q rfl (q_a rfl) ?_
  refine aops_nil (xq (awp_seq ?_))
  refine xa 2 ?_
  refine rg_q (q_m rfl) (rg_q (q_neq rfl rfl) ?_)
  refine xc (awp_cond rfl (fun hc5 => ?_) (fun hc5 => ?_))
  ·
   exact absurd f1 (of_decide_eq_true hc5)
  ·
   (try simp only [nb, ne_eq] at hc5)
   refine awp_skip ?_
   change Awp _ _ _ _ _
   refine awp_seq ?_
   refine xa 10 ?_
   refine rg_q (q_fieldAddr fld339_1 rfl) ?_
   refine rg_q (q_loadA (ds := [_, _, _, _]) sz24 rfl rfl rfl) ?_
   refine rg_q (q_fieldAddr fld339_4 rfl) ?_
   refine rg_q (q_loadA (ds := [_, _]) sz33 rfl rfl rfl) ?_
   refine rg_q (q_fieldAddr fld339_3 rfl) ?_
   refine rg_q (q_loadA (ds := [_, _]) sz33 rfl rfl rfl) ?_
   refine rg_q (q_call en268 (.cons rfl (.cons rfl (.cons rfl .nil))) rfl (way_p n b t hn)) ?_
   refine rg_q (q_move (x := .d (.tup _)) rfl) (rg_q (q_extract rfl rfl) (rg_q (q_extract rfl rfl) ?_))
   refine rg_nil ?_
   refine aops_alloc zr366 rfl rfl rfl ?_
   refine aops_store sz366 rfl rfl (by exact .inr ⟨_, rfl⟩) rfl rfl (by decide) rfl ?_
   refine aops_q rfl (q_a rfl) ?_
   refine aops_nil (xq (awp_seq ?_))
   refine xa 2 ?_
   refine rg_q (q_m rfl) (rg_q (q_neq rfl rfl) ?_)
   refine xc (awp_cond rfl (fun hc8 => ?_) (fun hc8 => ?_))
   ·
    exact absurd f2 (of_decide_eq_true hc8)
   ·
    (try simp only [nb, ne_eq] at hc8)
    refine awp_skip ?_
    change Awp _ _ _ _ _
    refine awp_seq ?_
    refine xa 5 ?_
    refine rg_q (q_load_refA (ds := [_, _, _, _, _, _]) sz366 rfl rfl rfl rfl) ?_
    refine rg_q (q_call en270 (.cons rfl .nil) rfl (least_p (wayI m a t).1 hcx1)) ?_
    refine rg_q (q_load_refA (ds := [_, _, _, _, _, _]) sz366 rfl rfl rfl rfl) ?_
    refine rg_q (q_call en270 (.cons rfl .nil) rfl (least_p (wayI n b t).1 hcx2)) ?_
    refine rg_q (q_call en269 (.cons rfl (.cons rfl .nil)) rfl (plus_p (leastI (wayI m a t).1) (leastI (wayI n b t).1) (by omega) (by omega) (by omega) (by omega) (by omega) (by omega) (by omega) (by omega))) ?_
    refine rg_nil ?_
    refine aops_store sz56 rfl rfl (by exact .inr ⟨_, rfl⟩) rfl rfl (by decide) rfl ?_
    refine aops_q rfl (q_a rfl) ?_
    refine aops_nil ?_
    change Awp _ _ _ _ _
    refine awp_ret ?_
    refine ⟨_, (.cons (.cellA rfl rfl sz56 rfl) xk1), ?_⟩
    rw [hl1, hl2]; rfl

def erR (a : Arr) (t p : Int × Int) : Rg × Int := if opE a t p ≠ 0 then ((0, 0), opE a t p) else (erI a t p, 0)
theorem echoRange_p (a : Arr) (t p : Int × Int) : PC Tryz.prog 172 [.agg (arrC a), .agg (shC t), .agg (shC p)] (.tup [.agg [.v (.int .i64 (((erR a t p).1).1)), .v (.int .i64 (((erR a t p).1).2))], .v (.int .i64 ((erR a t p).2))]) := by
 refine pc_of_awpN Tryz.func172 rfl Tryz.ntmps172 (rs := [.cell 6 56, .tmp 7]) Tryz.results172 (by simp) fun w0 hmine hrnd hpn => ?_
 refine awp_seq ?_
 refine xa 3 ?_
 refine rg_q (q_box rfl (by exact .inr ⟨_, rfl⟩)) ?_
 refine rg_q (q_box rfl (by exact .inr ⟨_, rfl⟩)) ?_
 refine rg_q (q_box rfl (by exact .inr ⟨_, rfl⟩)) ?_
 refine rg_nil ?_
 refine aops_alloc zr56 rfl rfl rfl ?_
 refine aops_q rfl (q_a rfl) ?_
 refine aops_nil (xq (awp_seq ?_))
 refine xa 7 ?_
 refine rg_q (q_loadA (ds := [_, _, _, _, _, _, _, _, _, _, _]) sz28 rfl rfl rfl) ?_
 refine rg_q (q_loadA (ds := [_, _]) sz33 rfl rfl rfl) ?_
 refine rg_q (q_loadA (ds := [_, _]) sz63 rfl rfl rfl) ?_
 refine rg_q (q_call en229 (.cons rfl (.cons rfl (.cons rfl .nil))) rfl (bopen_p _ _ _)) ?_
 refine rg_q (q_move (x := .d (.tup _)) rfl) (rg_q (q_extract rfl rfl) (rg_q (q_extract rfl rfl) ?_))
 refine rg_nil ?_
 refine aops_alloc zr242 rfl rfl rfl ?_
 refine aops_store sz242 rfl rfl (by exact .inr ⟨_, rfl⟩) rfl rfl (by decide) rfl ?_
 refine aops_q rfl (q_a rfl) ?_
 refine aops_nil (xq (xa 2 ?_))
 refine rg_q (q_m rfl) (rg_q (q_neq rfl rfl) ?_)
 refine xc (awp_cond rfl (fun hc2 => ?_) (fun hc2 => ?_))
 ·
  (try simp only [nb, ne_eq] at hc2)
  have hz : erR a t p = ((0, 0), opE a t p) := by unfold erR; rw [if_pos hc2]
  refine awp_seq ?_
  refine xa 2 ?_
  refine rg_q (q_build (cs := [_, _]) pl56 zr56 rfl .nil trivial rfl) ?_
  refine rg_q (q_m rfl) ?_
  refine rg_nil ?_
  refine aops_store sz56 rfl rfl (by exact .inr ⟨_, rfl⟩) rfl rfl (by decide) rfl ?_
  refine aops_q rfl (q_a rfl) ?_
  refine aops_nil ?_
  change Awp _ _ _ _ _
  refine awp_ret ?_
  refine ⟨_, (.cons (.cellA rfl rfl sz56 rfl) xk1), ?_⟩
  rw [hz]; rfl
 ·
  (try simp only [nb, ne_eq] at hc2)
  have ho : opE a t p = 0 := by simpa using hc2
  obtain ⟨hok, hpk, hs, hp⟩ := op_ok ho
  have hz : erR a t p = (erI a t p, 0) := by unfold erR; rw [if_neg (by rw [ho]; simp)]
  obtain ⟨⟨p1, p2⟩, p3, p4⟩ := hpk
  have hx := el_at p1 p2
  have hy := el_at p3 p4
  have hw1 := way_of hok p1 p2 hs hp (m := a.ou) rfl
  have hw2 := way_of hok p3 p4 hs hp (m := a.ba) hok.th.symm
  have e1 : ((p.1.toNat : Nat) : Int) = p.1 := by omega
  have e2 : ((p.2.toNat : Nat) : Int) = p.2 := by omega
  refine awp_skip ?_
  change Awp _ _ _ _ _
  refine awp_seq ?_
  refine xa 21 ?_
  refine rg_q (q_fieldAddr fld28_1 rfl) ?_
  refine rg_q (q_loadA (ds := [_, _, _, _]) sz24 rfl rfl rfl) ?_
  refine rg_q (q_fieldAddr fld28_2 rfl) ?_
  refine rg_q (q_loadA (ds := [_, _, _, _]) sz24 rfl rfl rfl) ?_
  refine rg_q (q_fieldAddr fld28_0 rfl) (rg_q (q_load sz22 rfl rfl) ?_)
  refine rg_q (q_indexAddr_ar ar63 rfl rfl (by omega) (by omega)) ?_
  refine rg_q (q_load sz3 rfl rfl) ?_
  refine rg_q (q_indexAddr sl22 rfl rfl (by omega) (map_at (k := p.1.toNat) (by omega) hx)) ?_
  refine rg_q (q_loadA (ds := [_, _]) sz33 rfl rfl rfl) ?_
  refine rg_q (q_loadA (ds := [_, _]) sz33 rfl rfl rfl) ?_
  refine rg_q (q_fieldAddr fld28_0 rfl) (rg_q (q_load sz22 rfl rfl) ?_)
  refine rg_q (q_indexAddr_ar ar63 rfl rfl (by omega) (by omega)) ?_
  refine rg_q (q_load sz3 rfl rfl) ?_
  refine rg_q (q_indexAddr sl22 rfl rfl (by omega) (map_at (k := p.2.toNat) (by omega) hy)) ?_
  refine rg_q (q_loadA (ds := [_, _]) sz33 rfl rfl rfl) ?_
  refine rg_q (q_build pl339 zr339 rfl (.cons rfl (by exact .inr ⟨_, rfl⟩) (.cons rfl (by exact .inr ⟨_, rfl⟩) (.cons rfl (by exact .inr ⟨_, rfl⟩) (.cons rfl (by exact .inr ⟨_, rfl⟩) (.cons rfl (by exact .inr ⟨_, rfl⟩) .nil))))) ⟨⟨rfl, by decide⟩, ⟨rfl, by decide⟩, ⟨rfl, by decide⟩, ⟨rfl, by decide⟩, ⟨rfl, by decide⟩, trivial⟩ rfl) ?_
  refine rg_q (q_call en237 (.cons rfl .nil) rfl (echoTime_p a.ou a.ba (elAt a p.1) t (elAt a p.2) hok.ou hok.ba hw1 hw2)) ?_
  refine rg_q (q_extract rfl rfl) (rg_q (q_extract rfl rfl) ?_)
  refine rg_nil ?_
  refine aops_store sz56 rfl rfl (by exact .inr ⟨_, rfl⟩) rfl rfl (by decide) rfl ?_
  refine aops_q rfl (q_a rfl) ?_
  refine aops_nil ?_
  change Awp _ _ _ _ _
  refine awp_ret ?_
  refine ⟨_, (.cons (.cellA rfl rfl sz56 rfl) xk1), ?_⟩
  rw [hz]; rfl
end Go.Proofs.YtamaocfjknpadaaGreat.Am.M
-- mini
set_option maxRecDepth 100000
namespace Go.Proofs.YtamaocfjknpadaaGreat.Am.M
open Go
theorem tsmall_p (n m : Int) (h1 : 0 ≤ m) (h2 : m ≤ 1000000000000) : PC Tryz.prog 267 [.v (.int .i64 (n)), .v (.int .i64 (m))] (.v (.bool (inR (-m) n m))) := by
 refine pc_of_awp Tryz.func267 rfl Tryz.ntmps267 (rs := [.tmp 4]) Tryz.results267 (by simp) fun w0 => ?_
 refine awp_seq ?_
 refine xa 1 ?_
 refine rg_q (q_a rfl) ?_
 refine rs (xa 6 ?_)
 refine rg_q (q_m rfl) (rg_q (q_m rfl) ?_)
 refine rg_q (q_neg rfl xi) ?_
 refine rg_q (q_m rfl) ?_
 refine rg_q (q_call en155 (.cons rfl (.cons rfl (.cons rfl .nil))) rfl (twithin_p _ _ _)) ?_
 refine rg_q (q_a rfl) ?_
 refine xc (awp_ret ?_)
 refine ⟨_, xk1, ?_⟩
 rfl

structure Whl (b : Nat) (n : Int) : Prop where
  lo : -2047 ≤ n
  hi : n ≤ 2047
  self : ordB .neq (FloatKind.f32.format.order b b) = false
  sub : floatBits .sub .f32 b b = some 0
  ge : ordB .geq (FloatKind.f32.format.order b 1266679808) = false
  le : ordB .leq (FloatKind.f32.format.order b 3414163456) = false
  int : floatToIntVal .f32 b .i64 = some n
  back : ordB .neq (FloatKind.f32.format.order (FloatKind.f32.nearest n) b) = false
def vI (b : Nat) : Int := (floatToIntVal .f32 b .i64).getD 0
theorem Whl.v {b : Nat} {n : Int} (h : Whl b n) : vI b = n := by unfold vI; rw [h.int]; rfl
theorem whl_fn {n : Int} (h1 : -2047 ≤ n) (h2 : n ≤ 2047) : Whl (FloatKind.f32.nearest n) n := by
  have hf := f32_of (show -16777215 ≤ n by omega) (by omega)
  refine ⟨h1, h2, f32_neq hf, ?_, f32_geq hf, f32_leq hf, f32_int hf, f32_neq hf⟩
  have h := f32_sub hf hf (by rw [Int.sub_self]; exact f32_of (by decide) (by decide))
  rw [Int.sub_self] at h; exact h
theorem whl_zero : ordB .neq (FloatKind.f32.format.order 0 0) = false := f32_neq (a := 0) (f32_of (by decide) (by decide))
def WhlL (bs : List Nat) : Prop := ∀ b ∈ bs, Whl b (vI b)
theorem tsampleErr_p (b : Nat) (n : Int) (h : Whl b n) : PC Tryz.prog 234 [fd b] (.v (.int .i64 (0))) := by
 have h1 := h.lo
 have h2 := h.hi
 have hr : inR (-2047) n 2047 = true := by simp [inR]; omega
 refine pc_of_awp Tryz.func234 rfl Tryz.ntmps234 (rs := [.tmp 2]) Tryz.results234 (by simp) fun w0 => ?_
 refine awp_seq ?_
 refine xa 1 ?_
 refine rg_q (q_a rfl) ?_
 refine rs (awp_block ?_)
 refine awp_seq ?_
 refine xa 10 ?_
 refine rg_q (q_m rfl) (rg_q (q_m rfl) ?_)
 refine rg_q (q_fcmp (by decide) rfl rfl h.self) ?_
 refine rg_q (q_m rfl) ?_
 refine rg_g rfl rfl (fun hG => (q_m rfl)) ?_
 refine rg_g rfl rfl (fun hG => (q_m rfl)) ?_
 refine rg_g rfl rfl (fun hG => (q_fbin (by decide) rfl rfl h.sub)) ?_
 refine rg_g rfl rfl (fun hG => (q_fcmp (by decide) rfl rfl whl_zero)) ?_
 refine rg_pick rfl rfl rfl rfl rfl rfl ?_
 refine rg_q (q_a rfl) ?_
 refine xc (awp_cond rfl (fun hc1 => ?_) (fun hc1 => ?_))
 ·
  cases hc1
 ·
  (try simp only [nb, ne_eq] at hc1)
  refine awp_seq ?_
  refine xa 7 ?_
  refine rg_q (q_m rfl) ?_
  refine rg_q (q_fcmp (by decide) rfl rfl h.ge) ?_
  refine rg_q (q_m rfl) ?_
  refine rg_g rfl rfl (fun hG => (q_m rfl)) ?_
  refine rg_g rfl rfl (fun hG => (q_fcmp (by decide) rfl rfl h.le)) ?_
  refine rg_pick rfl rfl rfl rfl rfl rfl ?_
  refine rg_q (q_a rfl) ?_
  refine xc (awp_cond rfl (fun hc3 => ?_) (fun hc3 => ?_))
  ·
   cases hc3
  ·
   (try simp only [nb, ne_eq] at hc3)
   refine awp_seq ?_
   refine xa 6 ?_
   refine rg_q (q_m rfl) ?_
   refine rg_q (q_convfi flt117 int3 rfl h.int) ?_
   refine rg_q (q_convf int3 flt117 rfl) ?_
   refine rg_q (q_m rfl) ?_
   refine rg_q (q_fcmp (by decide) rfl rfl h.back) ?_
   refine rg_q (q_a rfl) ?_
   refine xc (awp_cond rfl (fun hc5 => ?_) (fun hc5 => ?_))
   ·
    cases hc5
   ·
    (try simp only [nb, ne_eq] at hc5)
    refine awp_seq ?_
    refine xa 5 ?_
    refine rg_q (q_m rfl) ?_
    refine rg_q (q_convfi flt117 int3 rfl h.int) ?_
    refine rg_q (q_call en267 (.cons rfl (.cons rfl .nil)) rfl (tsmall_p _ _ (by omega) (by omega))) ?_
    refine rg_q (q_not rfl) (rg_q (q_a rfl) ?_)
    refine xc (awp_cond rfl (fun hc7 => ?_) (fun hc7 => ?_))
    ·
     rw [show inR (-2047) n 2047 = true from hr] at hc7
     cases hc7
    ·
     (try simp only [nb, ne_eq] at hc7)
     refine awp_skip ?_
     change Awp _ _ _ _ _
     refine awp_seq ?_
     refine xa 1 ?_
     refine rg_q (q_a rfl) ?_
     refine xc (awp_ret ?_)
     refine ⟨_, xk1, ?_⟩
     rfl
theorem tsamplesErr_p (l : List Nat) (hb : WhlL l) : PC Tryz.prog 165 [.sl 1 (l.map fC)] (.tup [.v (.int .i64 (0)), .v (.int .i64 (0))]) := by
 refine pc_of_awp Tryz.func165 rfl Tryz.ntmps165 (rs := [.tmp 2, .tmp 3]) Tryz.results165 (by simp) fun w0 => ?_
 refine awp_seq ?_
 refine xa 2 ?_
 refine rg_q (q_a rfl) (rg_q (q_a rfl) ?_)
 refine rs (awp_seq ?_)
 refine xa 3 ?_
 refine rg_q (q_move (x := .d (.sl _ _)) rfl) ?_
 refine rg_q (q_len isl29 rfl (by exact len_map _ _)) ?_
 refine rg_q (q_m rfl) ?_
 refine xc (awp_len (t := 7) rfl (fun hl7 => ?_))
 (try simp only [List.length_map] at hl7)
 refine awp_block ?_
 refine awp_loopH [2, 3, 4, 5, 6, 9, 10, 11, 12, 13, 14, 15, 16, 17, 18, 19, 20] [] (α := Nat) (fun k => [(9, T.i (k : Int))]) (fun k => []) (fun k => k ≤ l.length) (fun k => l.length - k) 0 (Nat.zero_le _) ?_ ?_
 · exact xh (ms := []) (by repeat (exact Out.refl _)) ⟨(by rfl), trivial⟩ trivial
 ·
  intro k hk
  refine awp_seq ?_
  refine xa 1 ?_
  refine rg_q (q_lss rfl rfl) ?_
  refine rs (awp_cond rfl (fun hc2 => ?_) (fun hc2 => ?_))
  ·
   (try simp only [nb, ne_eq] at hc2)
   have hlt : k < l.length := by omega
   obtain ⟨x, hx⟩ : ∃ x, l[k]? = some x := ⟨_, List.getElem?_eq_getElem hlt⟩
   have hx1 := hb x (List.mem_of_getElem? hx)
   refine awp_skip ?_
   change Awp _ _ _ _ _
   refine awp_seq ?_
   refine awp_block ?_
   refine awp_seq ?_
   refine xa 5 ?_
   refine rg_q (q_m rfl) ?_
   refine rg_q (q_indexAddr sl29 rfl rfl (by omega) (map_at (by omega) hx)) ?_
   refine rg_q (q_load sz117 rfl rfl) (rg_q (q_a rfl) (rg_q (q_a rfl) ?_))
   refine rs (xa 3 ?_)
   refine rg_q (q_m rfl) ?_
   refine rg_q (q_call en234 (.cons rfl .nil) rfl (tsampleErr_p _ _ (by assumption))) ?_
   refine rg_q (q_a rfl) ?_
   refine rs (xa 2 ?_)
   refine rg_q (q_m rfl) (rg_q (q_neq rfl rfl) ?_)
   refine xc (awp_cond rfl (fun hc5 => ?_) (fun hc5 => ?_))
   ·
    simp at hc5
   ·
    (try simp only [nb, ne_eq] at hc5)
    refine awp_skip ?_
    change Awp _ _ _ _ _
    refine xa 2 ?_
    refine rg_q (q_add rfl rfl xi) ?_
    refine rg_q (q_m rfl) ?_
    refine rn ?_
    refine ⟨k + 1, by omega, by omega, ?_⟩
    exact xh (ms := []) (by repeat (first | exact Out.head rfl rfl | (refine Out.put ?_ rfl))) ⟨(by rfl), trivial⟩ trivial
  ·
   (try simp only [nb, ne_eq] at hc2)
   refine awp_exit ?_
   change Awp _ _ _ _ _
   refine awp_seq ?_
   refine xa 2 ?_
   refine rg_q (q_a rfl) (rg_q (q_a rfl) ?_)
   refine xc (awp_ret ?_)
   refine ⟨_, xk2, ?_⟩
   rfl
theorem tcheckTrace_p (l : List Nat) (hS : l.length = 64) (hb : WhlL l) : PC Tryz.prog 275 [.agg (l.map fd)] (.tup [.v (.int .i64 (0)), .v (.int .i64 (0))]) := by
 refine pc_of_awp Tryz.func275 rfl Tryz.ntmps275 (rs := [.tmp 2, .tmp 3]) Tryz.results275 (by simp) fun w0 => ?_
 refine awp_seq ?_
 refine xa 3 ?_
 refine rg_q (q_box rfl (by exact .inr ⟨_, rfl⟩)) ?_
 refine rg_q (q_a rfl) (rg_q (q_a rfl) ?_)
 refine rs (xa 6 ?_)
 refine rg_q (q_sliceP (es := l.map fC) ar236 rfl (by show (l.map fd).length = 64; rw [List.length_map]; exact hS) (by decide) (by decide) (fd_row l)) ?_
 refine rg_q (q_call en165 (.cons rfl .nil) rfl (tsamplesErr_p l hb)) ?_
 refine rg_q (q_extract rfl rfl) (rg_q (q_extract rfl rfl) (rg_q (q_a rfl) (rg_q (q_a rfl) ?_)))
 refine xc (awp_ret ?_)
 refine ⟨_, xk2, ?_⟩
 rfl
theorem traceErr_p (l : List Nat) (hS : l.length = 64) (hb : WhlL l) : PC Tryz.prog 245 [.agg (l.map fd)] (.v (.int .i64 (0))) := by
 refine pc_of_awp Tryz.func245 rfl Tryz.ntmps245 (rs := [.tmp 2]) Tryz.results245 (by simp) fun w0 => ?_
 refine awp_seq ?_
 refine xa 2 ?_
 refine rg_q (q_box rfl (by exact .inr ⟨_, rfl⟩)) ?_
 refine rg_q (q_a rfl) ?_
 refine rs (xa 7 ?_)
 refine rg_q (q_loadA (ds := l.map fd) sz236 rfl (by rw [List.drop_zero]; exact List.take_of_length_le (by show (l.map fd).length ≤ 64; rw [List.length_map]; omega)) (by rw [List.length_map]; exact hS)) ?_
 refine rg_q (q_call en275 (.cons rfl .nil) rfl (tcheckTrace_p _ (by assumption) (by assumption))) ?_
 refine rg_q (q_move (x := .d (.tup _)) rfl) (rg_q (q_extract rfl rfl) (rg_q (q_extract rfl rfl) (rg_q (q_a rfl) (rg_q (q_a rfl) ?_))))
 refine rs (xa 2 ?_)
 refine rg_q (q_m rfl) (rg_q (q_a rfl) ?_)
 refine xc (awp_ret ?_)
 refine ⟨_, xk1, ?_⟩
 rfl
theorem checkMatrix_p (ne : Int) (l : List Nat) (h1 : 1 ≤ ne) (h2 : ne ≤ 16) (hl : (l.length : Int) = ne * ne * 64) (hb : WhlL l) : PC Tryz.prog 86 [.agg [.v (.int .i64 (ne)), .sl 1 (l.map fC)]] (.tup [.v (.int .i64 (0)), .v (.int .i64 (0))]) := by
 have hm := mulb (a := ne) (b := ne) (A := 16) (B := 16) (by omega) (by omega) (by omega) (by omega)
 refine pc_of_awp Tryz.func86 rfl Tryz.ntmps86 (rs := [.tmp 2, .tmp 3]) Tryz.results86 (by simp) fun w0 => ?_
 refine awp_seq ?_
 refine xa 3 ?_
 refine rg_q (q_box rfl (by exact .inr ⟨_, rfl⟩)) ?_
 refine rg_q (q_a rfl) (rg_q (q_a rfl) ?_)
 refine rs (awp_block ?_)
 refine awp_seq ?_
 refine xa 5 ?_
 refine rg_q (q_fieldAddr fld31_0 rfl) (rg_q (q_load sz3 rfl rfl) ?_)
 refine rg_q (q_call en155 (.cons rfl (.cons rfl (.cons rfl .nil))) rfl (twithin_p _ _ _)) ?_
 refine rg_q (q_not rfl) (rg_q (q_a rfl) ?_)
 refine xc (awp_cond rfl (fun hc1 => ?_) (fun hc1 => ?_))
 ·
  simp [inR] at hc1
  omega
 ·
  (try simp only [nb, ne_eq] at hc1)
  refine awp_seq ?_
  refine xa 11 ?_
  refine rg_q (q_fieldAddr fld31_1 rfl) (rg_q (q_load sz29 rfl rfl) ?_)
  refine rg_q (q_len isl29 rfl (by exact len_map _ _)) ?_
  refine rg_q (q_fieldAddr fld31_0 rfl) (rg_q (q_load sz3 rfl rfl) (rg_q (q_fieldAddr fld31_0 rfl) (rg_q (q_load sz3 rfl rfl) ?_)))
  refine rg_q (q_mul rfl rfl xi) ?_
  refine rg_q (q_mul rfl rfl xi) ?_
  refine rg_q (q_neq rfl rfl) (rg_q (q_a rfl) ?_)
  refine xc (awp_len (t := 11) rfl (fun hl11 => ?_))
  (try simp only [List.length_map] at hl11)
  refine awp_cond rfl (fun hc3 => ?_) (fun hc3 => ?_)
  ·
   rw [decide_eq_true_eq] at hc3
   exact absurd hl hc3
  ·
   (try simp only [nb, ne_eq] at hc3)
   refine awp_skip ?_
   change Awp _ _ _ _ _
   refine awp_seq ?_
   refine xa 7 ?_
   refine rg_q (q_fieldAddr fld31_1 rfl) (rg_q (q_load sz29 rfl rfl) ?_)
   refine rg_q (q_call en165 (.cons rfl .nil) rfl (tsamplesErr_p l hb)) ?_
   refine rg_q (q_extract rfl rfl) (rg_q (q_extract rfl rfl) (rg_q (q_a rfl) (rg_q (q_a rfl) ?_)))
   refine xc (awp_ret ?_)
   refine ⟨_, xk2, ?_⟩
   rfl

def outN (S : List Int) (k : Nat) : List D := (S.take k).map iv ++ List.replicate (64 - k) (iv 0)
theorem outN_len {S : List Int} {k : Nat} (hS : S.length = 64) (hk : k ≤ 64) : (outN S k).length = 64 := by unfold outN; rw [List.length_append, List.length_map, List.length_take, List.length_replicate]; omega
theorem outN_set {S : List Int} {k : Nat} {x : Int} (hS : S.length = 64) (h : S[k]? = some x) : setCs (outN S k) (0 + (k : Int).toNat * 1) [iv x] = outN S (k + 1) := by
  obtain ⟨hlt, hx⟩ := List.getElem?_eq_some_iff.1 h
  have hl : ((S.take k).map iv).length = k := by rw [List.length_map, List.length_take]; omega
  rw [Int.toNat_natCast, Nat.zero_add, Nat.mul_one, setCs_one (by rw [outN_len hS (by omega)]; omega)]
  unfold outN
  rw [List.set_append_right _ _ (by omega), hl, Nat.sub_self, show 64 - k = (64 - (k + 1)) + 1 by omega, List.replicate_succ, List.set_cons_zero, List.take_succ_eq_append_getElem hlt, hx, List.map_append, List.append_assoc]
  rfl
theorem outN_all {S : List Int} (hS : S.length = 64) : outN S 64 = S.map iv := by
  unfold outN
  rw [List.take_of_length_le (by omega)]; simp
theorem fd_at {l : List Nat} {k : Nat} {x : Nat} (h : l[k]? = some x) : (l.map fd)[0 + (k : Int).toNat * 1]? = some (fd x) := by rw [Int.toNat_natCast, Nat.zero_add, Nat.mul_one, List.getElem?_map, h]; rfl
theorem vI_len {l : List Nat} (h : l.length = 64) : ((l.map vI).map iv).length = 64 := by rw [List.length_map, List.length_map]; exact h
theorem vI_at {l : List Nat} {k x : Nat} (h : l[k]? = some x) : (l.map vI)[k]? = some (vI x) := by rw [List.getElem?_map, h]; rfl
theorem vI_in {l : List Nat} (h : WhlL l) : ∀ v ∈ l.map vI, -2047 ≤ v ∧ v ≤ 2047 := by
  intro v hv
  obtain ⟨b, hb, rfl⟩ := List.mem_map.1 hv
  exact ⟨(h b hb).lo, (h b hb).hi⟩
theorem numbersOf_p (l : List Nat) (hS : l.length = 64) (hb : WhlL l) : PC Tryz.prog 232 [.pt (l.map fd) 0] (.agg ((l.map vI).map iv)) := by
 have hS2 : (l.map vI).length = 64 := by rw [List.length_map]; exact hS
 refine pc_of_awp Tryz.func232 rfl Tryz.ntmps232 (rs := [.cell 2 262]) Tryz.results232 (by simp) fun w0 => ?_
 refine awp_seq ?_
 refine xa 0 ?_
 refine rg_nil ?_
 refine aops_alloc zr262 rfl rfl rfl ?_
 refine aops_nil (xq (awp_seq ?_))
 refine xa 2 ?_
 refine rg_q (q_move (x := .d (.pt _ _)) rfl) (rg_q (q_m rfl) ?_)
 refine xc (awp_block ?_)
 refine awp_loopH [3, 4, 6, 7, 8, 9, 10, 11, 12, 13, 14, 15, 16] [2] (α := Nat) (fun k => [(6, T.i (k : Int))]) (fun k => [(2, .box (outN (l.map vI) k))]) (fun k => k ≤ 64) (fun k => 64 - k) 0 (Nat.zero_le _) ?_ ?_
 · exact xh (ms := [2]) (by repeat (exact Out.refl _)) ⟨(by rfl), trivial⟩ ⟨(by rfl), trivial⟩
 ·
  intro k hk
  refine awp_seq ?_
  refine xa 1 ?_
  refine rg_q (q_lss rfl rfl) ?_
  refine rs (awp_cond rfl (fun hc2 => ?_) (fun hc2 => ?_))
  ·
   (try simp only [nb, ne_eq] at hc2)
   have hlt : k < l.length := by omega
   obtain ⟨x, hx⟩ : ∃ x, l[k]? = some x := ⟨_, List.getElem?_eq_getElem hlt⟩
   have hx1 := hb x (List.mem_of_getElem? hx)
   have hld := fd_at hx
   have hst := outN_set hS2 (vI_at hx)
   have hol := outN_len (k := k) hS2 (by omega)
   refine awp_skip ?_
   change Awp _ _ _ _ _
   refine awp_seq ?_
   refine awp_block ?_
   refine awp_seq ?_
   refine xa 6 ?_
   refine rg_q (q_m rfl) (rg_q (q_nilCheck rfl) ?_)
   refine rg_q (q_indexAddr_ar ar236 rfl rfl (by omega) (by omega)) ?_
   refine rg_q (q_load sz117 rfl hld) (rg_q (q_a rfl) (rg_q (q_a rfl) ?_))
   refine rn ?_
   change Awp _ _ _ _ _
   refine xa 4 ?_
   refine rg_q (q_m rfl) (rg_q (q_m rfl) ?_)
   refine rg_q (q_convfi flt117 int3 rfl hx1.int) ?_
   refine rg_q (q_indexAddr_aref ar262 rfl rfl (by omega) (by omega)) ?_
   refine rg_nil ?_
   refine aops_store (cs' := outN (l.map vI) (k + 1)) sz3 rfl rfl (by exact .inl rfl) rfl rfl (by rw [hol]; omega) hst ?_
   refine aops_nil ?_
   change Awp _ _ _ _ _
   refine xa 2 ?_
   refine rg_q (q_add rfl rfl xi) ?_
   refine rg_q (q_m rfl) ?_
   refine rn ?_
   refine ⟨k + 1, by omega, by omega, ?_⟩
   exact xh (ms := [2]) (by repeat (first | exact Out.head rfl rfl | (refine Out.put ?_ rfl) | (refine Out.site ?_ rfl))) ⟨(by rfl), trivial⟩ ⟨(by rfl), trivial⟩
  ·
   (try simp only [nb, ne_eq] at hc2)
   have hk64 : k = 64 := by omega
   subst hk64
   rw [outN_all hS2]
   refine awp_exit ?_
   change Awp _ _ _ _ _
   refine awp_seq ?_
   refine xa 1 ?_
   refine rg_q (q_load_refA (ds := (l.map vI).map iv) sz262 rfl rfl (by rw [List.drop_zero]; exact List.take_of_length_le (by rw [vI_len hS]; exact Nat.le_refl _)) (vI_len hS)) ?_
   refine rg_nil ?_
   refine aops_store (cs' := (l.map vI).map iv) sz262 rfl rfl (by exact .inr ⟨_, rfl⟩) (vI_len hS) rfl (by rw [vI_len hS]; decide) (setCs_all (by rfl)) ?_
   refine aops_nil ?_
   change Awp _ _ _ _ _
   refine awp_ret ?_
   refine ⟨_, (.cons (.cellA rfl rfl sz262 (vI_len hS)) .nil), ?_⟩
   rfl

def sAt (S : List Int) (k : Nat) : Int := S.getD k 0
def reI (S : List Int) (k : Nat) : Int := sAt S k - sAt S (k + 2)
def imI (S : List Int) (k : Nat) : Int := sAt S (k + 1) - sAt S (k + 3)
theorem win4 {S : List Int} (hS : S.length = 64) {k : Nat} (hk : k < 61) : ((((S.map iv).take (k + 4)).drop k).map fun d => [d]) = [iv (sAt S k), iv (sAt S (k + 1)), iv (sAt S (k + 2)), iv (sAt S (k + 3))].map fun d => [d] := by
  congr 1
  have hg : ∀ i, i < 64 → S[i]? = some (sAt S i) := fun i hi => by
    unfold sAt
    rw [List.getD_eq_getElem?_getD, List.getElem?_eq_getElem (by omega)]; rfl
  apply List.ext_getElem?
  intro i
  rw [List.getElem?_drop, List.getElem?_take, List.getElem?_map]
  match i with
  | 0 => rw [if_pos (by omega), hg _ (by omega)]; rfl
  | 1 => rw [if_pos (by omega), hg _ (by omega)]; rfl
  | 2 => rw [if_pos (by omega), hg _ (by omega)]; rfl
  | 3 => rw [if_pos (by omega), hg _ (by omega)]; rfl
  | i + 4 => rw [if_neg (by omega)]; rfl
theorem sAt_in {S : List Int} (hb : ∀ v ∈ S, -2047 ≤ v ∧ v ≤ 2047) (k : Nat) : -2047 ≤ sAt S k ∧ sAt S k ≤ 2047 := by
  unfold sAt
  rw [List.getD_eq_getElem?_getD]
  cases h : S[k]? with
  | none => exact ⟨by decide, by decide⟩
  | some v => exact hb v (List.mem_of_getElem? h)
theorem tparts_p (S : List Int) (hS : S.length = 64) (hb : ∀ v ∈ S, -2047 ≤ v ∧ v ≤ 2047) (k : Nat) (hk : k < 61) : PC Tryz.prog 246 [.pt (S.map iv) 0, .v (.int .i64 ((k : Int)))] (.tup [.v (.int .i64 (reI S k)), .v (.int .i64 (imI S k))]) := by
 have b0 := sAt_in hb k
 have b1 := sAt_in hb (k + 1)
 have b2 := sAt_in hb (k + 2)
 have b3 := sAt_in hb (k + 3)
 have hlm : (S.map iv).length = 64 := by rw [List.length_map]; exact hS
 refine pc_of_awpN Tryz.func246 rfl Tryz.ntmps246 (rs := [.tmp 4, .tmp 5]) Tryz.results246 (by simp) fun w0 hmine hrnd hpn => ?_
 refine awp_seq ?_
 refine xa 2 ?_
 refine rg_q (q_a rfl) (rg_q (q_a rfl) ?_)
 refine rs (xa 8 ?_)
 refine rg_q (q_move (x := .d (.pt _ _)) rfl) (rg_q (q_nilCheck rfl) (rg_q (q_m rfl) (rg_q (q_m rfl) ?_)))
 refine rg_q (q_add rfl rfl xi) ?_
 refine rg_q (q_slicePP (lo := k) (hi := k + 4) (es := [iv (sAt S k), iv (sAt S (k + 1)), iv (sAt S (k + 2)), iv (sAt S (k + 3))].map fun d => [d]) ar262 rfl hlm (by decide) rfl rfl (by omega) (by omega) (by omega) (win4 hS hk)) ?_
 refine rg_q (q_toArr (cs := [iv (sAt S k), iv (sAt S (k + 1)), iv (sAt S (k + 2)), iv (sAt S (k + 3))]) ar375 rfl rfl rfl (by decide)) ?_
 refine rg_q (q_loadA (ds := [_, _, _, _]) sz375 rfl rfl rfl) ?_
 refine rg_nil ?_
 refine aops_alloc zr375 rfl rfl rfl ?_
 refine aops_store sz375 rfl rfl (by exact .inr ⟨_, rfl⟩) rfl rfl (by decide) rfl ?_
 refine aops_nil (xq (xa 12 ?_))
 refine rg_q (q_indexAddr_aref ar375 rfl rfl (by omega) (by omega)) ?_
 refine rg_q (q_load_ref sz3 rfl rfl rfl) ?_
 refine rg_q (q_indexAddr_aref ar375 rfl rfl (by omega) (by omega)) ?_
 refine rg_q (q_load_ref sz3 rfl rfl rfl) ?_
 refine rg_q (q_sub rfl rfl xi) ?_
 refine rg_q (q_indexAddr_aref ar375 rfl rfl (by omega) (by omega)) ?_
 refine rg_q (q_load_ref sz3 rfl rfl rfl) ?_
 refine rg_q (q_indexAddr_aref ar375 rfl rfl (by omega) (by omega)) ?_
 refine rg_q (q_load_ref sz3 rfl rfl rfl) ?_
 refine rg_q (q_sub rfl rfl xi) ?_
 refine rg_q (q_a rfl) (rg_q (q_a rfl) ?_)
 refine xc (awp_ret ?_)
 refine ⟨_, xk2, ?_⟩
 rfl

theorem sq_bnd {S : List Int} (hb : ∀ v ∈ S, -2047 ≤ v ∧ v ≤ 2047) (k : Nat) : (-4094 ≤ reI S k ∧ reI S k ≤ 4094) ∧ (-4094 ≤ imI S k ∧ imI S k ≤ 4094) := by
  have b0 := sAt_in hb k
  have b1 := sAt_in hb (k + 1)
  have b2 := sAt_in hb (k + 2)
  have b3 := sAt_in hb (k + 3)
  unfold reI imI; omega

def cx (re im : Int) : D := .v (.complex .f32 (FloatKind.f32.nearest re) (FloatKind.f32.nearest im))
def anL (S : List Int) : List D := (List.range 61).map fun k => cx (reI S k) (imI S k)
def outA (S : List Int) (k : Nat) : List D := ((List.range k).map fun k => cx (reI S k) (imI S k)) ++ List.replicate (61 - k) (.v (.complex .f32 0 0))
theorem outA_len {S : List Int} {k : Nat} (hk : k ≤ 61) : (outA S k).length = 61 := by unfold outA; rw [List.length_append, List.length_map, List.length_range, List.length_replicate]; omega
theorem outA_set {S : List Int} {k : Nat} (hk : k < 61) : setCs (outA S k) (0 + (k : Int).toNat * 1) [cx (reI S k) (imI S k)] = outA S (k + 1) := by
  have hl : ((List.range k).map fun k => cx (reI S k) (imI S k)).length = k := by rw [List.length_map, List.length_range]
  rw [Int.toNat_natCast, Nat.zero_add, Nat.mul_one, setCs_one (by rw [outA_len (by omega)]; omega)]
  unfold outA
  rw [List.set_append_right _ _ (by omega), hl, Nat.sub_self, show 61 - k = (61 - (k + 1)) + 1 by omega, List.replicate_succ, List.set_cons_zero, List.range_succ, List.map_append, List.append_assoc]
  rfl
theorem outA_all (S : List Int) : outA S 61 = anL S := by unfold outA anL; simp
theorem anL_len (S : List Int) : (anL S).length = 61 := by unfold anL; rw [List.length_map, List.length_range]
theorem analytic_p (l : List Nat) (hS : l.length = 64) (hb : WhlL l) : PC Tryz.prog 180 [.agg (l.map fd)] (.tup [.agg (anL (l.map vI)), .v (.int .i64 (0))]) := by
 have hlm := vI_len hS
 have hS2 : (l.map vI).length = 64 := by rw [List.length_map]; exact hS
 have hb2 := vI_in hb
 refine pc_of_awpN Tryz.func180 rfl Tryz.ntmps180 (rs := [.cell 2 272, .tmp 3]) Tryz.results180 (by simp) fun w0 hmine hrnd hpn => ?_
 refine awp_seq ?_
 refine xa 1 ?_
 refine rg_q (q_box rfl (by exact .inr ⟨_, rfl⟩)) ?_
 refine rg_nil ?_
 refine aops_alloc zr272 rfl rfl rfl ?_
 refine aops_q rfl (q_a rfl) ?_
 refine aops_nil (xq (xa 0 ?_))
 refine rg_nil ?_
 refine aops_alloc zr272 rfl rfl rfl ?_
 refine aops_nil (xq (awp_seq ?_))
 refine xa 3 ?_
 refine rg_q (q_loadA (ds := l.map fd) sz236 rfl (by rw [List.drop_zero]; exact List.take_of_length_le (by show (l.map fd).length ≤ 64; rw [List.length_map]; omega)) (by rw [List.length_map]; exact hS)) ?_
 refine rg_q (q_call en245 (.cons rfl .nil) rfl (traceErr_p _ (by assumption) (by assumption))) ?_
 refine rg_q (q_a rfl) ?_
 refine rs (xa 2 ?_)
 refine rg_q (q_m rfl) (rg_q (q_neq rfl rfl) ?_)
 refine xc (awp_cond rfl (fun hc3 => ?_) (fun hc3 => ?_))
 ·
  simp at hc3
 ·
  (try simp only [nb, ne_eq] at hc3)
  refine awp_skip ?_
  change Awp _ _ _ _ _
  refine awp_seq ?_
  refine xa 1 ?_
  refine rg_q (q_call en232 (.cons rfl .nil) rfl (numbersOf_p l hS hb)) ?_
  refine rg_nil ?_
  refine aops_allocD zr262 rfl sz262 rfl rfl (by exact .inr ⟨_, rfl⟩) hlm rfl ?_
  refine aops_nil (xq (awp_seq ?_))
  refine xa 1 ?_
  refine rg_q (q_m rfl) ?_
  refine xc (awp_block ?_)
  refine awp_loopH [7, 8, 9, 17, 18, 19, 20, 21, 22, 23, 24, 25, 26, 27, 28, 29, 30, 31, 32] [4] (α := Nat) (fun k => [(17, T.i (k : Int))]) (fun k => [(4, .box (outA (l.map vI) k))]) (fun k => k ≤ 61) (fun k => 61 - k) 0 (Nat.zero_le _) ?_ ?_
  · exact xh (ms := [4]) (by repeat (exact Out.refl _)) ⟨(by rfl), trivial⟩ ⟨(by rfl), trivial⟩
  ·
   intro k hk
   refine awp_seq ?_
   refine xa 1 ?_
   refine rg_q (q_lss rfl rfl) ?_
   refine rs (awp_cond rfl (fun hc7 => ?_) (fun hc7 => ?_))
   ·
    (try simp only [nb, ne_eq] at hc7)
    have hlt : k < 61 := by omega
    have hst := outA_set (S := l.map vI) hlt
    have hol := outA_len (S := l.map vI) (k := k) (by omega)
    refine awp_skip ?_
    change Awp _ _ _ _ _
    refine awp_seq ?_
    refine awp_block ?_
    refine awp_seq ?_
    refine xa 2 ?_
    refine rg_q (q_m rfl) (rg_q (q_a rfl) ?_)
    refine rs (xa 7 ?_)
    refine rg_q (q_m rfl) ?_
    refine rg_q (q_call en246 (.cons rfl (.cons rfl .nil)) rfl (tparts_p (l.map vI) hS2 hb2 k hlt)) ?_
    refine rg_q (q_move (x := .d (.tup _)) rfl) (rg_q (q_extract rfl rfl) (rg_q (q_extract rfl rfl) (rg_q (q_a rfl) (rg_q (q_a rfl) ?_))))
    refine rn ?_
    change Awp _ _ _ _ _
    refine xa 7 ?_
    refine rg_q (q_m rfl) (rg_q (q_m rfl) ?_)
    refine rg_q (q_convf int3 flt117 rfl) ?_
    refine rg_q (q_m rfl) ?_
    refine rg_q (q_convf int3 flt117 rfl) ?_
    refine rg_q (q_complex rfl rfl) ?_
    refine rg_q (q_indexAddr_aref ar272 rfl rfl (by omega) (by omega)) ?_
    refine rg_nil ?_
    refine aops_store (cs' := outA (l.map vI) (k + 1)) sz178 rfl rfl (by exact .inl rfl) rfl rfl (by rw [hol]; omega) hst ?_
    refine aops_nil ?_
    change Awp _ _ _ _ _
    refine xa 2 ?_
    refine rg_q (q_add rfl rfl xi) ?_
    refine rg_q (q_m rfl) ?_
    refine rn ?_
    refine ⟨k + 1, by omega, by omega, ?_⟩
    exact xh (ms := [4]) (by repeat (first | exact Out.head rfl rfl | (refine Out.put ?_ rfl) | (refine Out.site ?_ rfl))) ⟨(by rfl), trivial⟩ ⟨(by rfl), trivial⟩
   ·
    (try simp only [nb, ne_eq] at hc7)
    have hk61 : k = 61 := by omega
    subst hk61
    rw [outA_all]
    refine awp_exit ?_
    change Awp _ _ _ _ _
    refine awp_seq ?_
    refine xa 1 ?_
    refine rg_q (q_load_refA (ds := anL (l.map vI)) sz272 rfl rfl (by rw [List.drop_zero]; exact List.take_of_length_le (by rw [anL_len]; exact Nat.le_refl _)) (anL_len _)) ?_
    refine rg_nil ?_
    refine aops_store (cs' := anL (l.map vI)) sz272 rfl rfl (by exact .inr ⟨_, rfl⟩) (anL_len _) rfl (Nat.le_of_ble_eq_true rfl) (setCs_all (anL_len _)) ?_
    refine aops_q rfl (q_a rfl) ?_
    refine aops_nil ?_
    change Awp _ _ _ _ _
    refine awp_ret ?_
    refine ⟨_, (.cons (.cellA rfl rfl sz272 (anL_len _)) xk1), ?_⟩
    rfl
end Go.Proofs.YtamaocfjknpadaaGreat.Am.M
-- mini
set_option maxRecDepth 100000
namespace Go.Proofs.YtamaocfjknpadaaGreat.Am.M
open Go
theorem fwithin_p (n lo hi : Int) : PC Tryz.prog 89 [.v (.int .i64 (n)), .v (.int .i64 (lo)), .v (.int .i64 (hi))] (.v (.bool (inR lo n hi))) := by
 refine pc_of_awp Tryz.func89 rfl Tryz.ntmps89 (rs := [.tmp 6]) Tryz.results89 (by simp) fun w0 => ?_
 refine awp_seq ?_
 refine xa 1 ?_
 refine rg_q (q_a rfl) ?_
 refine rs (xa 9 ?_)
 refine rg_q (q_m rfl) (rg_q (q_m rfl) (rg_q (q_leq rfl rfl) (rg_q (q_m rfl) ?_)))
 refine rg_g rfl rfl (fun hG => (q_m rfl)) ?_
 refine rg_g rfl rfl (fun hG => (q_m rfl)) ?_
 refine rg_g rfl rfl (fun hG => (q_leq rfl rfl)) ?_
 refine rg_pick rfl rfl rfl rfl rfl rfl ?_
 refine rg_q (q_a rfl) ?_
 refine xc (awp_ret ?_)
 refine ⟨_, xk1, ?_⟩
 simp only [bif_and]; rfl
theorem fsmall_p (n m : Int) (h1 : 0 ≤ m) (h2 : m ≤ 1000000000000) : PC Tryz.prog 166 [.v (.int .i64 (n)), .v (.int .i64 (m))] (.v (.bool (inR (-m) n m))) := by
 refine pc_of_awp Tryz.func166 rfl Tryz.ntmps166 (rs := [.tmp 4]) Tryz.results166 (by simp) fun w0 => ?_
 refine awp_seq ?_
 refine xa 1 ?_
 refine rg_q (q_a rfl) ?_
 refine rs (xa 6 ?_)
 refine rg_q (q_m rfl) (rg_q (q_m rfl) ?_)
 refine rg_q (q_neg rfl xi) ?_
 refine rg_q (q_m rfl) ?_
 refine rg_q (q_call en89 (.cons rfl (.cons rfl (.cons rfl .nil))) rfl (fwithin_p _ _ _)) ?_
 refine rg_q (q_a rfl) ?_
 refine xc (awp_ret ?_)
 refine ⟨_, xk1, ?_⟩
 rfl
theorem ffirst_p (l : List Int) : PC Tryz.prog 117 [.sl 1 (l.map iC)] (.v (.int .i64 (firstE l))) := by
 refine pc_of_awp Tryz.func117 rfl Tryz.ntmps117 (rs := [.tmp 2]) Tryz.results117 (by simp) fun w0 => ?_
 refine awp_seq ?_
 refine xa 1 ?_
 refine rg_q (q_a rfl) ?_
 refine rs (awp_seq ?_)
 refine xa 3 ?_
 refine rg_q (q_move (x := .d (.sl _ _)) rfl) ?_
 refine rg_q (q_len isl282 rfl (by exact len_map _ _)) ?_
 refine rg_q (q_m rfl) ?_
 refine xc (awp_len (t := 5) rfl (fun hl5 => ?_))
 (try simp only [List.length_map] at hl5)
 refine awp_block ?_
 refine awp_loopH [2, 4, 7, 8, 9, 10, 11, 12, 13, 14] [] (α := Nat) (fun k => [(7, T.i (k : Int))]) (fun k => []) (fun k => k ≤ l.length ∧ firstE l = firstE (l.drop k)) (fun k => l.length - k) 0 ⟨Nat.zero_le _, rfl⟩ ?_ ?_
 · exact xh (ms := []) (by repeat (exact Out.refl _)) ⟨(by rfl), trivial⟩ trivial
 ·
  intro k ⟨hk, hf⟩
  refine awp_seq ?_
  refine xa 1 ?_
  refine rg_q (q_lss rfl rfl) ?_
  refine rs (awp_cond rfl (fun hc2 => ?_) (fun hc2 => ?_))
  ·
   (try simp only [nb, ne_eq] at hc2)
   have hlt : k < l.length := by omega
   have hx := List.getElem?_eq_getElem hlt
   have hd : firstE (l.drop k) = if l[k] = 0 then firstE (l.drop (k + 1)) else l[k] := by rw [List.drop_eq_getElem_cons hlt]; rfl
   generalize l[k] = x at *
   refine awp_skip ?_
   change Awp _ _ _ _ _
   refine awp_seq ?_
   refine awp_block ?_
   refine awp_seq ?_
   refine xa 3 ?_
   refine rg_q (q_indexAddr sl282 rfl rfl (by omega) (map_at (by omega) hx)) ?_
   refine rg_q (q_load sz40 rfl rfl) (rg_q (q_a rfl) ?_)
   refine rs (xa 2 ?_)
   refine rg_q (q_m rfl) (rg_q (q_neq rfl rfl) ?_)
   refine xc (awp_cond rfl (fun hc4 => ?_) (fun hc4 => ?_))
   ·
    (try simp only [nb, ne_eq] at hc4)
    refine awp_seq ?_
    refine xa 2 ?_
    refine rg_q (q_m rfl) (rg_q (q_a rfl) ?_)
    refine xc (awp_ret ?_)
    refine ⟨_, xk1, ?_⟩
    rw [hf, hd, if_neg hc4]; rfl
   ·
    (try simp only [nb, ne_eq] at hc4)
    refine awp_skip ?_
    change Awp _ _ _ _ _
    refine xa 2 ?_
    refine rg_q (q_add rfl rfl xi) ?_
    refine rg_q (q_m rfl) ?_
    refine rn ?_
    refine ⟨k + 1, ⟨by omega, by rw [hf, hd, if_pos hc4]⟩, by omega, ?_⟩
    exact xh (ms := []) (by repeat (first | exact Out.head rfl rfl | (refine Out.put ?_ rfl))) ⟨(by rfl), trivial⟩ trivial
  ·
   (try simp only [nb, ne_eq] at hc2)
   refine awp_exit ?_
   change Awp _ _ _ _ _
   refine awp_seq ?_
   refine xa 1 ?_
   refine rg_q (q_a rfl) ?_
   refine xc (awp_ret ?_)
   refine ⟨_, xk1, ?_⟩
   rw [hf, List.drop_of_length_le (by omega)]; rfl
theorem fwhen_p (b : Bool) (e : Int) : PC Tryz.prog 88 [.v (.bool (b)), .v (.int .i64 (e))] (.v (.int .i64 (whenI b e))) := by
 refine pc_of_awp Tryz.func88 rfl Tryz.ntmps88 (rs := [.tmp 4]) Tryz.results88 (by simp) fun w0 => ?_
 refine awp_seq ?_
 refine xa 1 ?_
 refine rg_q (q_a rfl) ?_
 refine rs (awp_seq ?_)
 refine xa 1 ?_
 refine rg_q (q_m rfl) ?_
 refine xc (awp_cond rfl (fun hc1 => ?_) (fun hc1 => ?_))
 ·
  (try simp only [nb, ne_eq] at hc1)
  have hz : whenI b e = e := by unfold whenI; rw [if_pos hc1]
  refine awp_seq ?_
  refine xa 2 ?_
  refine rg_q (q_m rfl) (rg_q (q_a rfl) ?_)
  refine xc (awp_ret ?_)
  refine ⟨_, xk1, ?_⟩
  rw [hz]; rfl
 ·
  (try simp only [nb, ne_eq] at hc1)
  have hz : whenI b e = 0 := by unfold whenI; rw [if_neg (by simpa using hc1)]
  refine awp_skip ?_
  change Awp _ _ _ _ _
  refine awp_seq ?_
  refine xa 1 ?_
  refine rg_q (q_a rfl) ?_
  refine xc (awp_ret ?_)
  refine ⟨_, xk1, ?_⟩
  rw [hz]; rfl

structure Grd where
  fx : Int
  fz : Int
  co : Int
  ro : Int
  st : Int
def grdC (g : Grd) : List D := [.v (.int .i64 g.fx), .v (.int .i64 g.fz), .v (.int .i64 g.co), .v (.int .i64 g.ro), .v (.int .i64 g.st)]
def spI (g : Grd) (c : Int) : Int × Int := (g.fx + c.tmod g.co * g.st, g.fz + c.tdiv g.co * g.st)
structure GrdOk (g : Grd) : Prop where
  x1 : -100000 ≤ g.fx
  x2 : g.fx ≤ 100000
  z1 : -100000 ≤ g.fz
  z2 : g.fz ≤ 100000
  c1 : 1 ≤ g.co
  c2 : g.co ≤ 40
  r1 : 1 ≤ g.ro
  r2 : g.ro ≤ 40
  s1 : 1 ≤ g.st
  s2 : g.st ≤ 10000
def grdB (g : Grd) : Bool := inR (-100000) g.fx 100000 && inR (-100000) g.fz 100000 && inR 1 g.co 40 && inR 1 g.ro 40 && inR 1 g.st 10000
theorem inR_iff {l h a : Int} : inR l a h = true ↔ l ≤ a ∧ a ≤ h := by unfold inR; simp
theorem grdB_ok {g : Grd} (h : grdB g = true) : GrdOk g := by
  unfold grdB at h
  simp only [Bool.and_eq_true, inR_iff] at h
  obtain ⟨⟨⟨⟨⟨a1, a2⟩, b1, b2⟩, c1, c2⟩, d1, d2⟩, e1, e2⟩ := h
  exact ⟨a1, a2, b1, b2, c1, c2, d1, d2, e1, e2⟩
theorem cells_in {g : Grd} (h : GrdOk g) : 1 ≤ g.co * g.ro ∧ g.co * g.ro ≤ 1600 := by
  obtain ⟨_, _, _, _, c1, c2, r1, r2, _, _⟩ := h
  have h1 := mulb (a := g.co) (b := g.ro) (A := 40) (B := 40) (by omega) (by omega) (by omega) (by omega)
  have h2 := Int.mul_le_mul c1 r1 (by omega) (by omega)
  omega
theorem tmodP_in {c b : Int} (hc : 0 ≤ c) (hb : 1 ≤ b) : 0 ≤ c.tmod b ∧ c.tmod b < b := ⟨Int.tmod_nonneg _ hc, Int.tmod_lt_of_pos _ (by omega)⟩
theorem tdivP_in {c b : Int} (hc : 0 ≤ c) (hb : 1 ≤ b) : 0 ≤ c.tdiv b ∧ c.tdiv b ≤ c := by
  rw [Int.tdiv_eq_ediv_of_nonneg hc]
  exact ⟨Int.ediv_nonneg hc (by omega), Int.ediv_le_self _ hc⟩
theorem spot_in {g : Grd} (h : GrdOk g) {c : Int} (h1 : 0 ≤ c) (h2 : c ≤ 10000) : (0 ≤ c.tmod g.co * g.st ∧ c.tmod g.co * g.st ≤ 1000000) ∧ 0 ≤ c.tdiv g.co * g.st ∧ c.tdiv g.co * g.st ≤ 100000000 := by
  obtain ⟨_, _, _, _, c1, c2, r1, r2, s1, s2⟩ := h
  obtain ⟨m1, m2⟩ := tmodP_in h1 c1
  obtain ⟨d1, d2⟩ := tdivP_in h1 c1
  have a1 := mulb (a := c.tmod g.co) (b := g.st) (A := 100) (B := 10000) (by omega) (by omega) (by omega) (by omega)
  have a2 := mulb (a := c.tdiv g.co) (b := g.st) (A := 10000) (B := 10000) (by omega) (by omega) (by omega) (by omega)
  have a3 := Int.mul_nonneg m1 (show 0 ≤ g.st by omega)
  have a4 := Int.mul_nonneg d1 (show 0 ≤ g.st by omega)
  omega
theorem fcells_p (g : Grd) (hg : GrdOk g) : PC Tryz.prog 91 [.agg (grdC g)] (.v (.int .i64 (g.co * g.ro))) := by
 have hci := cells_in hg
 obtain ⟨x1, x2, z1, z2, c1, c2, r1, r2, s1, s2⟩ := hg
 refine pc_of_awp Tryz.func91 rfl Tryz.ntmps91 (rs := [.tmp 2]) Tryz.results91 (by simp) fun w0 => ?_
 refine awp_seq ?_
 refine xa 2 ?_
 refine rg_q (q_box rfl (by exact .inr ⟨_, rfl⟩)) ?_
 refine rg_q (q_a rfl) ?_
 refine rs (xa 8 ?_)
 refine rg_q (q_fieldAddr fld150_0 rfl) (rg_q (q_fieldAddr fld35_1 rfl) (rg_q (q_load sz3 rfl rfl) (rg_q (q_fieldAddr fld150_0 rfl) (rg_q (q_fieldAddr fld35_2 rfl) (rg_q (q_load sz3 rfl rfl) ?_)))))
 refine rg_q (q_mul rfl rfl xi) ?_
 refine rg_q (q_a rfl) ?_
 refine xc (awp_ret ?_)
 refine ⟨_, xk1, ?_⟩
 rfl
theorem fspot_p (g : Grd) (c : Int) (hg : GrdOk g) (h1 : 0 ≤ c) (h2 : c ≤ 10000) : PC Tryz.prog 90 [.agg (grdC g), .v (.int .i64 (c))] (.agg (shC (spI g c))) := by
 have hsi := spot_in hg h1 h2
 obtain ⟨x1, x2, z1, z2, c1, c2, r1, r2, s1, s2⟩ := hg
 obtain ⟨m1, m2⟩ := tmodP_in h1 c1
 obtain ⟨d1, d2⟩ := tdivP_in h1 c1
 obtain ⟨⟨a1, a2⟩, a3, a4⟩ := hsi
 refine pc_of_awp Tryz.func90 rfl Tryz.ntmps90 (rs := [.cell 4 33]) Tryz.results90 (by simp) fun w0 => ?_
 refine awp_seq ?_
 refine xa 1 ?_
 refine rg_q (q_box rfl (by exact .inr ⟨_, rfl⟩)) ?_
 refine rg_nil ?_
 refine aops_alloc zr33 rfl rfl rfl ?_
 refine aops_nil (xq (xa 29 ?_))
 refine rg_q (q_fieldAddr fld150_0 rfl) (rg_q (q_fieldAddr fld35_0 rfl) (rg_q (q_fieldAddr fld33_0 rfl) (rg_q (q_load sz3 rfl rfl) (rg_q (q_m rfl) (rg_q (q_fieldAddr fld150_0 rfl) ?_)))))
 refine rg_q (q_fieldAddr fld35_1 rfl) (rg_q (q_load sz3 rfl rfl) ?_)
 refine rg_q (q_rem rfl rfl (by omega)) ?_
 refine rg_q (q_fieldAddr fld150_0 rfl) (rg_q (q_fieldAddr fld35_3 rfl) (rg_q (q_load sz3 rfl rfl) ?_))
 refine rg_q (q_mul rfl rfl xi) ?_
 refine rg_q (q_add rfl rfl xi) ?_
 refine rg_q (q_fieldAddr fld150_0 rfl) (rg_q (q_fieldAddr fld35_0 rfl) (rg_q (q_fieldAddr fld33_1 rfl) (rg_q (q_load sz3 rfl rfl) (rg_q (q_m rfl) (rg_q (q_fieldAddr fld150_0 rfl) ?_)))))
 refine rg_q (q_fieldAddr fld35_1 rfl) (rg_q (q_load sz3 rfl rfl) ?_)
 refine rg_q (q_quo rfl rfl (by omega) xi) ?_
 refine rg_q (q_fieldAddr fld150_0 rfl) (rg_q (q_fieldAddr fld35_3 rfl) (rg_q (q_load sz3 rfl rfl) ?_))
 refine rg_q (q_mul rfl rfl xi) ?_
 refine rg_q (q_add rfl rfl xi) ?_
 refine rg_q (q_build (cs := [_, _]) pl33 zr33 rfl (.cons rfl (by exact .inl rfl) (.cons rfl (by exact .inl rfl) .nil)) ⟨⟨rfl, by decide⟩, ⟨rfl, by decide⟩, trivial⟩ rfl) ?_
 refine rg_nil ?_
 refine aops_store sz33 rfl rfl (by exact .inr ⟨_, rfl⟩) rfl rfl (by decide) rfl ?_
 refine aops_nil ?_
 change Awp _ _ _ _ _
 refine awp_ret ?_
 refine ⟨_, (.cons (.cellA rfl rfl sz33 rfl) .nil), ?_⟩
 rfl

def clE (g : Grd) (c : Int) : Int := whenI (!inR 0 c (g.co * g.ro - 1)) 6
def ckG (g : Grd) : Int := if grdB g = true then whenI (decide (100000 < (spI g (g.co * g.ro - 1)).1) || decide (100000 < (spI g (g.co * g.ro - 1)).2)) 8 else 2
theorem ckG_ok {g : Grd} (h : ckG g = 0) : GrdOk g ∧ (spI g (g.co * g.ro - 1)).1 ≤ 100000 ∧ (spI g (g.co * g.ro - 1)).2 ≤ 100000 := by
  unfold ckG at h
  by_cases h1 : grdB g = true
  · rw [if_pos h1, when_zero (by decide)] at h
    simp only [Bool.or_eq_false_iff, decide_eq_false_iff_not] at h
    exact ⟨grdB_ok h1, by omega, by omega⟩
  · rw [if_neg h1] at h; cases h
theorem fcellErr_p (g : Grd) (c : Int) (hg : GrdOk g) : PC Tryz.prog 118 [.agg (grdC g), .v (.int .i64 (c))] (.v (.int .i64 (clE g c))) := by
 have hci := cells_in hg
 refine pc_of_awp Tryz.func118 rfl Tryz.ntmps118 (rs := [.tmp 4]) Tryz.results118 (by simp) fun w0 => ?_
 refine awp_seq ?_
 refine xa 2 ?_
 refine rg_q (q_box rfl (by exact .inr ⟨_, rfl⟩)) ?_
 refine rg_q (q_a rfl) ?_
 refine rs (xa 8 ?_)
 refine rg_q (q_m rfl) ?_
 refine rg_q (q_loadA (ds := [_, _, _, _, _]) sz150 rfl rfl rfl) ?_
 refine rg_q (q_call en91 (.cons rfl .nil) rfl (fcells_p _ (by assumption))) ?_
 refine rg_q (q_sub rfl rfl xi) ?_
 refine rg_q (q_call en89 (.cons rfl (.cons rfl (.cons rfl .nil))) rfl (fwithin_p _ _ _)) ?_
 refine rg_q (q_not rfl) ?_
 refine rg_q (q_call en88 (.cons rfl (.cons rfl .nil)) rfl (fwhen_p _ _)) ?_
 refine rg_q (q_a rfl) ?_
 refine xc (awp_ret ?_)
 refine ⟨_, xk1, ?_⟩
 rfl
theorem fcheckGrid_p (g : Grd) : PC Tryz.prog 87 [.agg (grdC g)] (.v (.int .i64 (ckG g))) := by
 refine pc_of_awpN Tryz.func87 rfl Tryz.ntmps87 (rs := [.tmp 2]) Tryz.results87 (by simp) fun w0 hmine hrnd hpn => ?_
 refine awp_seq ?_
 refine xa 2 ?_
 refine rg_q (q_box rfl (by exact .inr ⟨_, rfl⟩)) ?_
 refine rg_q (q_a rfl) ?_
 refine rs (awp_seq ?_)
 refine xa 30 ?_
 refine rg_q (q_fieldAddr fld35_0 rfl) (rg_q (q_fieldAddr fld33_0 rfl) (rg_q (q_load sz3 rfl rfl) ?_))
 refine rg_q (q_call en166 (.cons rfl (.cons rfl .nil)) rfl (fsmall_p _ _ (by omega) (by omega))) ?_
 refine rg_q (q_not rfl) (rg_q (q_m rfl) ?_)
 refine rg_g rfl rfl (fun hG => (q_fieldAddr fld35_0 rfl)) ?_
 refine rg_g rfl rfl (fun hG => (q_fieldAddr fld33_1 rfl)) ?_
 refine rg_g rfl rfl (fun hG => (q_load sz3 rfl rfl)) ?_
 refine rg_g rfl rfl (fun hG => (q_call en166 (.cons rfl (.cons rfl .nil)) rfl (fsmall_p _ _ (by omega) (by omega)))) ?_
 refine rg_g rfl rfl (fun hG => (q_not rfl)) ?_
 refine rg_pick rfl rfl rfl rfl rfl rfl ?_
 refine rg_q (q_m rfl) ?_
 refine rg_g rfl rfl (fun hG => (q_fieldAddr fld35_1 rfl)) ?_
 refine rg_g rfl rfl (fun hG => (q_load sz3 rfl rfl)) ?_
 refine rg_g rfl rfl (fun hG => (q_call en89 (.cons rfl (.cons rfl (.cons rfl .nil))) rfl (fwithin_p _ _ _))) ?_
 refine rg_g rfl rfl (fun hG => (q_not rfl)) ?_
 refine rg_pick rfl rfl rfl rfl rfl rfl ?_
 refine rg_q (q_m rfl) ?_
 refine rg_g rfl rfl (fun hG => (q_fieldAddr fld35_2 rfl)) ?_
 refine rg_g rfl rfl (fun hG => (q_load sz3 rfl rfl)) ?_
 refine rg_g rfl rfl (fun hG => (q_call en89 (.cons rfl (.cons rfl (.cons rfl .nil))) rfl (fwithin_p _ _ _))) ?_
 refine rg_g rfl rfl (fun hG => (q_not rfl)) ?_
 refine rg_pick rfl rfl rfl rfl rfl rfl ?_
 refine rg_q (q_m rfl) ?_
 refine rg_g rfl rfl (fun hG => (q_fieldAddr fld35_3 rfl)) ?_
 refine rg_g rfl rfl (fun hG => (q_load sz3 rfl rfl)) ?_
 refine rg_g rfl rfl (fun hG => (q_call en89 (.cons rfl (.cons rfl (.cons rfl .nil))) rfl (fwithin_p _ _ _))) ?_
 refine rg_g rfl rfl (fun hG => (q_not rfl)) ?_
 refine rg_pick rfl rfl rfl rfl rfl rfl ?_
 refine xc (awp_cond rfl (fun hc1 => ?_) (fun hc1 => ?_))
 ·
  (try simp only [nb, ne_eq] at hc1)
  have hb : grdB g = false := by
   cases q : grdB g with
   | false => rfl
   | true => unfold grdB at q; simp_all
  have hz : ckG g = 2 := by unfold ckG; rw [hb]; rfl
  refine awp_seq ?_
  refine xa 1 ?_
  refine rg_q (q_a rfl) ?_
  refine xc (awp_ret ?_)
  refine ⟨_, xk1, ?_⟩
  rw [hz]; (try simp only [bif_or]); rfl
 ·
  (try simp only [nb, ne_eq] at hc1)
  have hb : grdB g = true := by unfold grdB; simp_all
  have hg := grdB_ok hb
  have hci := cells_in hg
  have hz : ckG g = whenI (decide (100000 < (spI g (g.co * g.ro - 1)).1) || decide (100000 < (spI g (g.co * g.ro - 1)).2)) 8 := by unfold ckG; rw [if_pos hb]
  refine awp_skip ?_
  change Awp _ _ _ _ _
  refine awp_seq ?_
  refine xa 2 ?_
  refine rg_q (q_loadA (ds := [_, _, _, _, _]) sz35 rfl rfl rfl) ?_
  refine rg_q (q_build (cs := [_, _, _, _, _]) pl150 zr150 rfl (.cons rfl (by exact .inr ⟨_, rfl⟩) .nil) ⟨⟨rfl, by decide⟩, trivial⟩ rfl) ?_
  refine rg_nil ?_
  refine aops_allocD zr150 rfl sz150 rfl rfl (by exact .inr ⟨_, rfl⟩) rfl rfl ?_
  refine aops_nil (xq (awp_regionM 7 [none, none, none, none, none, some 4, some 4] mixed (by kernel_rfl) ?_))
  refine rgm_q rfl (q_loadA (ds := [_, _, _, _, _]) sz150 rfl rfl rfl) ?_
  refine rgm_q rfl (q_loadA (ds := [_, _, _, _, _]) sz150 rfl rfl rfl) ?_
  refine rgm_q rfl (q_call en91 (.cons rfl .nil) rfl (fcells_p _ (by assumption))) ?_
  refine rgm_q rfl (q_sub rfl rfl xi) ?_
  refine rgm_q rfl (q_call en90 (.cons rfl (.cons rfl .nil)) rfl (fspot_p _ _ (by assumption) (by omega) (by omega))) ?_
  refine rgm_m (k := 4) rfl rfl (by rfl) (m_alloc zr33 rfl rfl) ?_
  refine rgm_m (k := 4) rfl rfl (by rfl) (m_store sz33 rfl rfl (by exact .inr ⟨_, rfl⟩) rfl rfl (by decide) rfl) ?_
  refine rgm_nil (aops_nil ?_)
  change Awp _ _ _ _ _
  refine awp_seq ?_
  refine xa 10 ?_
  refine rg_q (q_fieldAddr_ref fld33_0 rfl) (rg_q (q_load_ref sz3 rfl rfl rfl) (rg_q (q_gtr rfl rfl) (rg_q (q_m rfl) ?_)))
  refine rg_g rfl rfl (fun hG => (q_fieldAddr_ref fld33_1 rfl)) ?_
  refine rg_g rfl rfl (fun hG => (q_load_ref sz3 rfl rfl rfl)) ?_
  refine rg_g rfl rfl (fun hG => (q_gtr rfl rfl)) ?_
  refine rg_pick rfl rfl rfl rfl rfl rfl ?_
  refine rg_q (q_call en88 (.cons rfl (.cons rfl .nil)) rfl (fwhen_p _ _)) ?_
  refine rg_q (q_a rfl) ?_
  refine xc (awp_ret ?_)
  refine ⟨_, xk1, ?_⟩
  rw [hz]; (try simp only [bif_or]); rfl
end Go.Proofs.YtamaocfjknpadaaGreat.Am.M
-- mini
set_option maxRecDepth 100000
namespace Go.Proofs.YtamaocfjknpadaaGreat.Am.M
open Go

structure Tsk where
  ar : Arr
  ne : Int
  bf : List Nat
  g : Grd
def mtxC (ne : Int) (bf : List Nat) : List D := [.v (.int .i64 ne), .sl 1 (bf.map fC)]
def tskC (t : Tsk) : List D := arrC t.ar ++ mtxC t.ne t.bf ++ grdC t.g
structure TskOk (t : Tsk) : Prop where
  ck : (ckArr t.ar).2 = 0
  n1 : 1 ≤ t.ne
  n2 : t.ne ≤ 16
  nl : (t.bf.length : Int) = t.ne * t.ne * 64
  wh : WhlL t.bf
  el : (t.ar.el.length : Int) = t.ne
  gr : ckG t.g = 0
  z1 : 1 ≤ t.g.fz
  z2 : t.g.fz ≤ t.ar.ou.t - 1
  z3 : 1 ≤ (spI t.g (t.g.co * t.g.ro - 1)).2
  z4 : (spI t.g (t.g.co * t.g.ro - 1)).2 ≤ t.ar.ou.t - 1
theorem ckArr_zero {a : Arr} (h : (ckArr a).2 = 0) : ckArr a = (0, 0) := by
  unfold ckArr at h ⊢
  by_cases h1 : a.el.length = 0
  · rw [if_pos h1] at h; cases h
  rw [if_neg h1] at h ⊢
  by_cases h2 : 16 < a.el.length
  · rw [if_pos h2] at h; cases h
  rw [if_neg h2] at h ⊢
  by_cases h3 : (ckEls 0 a.el).2 ≠ 0
  · rw [if_pos h3] at h; exact absurd h h3
  rw [if_neg h3] at h ⊢
  have h4 : arrE0 a = 0 := h
  rw [h4]
theorem checkTask_p (t : Tsk) (h : TskOk t) : PC Tryz.prog 20 [.agg (tskC t)] (.tup [.v (.int .i64 (0)), .v (.int .i64 (0))]) := by
 have hck := ckArr_zero h.ck
 obtain ⟨hao, _⟩ := ckArr_ok h.ck
 have hn1 := h.n1
 have hn2 := h.n2
 have hnl := h.nl
 have hwh := h.wh
 have hel := h.el
 obtain ⟨hg, hg1, hg2⟩ := ckG_ok h.gr
 have hci := cells_in hg
 have hz1 : inR 1 t.g.fz (t.ar.ou.t - 1) = true := inR_iff.2 ⟨h.z1, h.z2⟩
 have hz2 : inR 1 (spI t.g (t.g.co * t.g.ro - 1)).2 (t.ar.ou.t - 1) = true := inR_iff.2 ⟨h.z3, h.z4⟩
 have hgr := h.gr
 have ht1 := hao.ou.t1
 have ht2 := hao.ou.t2
 refine pc_of_awpN Tryz.func20 rfl Tryz.ntmps20 (rs := [.tmp 2, .tmp 3]) Tryz.results20 (by simp) fun w0 hmine hrnd hpn => ?_
 refine awp_seq ?_
 refine xa 3 ?_
 refine rg_q (q_box rfl (by exact .inr ⟨_, rfl⟩)) ?_
 refine rg_q (q_a rfl) (rg_q (q_a rfl) ?_)
 refine rs (awp_seq ?_)
 refine xa 8 ?_
 refine rg_q (q_fieldAddr fld37_0 rfl) ?_
 refine rg_q (q_loadA (ds := [_, _, _, _, _, _, _, _, _, _, _]) sz28 rfl rfl rfl) ?_
 refine rg_q (q_call en85 (.cons rfl .nil) rfl ((by have h := checkArray_p t.ar; rw [hck] at h; exact h))) ?_
 refine rg_q (q_move (x := .d (.tup _)) rfl) (rg_q (q_extract rfl rfl) (rg_q (q_extract rfl rfl) (rg_q (q_a rfl) (rg_q (q_a rfl) ?_))))
 refine rs (xa 2 ?_)
 refine rg_q (q_m rfl) (rg_q (q_neq rfl rfl) ?_)
 refine xc (awp_cond rfl (fun hc2 => ?_) (fun hc2 => ?_))
 ·
  simp at hc2
 ·
  (try simp only [nb, ne_eq] at hc2)
  refine awp_skip ?_
  change Awp _ _ _ _ _
  refine awp_seq ?_
  refine awp_seq ?_
  refine xa 8 ?_
  refine rg_q (q_fieldAddr fld37_1 rfl) ?_
  refine rg_q (q_loadA (ds := [_, _]) sz31 rfl rfl rfl) ?_
  refine rg_q (q_call en86 (.cons rfl .nil) rfl (checkMatrix_p t.ne t.bf hn1 hn2 hnl hwh)) ?_
  refine rg_q (q_move (x := .d (.tup _)) rfl) (rg_q (q_extract rfl rfl) (rg_q (q_extract rfl rfl) (rg_q (q_a rfl) (rg_q (q_a rfl) ?_))))
  refine rs (xa 2 ?_)
  refine rg_q (q_m rfl) (rg_q (q_neq rfl rfl) ?_)
  refine xc (awp_cond rfl (fun hc5 => ?_) (fun hc5 => ?_))
  ·
   simp at hc5
  ·
   (try simp only [nb, ne_eq] at hc5)
   refine awp_skip ?_
   change Awp _ _ _ _ _
   refine awp_seq ?_
   refine awp_seq ?_
   refine xa 8 ?_
   refine rg_q (q_fieldAddr fld37_0 rfl) (rg_q (q_fieldAddr fld28_0 rfl) (rg_q (q_load sz22 rfl rfl) ?_))
   refine rg_q (q_len isl22 rfl (by exact len_map _ _)) ?_
   refine rg_q (q_fieldAddr fld37_1 rfl) (rg_q (q_fieldAddr fld31_0 rfl) (rg_q (q_load sz3 rfl rfl) (rg_q (q_neq rfl rfl) ?_)))
   refine xc (awp_len (t := 32) rfl (fun hl32 => ?_))
   (try simp only [List.length_map] at hl32)
   refine awp_cond rfl (fun hc7 => ?_) (fun hc7 => ?_)
   ·
    rw [decide_eq_true_eq] at hc7
    exact absurd hel hc7
   ·
    (try simp only [nb, ne_eq] at hc7)
    refine awp_skip ?_
    change Awp _ _ _ _ _
    refine awp_seq ?_
    refine awp_seq ?_
    refine xa 4 ?_
    refine rg_q (q_fieldAddr fld37_2 rfl) ?_
    refine rg_q (q_loadA (ds := [_, _, _, _, _]) sz35 rfl rfl rfl) ?_
    refine rg_q (q_call en87 (.cons rfl .nil) rfl ((by have h := fcheckGrid_p t.g; rw [hgr] at h; exact h))) ?_
    refine rg_q (q_a rfl) ?_
    refine rs (xa 2 ?_)
    refine rg_q (q_m rfl) (rg_q (q_neq rfl rfl) ?_)
    refine xc (awp_cond rfl (fun hc10 => ?_) (fun hc10 => ?_))
    ·
     simp at hc10
    ·
     (try simp only [nb, ne_eq] at hc10)
     refine awp_skip ?_
     change Awp _ _ _ _ _
     refine awp_seq ?_
     refine xa 3 ?_
     refine rg_q (q_fieldAddr fld37_2 rfl) ?_
     refine rg_q (q_loadA (ds := [_, _, _, _, _]) sz35 rfl rfl rfl) ?_
     refine rg_q (q_build (cs := [_, _, _, _, _]) pl150 zr150 rfl (.cons rfl (by exact .inr ⟨_, rfl⟩) .nil) ⟨⟨rfl, by decide⟩, trivial⟩ rfl) ?_
     refine rg_nil ?_
     refine aops_allocD zr150 rfl sz150 rfl rfl (by exact .inr ⟨_, rfl⟩) rfl rfl ?_
     refine aops_nil (xq (xa 5 ?_))
     refine rg_q (q_fieldAddr fld37_0 rfl) (rg_q (q_fieldAddr fld28_1 rfl) (rg_q (q_fieldAddr fld24_3 rfl) (rg_q (q_load sz3 rfl rfl) (rg_q (q_a rfl) ?_))))
     refine rs (xa 23 ?_)
     refine rg_q (q_fieldAddr fld37_2 rfl) (rg_q (q_fieldAddr fld35_0 rfl) (rg_q (q_fieldAddr fld33_1 rfl) (rg_q (q_load sz3 rfl rfl) (rg_q (q_m rfl) ?_))))
     refine rg_q (q_sub rfl rfl xi) ?_
     refine rg_q (q_call en89 (.cons rfl (.cons rfl (.cons rfl .nil))) rfl (fwithin_p _ _ _)) ?_
     refine rg_q (q_not rfl) (rg_q (q_m rfl) ?_)
     refine rg_g rfl rfl (fun hG => (q_loadA (ds := [_, _, _, _, _]) sz150 rfl rfl rfl)) ?_
     refine rg_g rfl rfl (fun hG => (q_loadA (ds := [_, _, _, _, _]) sz150 rfl rfl rfl)) ?_
     refine rg_g rfl rfl (fun hG => (q_call en91 (.cons rfl .nil) rfl (fcells_p _ (by assumption)))) ?_
     refine rg_g rfl rfl (fun hG => (q_sub rfl rfl (In64.mk (by (have hg0 := T.bool_inj (a := _) hG.1; (try simp only [nb, ne_eq] at hg0); omega)) (by (have hg0 := T.bool_inj (a := _) hG.1; (try simp only [nb, ne_eq] at hg0); omega))))) ?_
     refine rg_g rfl rfl (fun hG => (q_call en90 (.cons rfl (.cons rfl .nil)) rfl (fspot_p _ _ (by assumption) (by omega) (by omega)))) ?_
     refine rg_g rfl rfl (fun hG => (q_field fd33_1 sz3 rfl rfl)) ?_
     refine rg_g rfl rfl (fun hG => (q_m rfl)) ?_
     refine rg_g rfl rfl (fun hG => (q_sub rfl rfl (In64.mk (by (have hg0 := T.bool_inj (a := _) hG.1; (try simp only [nb, ne_eq] at hg0); omega)) (by (have hg0 := T.bool_inj (a := _) hG.1; (try simp only [nb, ne_eq] at hg0); omega))))) ?_
     refine rg_g rfl rfl (fun hG => (q_call en89 (.cons rfl (.cons rfl (.cons rfl .nil))) rfl (fwithin_p _ _ _))) ?_
     refine rg_g rfl rfl (fun hG => (q_not rfl)) ?_
     refine rg_pick rfl rfl rfl rfl rfl rfl ?_
     refine rg_q (q_call en88 (.cons rfl (.cons rfl .nil)) rfl (fwhen_p _ _)) ?_
     refine rg_q (q_a rfl) (rg_q (q_a rfl) ?_)
     refine xc (awp_ret ?_)
     refine ⟨_, xk2, ?_⟩
     simp [whenI, hz1, hz2, retD]
end Go.Proofs.YtamaocfjknpadaaGreat.Am.M
-- mini
set_option maxRecDepth 100000
namespace Go.Proofs.YtamaocfjknpadaaGreat.Am.M
open Go

def chK (l : List Nat) (i : Nat) : List Nat := (l.take (64 * i + 64)).drop (64 * i)
def chF (l : List Nat) (i : Nat) : List (List Nat) := (List.range i).map (chK l)
def encK (b : List Nat) : List D := [.sl 1 (b.map fC)]
theorem chF_succ (l : List Nat) (i : Nat) : chF l (i + 1) = chF l i ++ [chK l i] := by unfold chF; rw [List.range_succ, List.map_append]; rfl
theorem chF_pre {l : List Nat} {i : Nat} : ∀ {m : Nat}, i ≤ m → chF l i <+: chF l m
  | 0, h => by have : i = 0 := by omega
               subst this; exact List.prefix_rfl
  | m + 1, h => by
    by_cases e : i = m + 1
    · subst e; exact List.prefix_rfl
    · rw [chF_succ]; exact (chF_pre (show i ≤ m by omega)).trans (List.prefix_append _ _)
theorem chK_len {l : List Nat} {i m : Nat} (h : l.length = 64 * m) (hi : i < m) : (chK l i).length = 64 := by
  unfold chK
  rw [List.length_drop, List.length_take]; omega
theorem chK_row (l : List Nat) (i : Nat) : ((l.map fC).take (64 * i + 64)).drop (64 * i) = (chK l i).map fC := by unfold chK; rw [List.map_drop, List.map_take]
theorem chK_wh {l : List Nat} (h : WhlL l) (i : Nat) : WhlL (chK l i) := fun b hb => h b (List.mem_of_mem_take (List.mem_of_mem_drop hb))
theorem chunk_i (l : List Nat) (m : Nat) (h1 : l.length = 64 * m) (h2 : m ≤ 10000) : PI Tryz.prog 216 [] [.pt [.sl 1 (l.map fC)] 0, .pt [.v (.int .i64 (64))] 0] (encK) (chF l m) true := by
  refine pi_of_iwp Tryz.func216 rfl Tryz.ntmps216 rfl rfl fun J c l0 hJ hy hdat hfin => ?_
  refine iwp_seq ?_
  apply iwp_reg hJ
  ·
    intro c1 hmine hrnd
    refine xa 1 ?_
    refine rg_q (q_a rfl) ?_
    refine rn ?_
    exact ⟨rfl, rfl⟩
  change Iwp _ _ _ _ _ _ _
  refine iwp_block ?_
  refine iwp_loopH [4, 5, 6, 7, 8, 9, 10, 11, 12, 13, 14, 15, 16, 17, 18, 19, 20, 21, 22, 23, 24, 25, 26, 27, 28, 29, 30] [] (β := Nat) (fun i => [(4, T.i ((64 * i : Nat) : Int))]) (fun i => []) (fun i => (true, chF l i)) (fun i => i ≤ m) (fun i => m - i) 0 (Nat.zero_le _) rfl (fun c1 => ?_) ?_
  · exact xh (ms := []) (by repeat (exact Out.refl _)) ⟨(by rfl), trivial⟩ trivial
  ·
    intro i hi
    refine iwp_seq ?_
    refine iwp_seq ?_
    apply iwp_reg hJ
    ·
      intro c1 hmine hrnd
      refine xa 4 ?_
      refine rg_q (q_m rfl) (rg_q (q_load sz29 rfl rfl) ?_)
      refine rg_q (q_len isl29 rfl (by exact len_map _ _)) ?_
      refine rg_q (q_lss rfl rfl) ?_
      refine rn ?_
      exact ⟨rfl, rfl⟩
    change Iwp _ _ _ _ _ _ _
    refine iwp_len (t := 7) rfl (fun hl7 => ?_)
    (try simp only [List.length_map] at hl7)
    refine iwp_cond rfl (fun hc1 => ?_) (fun hc1 => ?_)
    ·
      (try simp only [nb, ne_eq] at hc1)
      have hlt : i < m := by omega
      have hpre : chF l i ++ [chK l i] <+: chF l m := by rw [← chF_succ]; exact chF_pre hlt
      have hmn : min (64 : Int) ((List.drop (64 * i) (List.take (l.map fC).length l)).length : Int) = 64 := by rw [List.length_map, List.take_length, List.length_drop]; omega
      have hpl : ((64 * i : Nat) : Int) + 64 = ((64 * i + 64 : Nat) : Int) := by omega
      refine iwp_skip ?_
      change Iwp _ _ _ _ _ _ _
      refine iwp_seq ?_
      refine iwp_block ?_
      refine iwp_seq ?_
      apply iwp_reg hJ
      ·
        intro c1 hmine hrnd
        refine xa 7 ?_
        refine rg_q (q_load sz3 rfl rfl) (rg_q (q_load sz29 rfl rfl) (rg_q (q_m rfl) ?_))
        refine rg_q (q_slice sl29 rfl rfl rfl (by rw [List.length_map]; omega) (Nat.le_refl _) (by exact map_slice _ _ _ _)) ?_
        refine rg_q (q_len isl29 rfl (by exact len_map _ _)) ?_
        refine rg_q (q_min rfl rfl) ?_
        refine rg_q (q_a rfl) ?_
        refine rn ?_
        exact ⟨rfl, rfl⟩
      change Iwp _ _ _ _ _ _ _
      refine iwp_len (t := 16) rfl (fun hl16 => ?_)
      (try simp only [List.length_map] at hl16)
      refine iwp_seq ?_
      rw [hmn]
      refine iwp_region ?_
      refine iops_of hJ rfl (fun c1 _ _ _ h => by exact aops_q rfl ((q_move (x := .d (.fn _ _)) rfl)) h) ?_
      refine iops_of hJ rfl (fun c1 _ _ _ h => by exact aops_q rfl ((q_load sz29 rfl rfl)) h) ?_
      refine iops_of hJ rfl (fun c1 _ _ _ h => by exact aops_q rfl ((q_m rfl)) h) ?_
      refine iops_of hJ rfl (fun c1 _ _ _ h => by exact aops_q rfl ((q_m rfl)) h) ?_
      refine iops_of hJ rfl (fun c1 _ _ _ h => by exact aops_q rfl ((q_m rfl)) h) ?_
      refine iops_of hJ rfl (fun c1 _ _ _ h => by exact aops_q rfl ((q_add rfl rfl xi)) h) ?_
      refine iops_of hJ rfl (fun c1 _ _ _ h => by exact aops_q rfl ((q_m rfl)) h) ?_
      refine iops_of hJ rfl (fun c1 _ _ _ h => by exact aops_q rfl ((q_m rfl)) h) ?_
      refine iops_of hJ rfl (fun c1 _ _ _ h => by exact aops_q rfl ((q_add rfl rfl xi)) h) ?_
      rw [hpl]
      refine iops_of hJ rfl (fun c1 _ _ _ h => by exact aops_q rfl ((q_slice3d (lo := 64 * i) (hi := 64 * i + 64) (es' := (chK l i).map fC) sl29 rfl rfl rfl rfl (by omega) (by rw [List.length_map]; omega) (chK_row l i))) h) ?_
      refine iops_yield (x := (chK l i)) hy hdat rfl (.cons rfl .nil) hpre rfl (fun yb => ?_)
      refine iops_of hJ rfl (fun c1 _ _ _ h => by exact aops_q rfl ((q_not rfl)) h) ?_
      refine iops_nil ?_
      change Iwp _ _ _ _ _ _ _
      refine iwp_cond rfl (fun hc4 => ?_) (fun hc4 => ?_)
      ·
        (try simp only [nb, ne_eq] at hc4)
        have hyb : yb = false := by cases yb <;> first | rfl | (exfalso; simp_all; done)
        refine iwp_ret ?_
        exact ⟨.inl rfl, fun h => by rw [hyb] at h; cases h⟩
      ·
        (try simp only [nb, ne_eq] at hc4)
        have hyb : yb = true := by cases yb <;> first | rfl | (exfalso; simp_all; done)
        refine iwp_skip ?_
        change Iwp _ _ _ _ _ _ _
        apply iwp_reg hJ
        ·
          intro c1 hmine hrnd
          refine xa 4 ?_
          refine rg_q (q_m rfl) (rg_q (q_load sz3 rfl rfl) ?_)
          refine rg_q (q_add rfl rfl xi) ?_
          refine rg_q (q_a rfl) ?_
          refine rn ?_
          exact ⟨rfl, rfl⟩
        refine ⟨i + 1, by omega, by omega, by rw [hyb, chF_succ], fun c1 => ?_⟩
        exact xh (ms := []) (by repeat (first | exact Out.head rfl rfl | (refine Out.put ?_ rfl))) ⟨(by rfl), trivial⟩ trivial
    ·
      (try simp only [nb, ne_eq] at hc1)
      have him : i = m := by omega
      refine iwp_exit ?_
      exact ⟨.inr rfl, fun _ => by rw [him]⟩
end Go.Proofs.YtamaocfjknpadaaGreat.Am.M
-- mini
set_option maxRecDepth 100000
namespace Go.Proofs.YtamaocfjknpadaaGreat.Am.M
open Go
theorem chunk_p (l : List Nat) : PC Tryz.prog 141 [.sl 1 (l.map fC), .v (.int .i64 (64))] (.fn (.func 216) [.pt [.sl 1 (l.map fC)] 0, .pt [.v (.int .i64 (64))] 0]) := by
 refine pc_of_awp Tryz.func141 rfl Tryz.ntmps141 (rs := [.tmp 4]) Tryz.results141 (by simp) fun w0 => ?_
 refine awp_seq ?_
 refine xa 3 ?_
 refine rg_q (q_box rfl (by exact .inl rfl)) ?_
 refine rg_q (q_box rfl (by exact .inl rfl)) ?_
 refine rg_q (q_assign (x := .d (.v .nilFunc)) rfl) ?_
 refine rs (awp_seq ?_)
 refine xa 2 ?_
 refine rg_q (q_load sz3 rfl rfl) (rg_q (q_lss rfl rfl) ?_)
 refine xc (awp_cond rfl (fun hc1 => ?_) (fun hc1 => ?_))
 ·
  cases hc1
 ·
  (try simp only [nb, ne_eq] at hc1)
  refine awp_skip ?_
  change Awp _ _ _ _ _
  refine awp_seq ?_
  refine xa 2 ?_
  refine rg_q (q_makeFunc (.cons rfl (.cons rfl .nil))) ?_
  refine rg_q (q_assign (x := .d (.fn _ _)) rfl) ?_
  refine xc (awp_ret ?_)
  refine ⟨_, xk1, ?_⟩
  rfl

def tkM (t : Tsk) : Nat := (t.ne * t.ne).toNat
def smR (l : List Nat) (i : Nat) : List (List D) := (chF l i).map fun b => anL (b.map vI)
def tkC (t : Tsk) : List D := grdC t.g ++ arrC t.ar ++ [.v (.int .i64 t.ne), .sl 61 (smR t.bf (tkM t))]
theorem smR_succ (l : List Nat) (i : Nat) : smR l (i + 1) = smR l i ++ [anL ((chK l i).map vI)] := by unfold smR; rw [chF_succ, List.map_append]; rfl
theorem smR_len (l : List Nat) (i : Nat) : (smR l i).length = i := by unfold smR chF; rw [List.length_map, List.length_map, List.length_range]
theorem anL_flat (S : List Int) : ∀ d ∈ anL S, D.Flat d := by
  intro d hd
  unfold anL at hd
  obtain ⟨k, _, rfl⟩ := List.mem_map.1 hd
  exact .v _
theorem smR_flat (l : List Nat) (i : Nat) : ∀ x ∈ smR l i, ∀ d ∈ x, D.Flat d := by
  intro x hx d hd
  unfold smR at hx
  obtain ⟨b, _, rfl⟩ := List.mem_map.1 hx
  exact anL_flat _ d hd
theorem tsk_len {t : Tsk} (h : TskOk t) : t.bf.length = 64 * tkM t ∧ tkM t ≤ 256 ∧ ((tkM t : Nat) : Int) = t.ne * t.ne := by
  have h1 := h.n1
  have h2 := h.n2
  have h3 := h.nl
  have hm := mulb (a := t.ne) (b := t.ne) (A := 16) (B := 16) (by omega) (by omega) (by omega) (by omega)
  have hp := Int.mul_nonneg (show 0 ≤ t.ne by omega) (show 0 ≤ t.ne by omega)
  unfold tkM
  omega
theorem chF_at {l : List Nat} {m k : Nat} {y : List Nat} (h : (chF l m)[k]? = some y) : k < m ∧ y = chK l k := by
  unfold chF at h
  rw [List.getElem?_map] at h
  cases hr : (List.range m)[k]? with
  | none => rw [hr] at h; cases h
  | some j =>
    rw [hr] at h
    obtain ⟨h1, h2⟩ := List.getElem?_eq_some_iff.1 hr
    rw [List.length_range] at h1
    rw [List.getElem_range] at h2
    subst h2
    cases h
    exact ⟨h1, rfl⟩
theorem open_p (t : Tsk) (h : TskOk t) : PC Tryz.prog 112 [.agg (tskC t)] (.tup [.pt (tkC t) 0, .v (.int .i64 (0))]) := by
  have hck := ckArr_zero h.ck
  obtain ⟨hao, _⟩ := ckArr_ok h.ck
  have hn1 := h.n1
  have hn2 := h.n2
  have hnl := h.nl
  have hwh := h.wh
  have hel := h.el
  obtain ⟨hg, hg1, hg2⟩ := ckG_ok h.gr
  have hci := cells_in hg
  have hz1 : inR 1 t.g.fz (t.ar.ou.t - 1) = true := inR_iff.2 ⟨h.z1, h.z2⟩
  have hz2 : inR 1 (spI t.g (t.g.co * t.g.ro - 1)).2 (t.ar.ou.t - 1) = true := inR_iff.2 ⟨h.z3, h.z4⟩
  have hgr := h.gr
  have ht1 := hao.ou.t1
  have ht2 := hao.ou.t2
  obtain ⟨hb1, hb2, hb3⟩ := tsk_len h
  refine pc_of_awpN Tryz.func112 rfl Tryz.ntmps112 (rs := [.tmp 2, .tmp 3]) Tryz.results112 (by simp) fun w0 hmine hrnd hpn => ?_
  refine awp_seq ?_
  refine xa 3 ?_
  refine rg_q (q_box rfl (by exact .inr ⟨_, rfl⟩)) ?_
  refine rg_q (q_a rfl) (rg_q (q_a rfl) ?_)
  refine rs (awp_seq ?_)
  refine xa 7 ?_
  refine rg_q (q_loadA sz37 rfl rfl rfl) ?_
  refine rg_q (q_call en20 (.cons rfl .nil) rfl (checkTask_p t h)) ?_
  refine rg_q (q_move (x := .d (.tup _)) rfl) (rg_q (q_extract rfl rfl) (rg_q (q_extract rfl rfl) (rg_q (q_a rfl) (rg_q (q_a rfl) ?_))))
  refine rs (xa 2 ?_)
  refine rg_q (q_m rfl) (rg_q (q_neq rfl rfl) ?_)
  refine xc (awp_cond rfl (fun hc2 => ?_) (fun hc2 => ?_))
  ·
    simp at hc2
  ·
    (try simp only [nb, ne_eq] at hc2)
    refine awp_skip ?_
    change Awp _ _ _ _ _
    refine awp_seq ?_
    refine xa 9 ?_
    refine rg_q (q_fieldAddr fld37_2 rfl) ?_
    refine rg_q (q_loadA (ds := [_, _, _, _, _]) sz35 rfl rfl rfl) ?_
    refine rg_q (q_build (cs := [_, _, _, _, _]) pl150 zr150 rfl (.cons rfl (by exact .inr ⟨_, rfl⟩) .nil) ⟨⟨rfl, by decide⟩, trivial⟩ rfl) ?_
    refine rg_q (q_fieldAddr fld37_0 rfl) ?_
    refine rg_q (q_loadA (ds := [_, _, _, _, _, _, _, _, _, _, _]) sz28 rfl rfl rfl) ?_
    refine rg_q (q_fieldAddr fld37_1 rfl) (rg_q (q_fieldAddr fld31_0 rfl) (rg_q (q_load sz3 rfl rfl) ?_))
    refine rg_q (q_build pl202 zr202 rfl (.cons rfl (by exact .inr ⟨_, rfl⟩) (.cons rfl (by exact .inr ⟨_, rfl⟩) (.cons rfl (by exact .inl rfl) .nil))) ⟨⟨rfl, by decide⟩, ⟨rfl, by decide⟩, ⟨rfl, by decide⟩, trivial⟩ rfl) ?_
    refine rg_nil ?_
    refine aops_box rfl (by exact .inr ⟨_, rfl⟩) rfl rfl rfl ?_
    refine aops_alloc zr156 rfl rfl rfl ?_
    refine aops_le (le_tbox (k := 6) (ts := [_]) rfl rfl) ?_
    refine aops_storeT (z := .ref _ _) sz156 rfl rfl rfl rfl (by decide) rfl ?_
    refine aops_nil (xq (awp_seq ?_))
    refine xa 4 ?_
    refine rg_q (q_fieldAddr fld37_1 rfl) (rg_q (q_fieldAddr fld31_1 rfl) (rg_q (q_load sz29 rfl rfl) ?_))
    refine rg_q (q_call en141 (.cons rfl (.cons rfl .nil)) rfl (chunk_p t.bf)) ?_
    refine xc (awp_block ?_)
    refine Awp.le (le_ownB 27 47 17 273 61 rfl rfl rfl) ?_
    refine awp_rangeHC (α := List Nat) (β := Nat) (n := 51) (enc := encK) (items := chF t.bf (tkM t)) 1000 [(6, .ref 6 0), (31, .d (.fn (.func 216) [.pt [.sl 1 (t.bf.map fC)] 0, .pt [.v (.int .i64 (64))] 0]))] (fun x => [(6, .tbox [.ref 27 0]), (27, .tbox [.d (.v (.int .i64 (t.g.fx))), .d (.v (.int .i64 (t.g.fz))), .d (.v (.int .i64 (t.g.co))), .d (.v (.int .i64 (t.g.ro))), .d (.v (.int .i64 (t.g.st))), .d (.sl 2 (t.ar.el.map shC)), .d (.v (.int .i64 (t.ar.ou.w))), .d (.v (.int .i64 (t.ar.ou.m))), .d (.v (.int .i64 (t.ar.ou.k))), .d (.v (.int .i64 (t.ar.ou.t))), .d (.v (.int .i64 (t.ar.ba.w))), .d (.v (.int .i64 (t.ar.ba.m))), .d (.v (.int .i64 (t.ar.ba.k))), .d (.v (.int .i64 (t.ar.ba.t))), .d (.v (.int .i64 (t.ar.ts.1))), .d (.v (.int .i64 (t.ar.ts.2))), .d (.v (.int .i64 (t.ne))), .rs 47]), (47, .row 273 61 (smR t.bf x))]) (fun k x => x = k) (fun e x => False) 0 27 5 (.sl 2 (t.ar.el.map shC)) hrnd ?_ (.inr ⟨rfl, rfl⟩) en216 (chunk_i t.bf (tkM t) hb1 (by omega)) rfl (fun _ => rfl) rfl (fun u x => fsl_mem (fsl_cons (fst_tbox (by repeat (first | exact ftl_nil | refine ftl_cons (by trivial) ?_))) (fsl_cons (fst_tbox (by repeat (first | exact ftl_nil | refine ftl_cons (by first | exact D.Flat.v _ | trivial) ?_))) (fsl_cons (smR_flat _ _) fsl_nil)))) (fun x => ⟨_, rfl, rfl⟩) (fun _ => rfl) rfl (fun h => by cases h) ?_ ?_ ?_
    · exact le_cst (fun k => k) _ _ rfl ⟨(by first | rfl), (by first | rfl), trivial⟩ ⟨(by first | rfl), (by first | rfl), (by first | rfl), trivial⟩ rfl (fun k b h => by rw [hpn k] at h; cases h)
    ·
      intro u w1 hw1 k x y hI hy
      subst hI
      obtain ⟨hlt, rfl⟩ := chF_at hy
      have hlk := chK_len hb1 hlt
      have hwk := chK_wh hwh x
      have hsl := smR_len t.bf x
      have hs1 : smR t.bf x ++ [anL ((chK t.bf x).map vI)] = smR t.bf (x + 1) := (smR_succ _ _).symm
      refine xa 1 ?_
      refine rg_q (q_assign (x := .d (.sl _ _)) rfl) ?_
      refine rn ?_
      refine ⟨rfl, fun w2 hw2 => ?_⟩
      refine awp_block ?_
      refine awp_seq ?_
      refine xa 7 ?_
      refine rg_q (q_move (x := .d (.sl _ _)) rfl) ?_
      refine rg_q (q_toArr (cs := (chK t.bf x).map fd) ar236 rfl (fd_row _).symm (by rw [List.length_map]; exact hlk) (by decide)) ?_
      refine rg_q (q_loadA (ds := (chK t.bf x).map fd) sz236 rfl (by rw [List.drop_zero]; exact List.take_of_length_le (by rw [List.length_map, hlk]; exact Nat.le_refl _)) (by rw [List.length_map]; exact hlk)) ?_
      refine rg_q (q_call en180 (.cons rfl .nil) rfl (analytic_p (chK t.bf x) hlk hwk)) ?_
      refine rg_q (q_move (x := .d (.tup _)) rfl) (rg_q (q_extract rfl rfl) (rg_q (q_extract rfl rfl) ?_))
      refine rg_nil ?_
      refine aops_allocD zr272 rfl sz272 rfl rfl (by exact .inr ⟨_, rfl⟩) (anL_len _) rfl ?_
      refine aops_q rfl (q_a rfl) ?_
      refine aops_nil ?_
      change Awp _ _ _ _ _
      refine awp_regionL 7 1 [0] mixed (by kernel_rfl) ?_
      refine rg_q (q_load_tb (x := .ref _ _) sz156 rfl rfl rfl) ?_
      refine rg_q (q_load_tb (x := .ref _ _) sz156 rfl rfl rfl) ?_
      refine rg_q (q_nilCheck_ref rfl) (rg_q (q_fieldAddr_ref fld202_3 rfl) ?_)
      refine rg_q (q_load_tb (x := .rs _) sz200 rfl rfl rfl) ?_
      refine rg_q (q_loadA sz272 rfl rfl rfl) ?_
      refine rg_q (q_buildSlice sl200 zr273 rfl rfl (by decide) (.cons rfl (by exact .inr ⟨_, rfl⟩) .nil) ⟨rfl, rfl, trivial⟩ rfl (by decide) rfl) ?_
      refine rg_nil ?_
      refine late_grow (c_append sl200 zr273 by273 rfl (by decide) rfl rfl rfl rfl (by (try simp only [List.length_map, List.length_append, List.length_cons, List.length_nil]); omega) (by (try simp only [List.length_map, List.length_append, List.length_cons, List.length_nil]); omega) rfl) ?_ ?_
      · refine fl_cons rfl rfl rfl (c_q (q_load_tb (x := .ref _ _) sz156 rfl rfl rfl)) ?_
        exact fl_nil
      refine late_nil ?_
      refine aops_q rfl (q_nilCheck_ref rfl) ?_
      refine aops_q rfl (q_fieldAddr_ref fld202_3 rfl) ?_
      refine aops_storeT (z := .rs _) sz200 rfl rfl rfl rfl (by simp) rfl ?_
      refine aops_nil ?_
      refine .inl ⟨rfl, x + 1, rfl, ?_⟩
      exact le_round [] _ hw2 rfl ⟨(by rfl), (by rfl), (by (show Site.row _ _ _ = Site.row _ _ _; rw [← hs1]; rfl)), trivial⟩ rfl
    ·
      intro x hI
      have hI2 : x = tkM t := by rw [hI]; unfold chF; rw [List.length_map, List.length_range]
      subst hI2
      change Awp _ _ _ _ _
      refine awp_seq ?_
      refine Awp.le (le_freezeTB 27 47 17 rfl rfl rfl rfl hmine) ?_
      refine Awp.le (le_boxT 27 (tkC t) rfl rfl (by intro j d h; match j, h with | 0, h | 1, h | 2, h | 3, h | 4, h | 5, h | 6, h | 7, h | 8, h | 9, h | 10, h | 11, h | 12, h | 13, h | 14, h | 15, h | 16, h | 17, h => cases h; rfl)) ?_
      refine xa 3 ?_
      refine rg_q (q_load_tb (x := .ref _ _) sz156 rfl rfl rfl) ?_
      refine rg_q (q_assign (x := .ref _ _) rfl) (rg_q (q_a rfl) ?_)
      refine rn ?_
      change Awp _ _ _ _ _
      refine Awp.le (le_freeze 27 2 0 (cs := tkC t) rfl rfl rfl rfl hmine) ?_
      refine awp_ret ?_
      refine ⟨_, xk2, ?_⟩
      rfl
    ·
      exact fun e x h => h.elim
end Go.Proofs.YtamaocfjknpadaaGreat.Am.M
-- mini
set_option maxRecDepth 100000
namespace Go.Proofs.YtamaocfjknpadaaGreat.Am.M
open Go

def oprE (t : Tsk) (c : Int) (pr : Int × Int) : Int := firstE [clE t.g c, whenI (!inR 0 pr.1 (t.ne - 1) || !inR 0 pr.2 (t.ne - 1)) 6]
theorem oprE_zero {t : Tsk} {c : Int} (h : 1 ≤ t.ne) : oprE t c (0, 0) = clE t.g c := by
  have e : inR 0 (0 : Int) (t.ne - 1) = true := inR_iff.2 ⟨by omega, by omega⟩
  unfold oprE
  rw [e]
  show (if clE t.g c = 0 then firstE [0] else clE t.g c) = _
  split
  · rename_i q; rw [q]; rfl
  · rfl
theorem clE_ok {g : Grd} {c : Int} (h : clE g c = 0) : 0 ≤ c ∧ c ≤ g.co * g.ro - 1 := by
  unfold clE at h
  rw [when_zero (by decide), Bool.not_eq_false'] at h
  exact inR_iff.1 h
theorem sp_last {g : Grd} (hg : GrdOk g) : spI g (g.co * g.ro - 1) = (g.fx + (g.co - 1) * g.st, g.fz + (g.ro - 1) * g.st) := by
  have hc := hg.c1
  have hr := hg.r1
  have hci := (cells_in hg).1
  have e : g.co * g.ro - 1 = (g.co - 1) + (g.ro - 1) * g.co := by grind
  unfold spI
  rw [Int.tmod_eq_emod_of_nonneg (by omega), Int.tdiv_eq_ediv_of_nonneg (by omega), e, Int.add_mul_emod_self_right, Int.emod_eq_of_lt (by omega) (by omega), Int.add_mul_ediv_right _ _ (by omega), Int.ediv_eq_zero_of_lt (by omega) (by omega), Int.zero_add]
theorem sp_in {t : Tsk} (h : TskOk t) {c : Int} (h1 : 0 ≤ c) (h2 : c ≤ t.g.co * t.g.ro - 1) : (-100000 ≤ (spI t.g c).1 ∧ (spI t.g c).1 ≤ 100000) ∧ (-100000 ≤ (spI t.g c).2 ∧ (spI t.g c).2 ≤ 100000) ∧ 1 ≤ (spI t.g c).2 ∧ (spI t.g c).2 ≤ t.ar.ou.t - 1 := by
  obtain ⟨hg, hg1, hg2⟩ := ckG_ok h.gr
  have z1 := h.z1
  have z4 := h.z4
  rw [sp_last hg] at hg1 hg2 z4
  simp only at hg1 hg2 z4
  obtain ⟨x1, x2, w1, w2, c1, c2, r1, r2, s1, s2⟩ := hg
  obtain ⟨m1, m2⟩ := tmodP_in h1 c1
  obtain ⟨d1, d2⟩ := tdivP_in h1 c1
  have d3 : c.tdiv t.g.co ≤ t.g.ro - 1 := by
    rw [Int.tdiv_eq_ediv_of_nonneg h1]
    have := Int.ediv_lt_of_lt_mul (a := c) (b := t.g.ro) (c := t.g.co) (by omega) (by rw [Int.mul_comm]; omega)
    omega
  have a1 := Int.mul_le_mul_of_nonneg_right (show c.tmod t.g.co ≤ t.g.co - 1 by omega) (show 0 ≤ t.g.st by omega)
  have a2 := Int.mul_le_mul_of_nonneg_right d3 (show 0 ≤ t.g.st by omega)
  have a3 := Int.mul_nonneg m1 (show 0 ≤ t.g.st by omega)
  have a4 := Int.mul_nonneg d1 (show 0 ≤ t.g.st by omega)
  unfold spI
  simp only
  omega
theorem op_zero {t : Tsk} (h : TskOk t) {c : Int} {pr : Int × Int} (hc : clE t.g c = 0) (hp : (0 ≤ pr.1 ∧ pr.1 < t.ne) ∧ 0 ≤ pr.2 ∧ pr.2 < t.ne) : opE t.ar (spI t.g c) pr = 0 := by
  obtain ⟨c1, c2⟩ := clE_ok hc
  obtain ⟨i1, i2, i3, i4⟩ := sp_in h c1 c2
  have hel := h.el
  unfold opE
  rw [if_neg (fun q => q h.ck)]
  refine first_zero.2 ?_
  simp only [List.mem_cons, List.not_mem_nil, or_false, forall_eq_or_imp, forall_eq]
  refine ⟨spot_ok.2 ⟨i1, i2⟩, (must_zero (by decide)).2 (inR_iff.2 ⟨i3, i4⟩), ?_⟩
  unfold pairE
  rw [hel, when_zero (by decide), inR_iff.2 ⟨hp.1.1, by omega⟩, inR_iff.2 ⟨hp.2.1, by omega⟩]; rfl
theorem openPair_p (t : Tsk) (c : Int) (pr : Int × Int) (h : TskOk t) : PC Tryz.prog 108 [.agg (tskC t), .v (.int .i64 (c)), .agg (shC pr)] (.tup [.pt (tkC t) 0, .v (.int .i64 (oprE t c pr))]) := by
 have hn1 := h.n1
 have hn2 := h.n2
 obtain ⟨hg, _, _⟩ := ckG_ok h.gr
 refine pc_of_awpN Tryz.func108 rfl Tryz.ntmps108 (rs := [.tmp 6, .tmp 7]) Tryz.results108 (by simp) fun w0 hmine hrnd hpn => ?_
 refine awp_seq ?_
 refine xa 4 ?_
 refine rg_q (q_box rfl (by exact .inr ⟨_, rfl⟩)) ?_
 refine rg_q (q_box rfl (by exact .inr ⟨_, rfl⟩)) ?_
 refine rg_q (q_a rfl) (rg_q (q_a rfl) ?_)
 refine rs (xa 7 ?_)
 refine rg_q (q_loadA sz37 rfl rfl rfl) ?_
 refine rg_q (q_call en112 (.cons rfl .nil) rfl (open_p t h)) ?_
 refine rg_q (q_move (x := .d (.tup _)) rfl) (rg_q (q_extract rfl rfl) (rg_q (q_extract rfl rfl) (rg_q (q_assign (x := .d (.pt _ _)) rfl) (rg_q (q_a rfl) ?_))))
 refine rs (awp_seq ?_)
 refine xa 2 ?_
 refine rg_q (q_m rfl) (rg_q (q_neq rfl rfl) ?_)
 refine xc (awp_cond rfl (fun hc2 => ?_) (fun hc2 => ?_))
 ·
  simp at hc2
 ·
  (try simp only [nb, ne_eq] at hc2)
  refine awp_skip ?_
  change Awp _ _ _ _ _
  refine awp_seq ?_
  refine xa 6 ?_
  refine rg_q (q_move (x := .d (.pt _ _)) rfl) (rg_q (q_nilCheck rfl) (rg_q (q_fieldAddr fld202_2 rfl) (rg_q (q_load sz3 rfl rfl) ?_)))
  refine rg_q (q_sub rfl rfl xi) ?_
  refine rg_q (q_a rfl) ?_
  refine rs (xa 24 ?_)
  refine rg_q (q_move (x := .d (.pt _ _)) rfl) (rg_q (q_move (x := .d (.pt _ _)) rfl) (rg_q (q_nilCheck rfl) (rg_q (q_fieldAddr fld202_0 rfl) ?_)))
  refine rg_q (q_loadA (ds := [_, _, _, _, _]) sz150 rfl rfl rfl) ?_
  refine rg_q (q_m rfl) ?_
  refine rg_q (q_call en118 (.cons rfl (.cons rfl .nil)) rfl (fcellErr_p t.g c hg)) ?_
  refine rg_q (q_indexAddr_ar ar63 rfl rfl (by omega) (by omega)) ?_
  refine rg_q (q_load sz3 rfl rfl) (rg_q (q_m rfl) ?_)
  refine rg_q (q_call en89 (.cons rfl (.cons rfl (.cons rfl .nil))) rfl (fwithin_p _ _ _)) ?_
  refine rg_q (q_not rfl) (rg_q (q_m rfl) ?_)
  refine rg_g rfl rfl (fun hG => (q_indexAddr_ar ar63 rfl rfl (by (have hg0 := T.bool_inj (a := _) hG.1; (try simp only [nb, ne_eq] at hg0); omega)) (by (have hg0 := T.bool_inj (a := _) hG.1; (try simp only [nb, ne_eq] at hg0); omega)))) ?_
  refine rg_g rfl rfl (fun hG => (q_load sz3 rfl rfl)) ?_
  refine rg_g rfl rfl (fun hG => (q_m rfl)) ?_
  refine rg_g rfl rfl (fun hG => (q_call en89 (.cons rfl (.cons rfl (.cons rfl .nil))) rfl (fwithin_p _ _ _))) ?_
  refine rg_g rfl rfl (fun hG => (q_not rfl)) ?_
  refine rg_pick rfl rfl rfl rfl rfl rfl ?_
  refine rg_q (q_call en88 (.cons rfl (.cons rfl .nil)) rfl (fwhen_p _ _)) ?_
  refine rg_q (q_buildSlice sl282 zr40 rfl rfl (by decide) (.cons rfl (by exact .inl rfl) (.cons rfl (by exact .inl rfl) .nil)) ⟨rfl, rfl, rfl, rfl, trivial⟩ rfl (by decide) rfl) ?_
  refine rg_q (q_call en117 (.cons rfl .nil) rfl (ffirst_p [_, _])) ?_
  refine rg_q (q_assign (x := .d (.pt _ _)) rfl) (rg_q (q_a rfl) ?_)
  refine xc (awp_ret ?_)
  refine ⟨_, xk2, ?_⟩
  unfold oprE; (try simp only [bif_or]); rfl
theorem openCell_p (t : Tsk) (c : Int) (h : TskOk t) : PC Tryz.prog 94 [.agg (tskC t), .v (.int .i64 (c))] (.tup [.pt (tkC t) 0, .v (.int .i64 (clE t.g c))]) := by
 have hz := oprE_zero (t := t) (c := c) h.n1
 refine pc_of_awpN Tryz.func94 rfl Tryz.ntmps94 (rs := [.tmp 4, .tmp 5]) Tryz.results94 (by simp) fun w0 hmine hrnd hpn => ?_
 refine awp_seq ?_
 refine xa 3 ?_
 refine rg_q (q_box rfl (by exact .inr ⟨_, rfl⟩)) ?_
 refine rg_q (q_a rfl) (rg_q (q_a rfl) ?_)
 refine rs (xa 8 ?_)
 refine rg_q (q_loadA sz37 rfl rfl rfl) ?_
 refine rg_q (q_m rfl) ?_
 refine rg_q (q_buildA (cs := [_, _]) ar63 zr63 rfl .nil trivial rfl) ?_
 refine rg_q (q_call en108 (.cons rfl (.cons rfl (.cons rfl .nil))) rfl ((by have h := openPair_p t c (0, 0) h; rw [hz] at h; exact h))) ?_
 refine rg_q (q_extract rfl rfl) (rg_q (q_extract rfl rfl) (rg_q (q_assign (x := .d (.pt _ _)) rfl) (rg_q (q_a rfl) ?_)))
 refine xc (awp_ret ?_)
 refine ⟨_, xk2, ?_⟩
 rfl

def allL (n : Nat) : List Int := (List.range n).map fun i : Nat => (i : Int)
theorem allL_succ (n : Nat) : allL (n + 1) = allL n ++ [(n : Int)] := by unfold allL; rw [List.range_succ, List.map_append]; rfl
theorem allL_len (n : Nat) : (allL n).length = n := by unfold allL; rw [List.length_map, List.length_range]
theorem allL_in {n : Nat} {i : Int} (h : i ∈ allL n) : 0 ≤ i ∧ i < n := by
  unfold allL at h
  obtain ⟨k, hk, rfl⟩ := List.mem_map.1 h
  have := List.mem_range.1 hk
  omega
theorem all_p (t : Tsk) (h1 : 1 ≤ t.ne) (h2 : t.ne ≤ 16) : PC Tryz.prog 96 [.pt (tkC t) 0] (.sl 1 ((allL t.ne.toNat).map iC)) := by
 refine pc_of_awpN Tryz.func96 rfl Tryz.ntmps96 (rs := [.tmp 2]) Tryz.results96 (by simp) fun w0 hmine hrnd hpn => ?_
 refine awp_seq ?_
 refine xa 1 ?_
 refine rg_q (q_assign (x := .d (.sl _ _)) rfl) ?_
 refine rs (xa 1 ?_)
 refine rg_q (q_assign_nil) ?_
 refine rn ?_
 change Awp _ _ _ _ _
 refine Awp.le (le_own (k := 3) (e := 3) (sz := 1) rfl rfl) ?_
 refine awp_seq ?_
 refine awp_seq ?_
 refine xa 5 ?_
 refine rg_q (q_move (x := .d (.pt _ _)) rfl) (rg_q (q_nilCheck rfl) (rg_q (q_fieldAddr fld202_2 rfl) (rg_q (q_load sz3 rfl rfl) (rg_q (q_m rfl) ?_))))
 refine xc (awp_block ?_)
 refine awp_loopH [3, 4, 9, 10, 11, 12, 13, 14, 15, 16] [3] (α := Nat) (fun k => [(9, T.i (k : Int)), (3, .rs 3)]) (fun k => [(3, .row 3 1 ((allL k).map iC))]) (fun k => k ≤ t.ne.toNat) (fun k => t.ne.toNat - k) 0 (Nat.zero_le _) ?_ ?_
 · exact xh (ms := [3]) (by repeat (exact Out.refl _)) ⟨(by rfl), (by rfl), trivial⟩ ⟨(by rfl), trivial⟩
 ·
  intro k hk
  have hal := allL_len k
  refine awp_seq ?_
  refine xa 1 ?_
  refine rg_q (q_lss rfl rfl) ?_
  refine rs (awp_cond rfl (fun hc3 => ?_) (fun hc3 => ?_))
  ·
   (try simp only [nb, ne_eq] at hc3)
   have hsk : (allL (k + 1)).map iC = (allL k).map iC ++ [[.v (.int .i64 (k : Int))]] := by rw [allL_succ, List.map_append]; rfl
   refine awp_skip ?_
   change Awp _ _ _ _ _
   refine awp_seq ?_
   refine awp_block ?_
   refine awp_seq ?_
   refine xa 2 ?_
   refine rg_q (q_m rfl) (rg_q (q_a rfl) ?_)
   refine rn ?_
   change Awp _ _ _ _ _
   refine xa 3 ?_
   refine rg_q (q_move (x := .rs _) rfl) (rg_q (q_m rfl) ?_)
   refine rg_q (q_buildSlice sl77 zr3 rfl rfl (by decide) (.cons rfl (by exact .inl rfl) .nil) ⟨rfl, rfl, trivial⟩ rfl (by decide) rfl) ?_
   refine rg_nil ?_
   refine aops_append sl77 zr3 by3 rfl (by decide) rfl rfl rfl rfl (by (try simp only [List.length_map, List.length_append, List.length_cons, List.length_nil]); omega) (by (try simp only [List.length_map, List.length_append, List.length_cons, List.length_nil]); omega) rfl rfl ?_
   refine aops_q rfl (q_assign (x := .rs _) rfl) ?_
   refine aops_nil ?_
   change Awp _ _ _ _ _
   refine xa 2 ?_
   refine rg_q (q_add rfl rfl xi) ?_
   refine rg_q (q_m rfl) ?_
   refine rn ?_
   refine ⟨k + 1, by omega, by omega, ?_⟩
   exact xh (ms := [3]) (by repeat (first | exact Out.head rfl rfl | (refine Out.put ?_ rfl) | (refine Out.site ?_ rfl) | (refine Out.killS ?_ rfl))) ⟨(by rfl), (by rfl), trivial⟩ ⟨(by ((show Site.row 3 1 _ = Site.row 3 1 _; rw [hsk]; rfl))), trivial⟩
  ·
   (try simp only [nb, ne_eq] at hc3)
   have hkn : k = t.ne.toNat := by omega
   subst hkn
   refine awp_exit ?_
   change Awp _ _ _ _ _
   refine awp_seq ?_
   refine xa 2 ?_
   refine rg_q (q_move (x := .rs _) rfl) (rg_q (q_assign (x := .rs _) rfl) ?_)
   refine xc (awp_ret ?_)
   refine ⟨_, (.cons (.tmp (by exact .rs rfl)) .nil), ?_⟩
   rfl
theorem nearest_p (t : Tsk) (tm : Int) (h : ArrOk t.ar) (h1 : -1000000000000 ≤ tm) (h2 : tm ≤ 1000000000000) : PC Tryz.prog 173 [.pt (tkC t) 0, .v (.int .i64 (tm))] (.v (.int .i64 (rndI (tm - t.ar.ts.1) t.ar.ts.2))) := by
 obtain ⟨_, _, _, _, _, _, t1, t2, t3, t4⟩ := h
 have hq := tdiv_sm (a := 2 * (tm - t.ar.ts.1) + t.ar.ts.2) (b := 2 * t.ar.ts.2) ⟨by omega, by omega⟩ (by omega)
 obtain ⟨h5, h6⟩ := hq
 have hl := floor_law (n := 2 * (tm - t.ar.ts.1) + t.ar.ts.2) (b := 2 * t.ar.ts.2) (by omega)
 refine pc_of_awp Tryz.func173 rfl Tryz.ntmps173 (rs := [.tmp 4]) Tryz.results173 (by simp) fun w0 => ?_
 refine awp_seq ?_
 refine xa 1 ?_
 refine rg_q (q_a rfl) ?_
 refine rs (xa 25 ?_)
 refine rg_q (q_m rfl) (rg_q (q_move (x := .d (.pt _ _)) rfl) (rg_q (q_nilCheck rfl) (rg_q (q_fieldAddr fld202_1 rfl) (rg_q (q_fieldAddr fld28_3 rfl) (rg_q (q_fieldAddr fld26_0 rfl) ?_)))))
 refine rg_q (q_load sz3 rfl rfl) ?_
 refine rg_q (q_sub rfl rfl xi) ?_
 refine rg_q (q_mul rfl rfl xi) ?_
 refine rg_q (q_move (x := .d (.pt _ _)) rfl) (rg_q (q_nilCheck rfl) (rg_q (q_fieldAddr fld202_1 rfl) (rg_q (q_fieldAddr fld28_3 rfl) (rg_q (q_fieldAddr fld26_1 rfl) (rg_q (q_load sz3 rfl rfl) ?_)))))
 refine rg_q (q_add rfl rfl xi) ?_
 refine rg_q (q_move (x := .d (.pt _ _)) rfl) (rg_q (q_nilCheck rfl) (rg_q (q_fieldAddr fld202_1 rfl) (rg_q (q_fieldAddr fld28_3 rfl) (rg_q (q_fieldAddr fld26_1 rfl) (rg_q (q_load sz3 rfl rfl) ?_)))))
 refine rg_q (q_mul rfl rfl xi) ?_
 refine rg_q (q_a rfl) (rg_q (q_a rfl) ?_)
 refine rs (xa 4 ?_)
 refine rg_q (q_m rfl) (rg_q (q_m rfl) ?_)
 refine rg_q (q_quo rfl rfl (by omega) xi) ?_
 refine rg_q (q_a rfl) ?_
 refine rs (awp_seq ?_)
 refine xa 4 ?_
 refine rg_q (q_m rfl) (rg_q (q_m rfl) ?_)
 refine rg_q (q_rem rfl rfl (by omega)) ?_
 refine rg_q (q_lss rfl rfl) ?_
 refine xc (awp_cond rfl (fun hc3 => ?_) (fun hc3 => ?_))
 ·
  (try simp only [nb, ne_eq] at hc3)
  rw [if_pos hc3] at hl
  refine xa 3 ?_
  refine rg_q (q_m rfl) ?_
  refine rg_q (q_sub rfl rfl xi) ?_
  refine rg_q (q_a rfl) ?_
  refine rs (xa 2 ?_)
  refine rg_q (q_m rfl) (rg_q (q_a rfl) ?_)
  refine xc (awp_ret ?_)
  refine ⟨_, xk1, ?_⟩
  unfold rndI; rw [← hl]; rfl
 ·
  (try simp only [nb, ne_eq] at hc3)
  rw [if_neg (by omega)] at hl
  refine awp_skip ?_
  change Awp _ _ _ _ _
  refine awp_seq ?_
  refine xa 2 ?_
  refine rg_q (q_m rfl) (rg_q (q_a rfl) ?_)
  refine xc (awp_ret ?_)
  refine ⟨_, xk1, ?_⟩
  unfold rndI; rw [← hl]; rfl
theorem number_p (t : Tsk) (c : Int) (pr : Int × Int) (h : TskOk t) (hc : clE t.g c = 0) (hp : (0 ≤ pr.1 ∧ pr.1 < t.ne) ∧ 0 ≤ pr.2 ∧ pr.2 < t.ne) : PC Tryz.prog 109 [.pt (tkC t) 0, .v (.int .i64 (c)), .agg (shC pr)] (.tup [.v (.int .i64 (smpI t.ar (spI t.g c) pr)), .v (.bool (inR 0 (smpI t.ar (spI t.g c) pr) 60))]) := by
 obtain ⟨hg, _, _⟩ := ckG_ok h.gr
 obtain ⟨c1, c2⟩ := clE_ok hc
 have hci := cells_in hg
 obtain ⟨hao, _⟩ := ckArr_ok h.ck
 have ho := op_zero h hc hp
 have he : echR t.ar (spI t.g c) pr = (echI t.ar (spI t.g c) pr, 0) := by unfold echR; rw [if_neg (fun q => q ho)]
 have hei := ech_in t.ar (spI t.g c) pr
 refine pc_of_awpN Tryz.func109 rfl Tryz.ntmps109 (rs := [.tmp 6, .tmp 7]) Tryz.results109 (by simp) fun w0 hmine hrnd hpn => ?_
 refine awp_seq ?_
 refine xa 3 ?_
 refine rg_q (q_box rfl (by exact .inr ⟨_, rfl⟩)) ?_
 refine rg_q (q_a rfl) (rg_q (q_a rfl) ?_)
 refine rs (xa 17 ?_)
 refine rg_q (q_move (x := .d (.pt _ _)) rfl) (rg_q (q_nilCheck rfl) (rg_q (q_fieldAddr fld202_1 rfl) ?_))
 refine rg_q (q_loadA (ds := [_, _, _, _, _, _, _, _, _, _, _]) sz28 rfl rfl rfl) ?_
 refine rg_q (q_move (x := .d (.pt _ _)) rfl) (rg_q (q_nilCheck rfl) (rg_q (q_fieldAddr fld202_0 rfl) ?_))
 refine rg_q (q_loadA (ds := [_, _, _, _, _]) sz150 rfl rfl rfl) ?_
 refine rg_q (q_m rfl) ?_
 refine rg_q (q_call en90 (.cons rfl (.cons rfl .nil)) rfl (fspot_p t.g c hg c1 (by omega))) ?_
 refine rg_q (q_loadA (ds := [_, _]) sz63 rfl rfl rfl) ?_
 refine rg_q (q_call en178 (.cons rfl (.cons rfl (.cons rfl .nil))) rfl ((by have h := echoAt_p t.ar (spI t.g c) pr; rw [he] at h; exact h))) ?_
 refine rg_q (q_move (x := .d (.tup _)) rfl) (rg_q (q_extract rfl rfl) (rg_q (q_extract rfl rfl) (rg_q (q_a rfl) (rg_q (q_a rfl) ?_))))
 refine rs (xa 4 ?_)
 refine rg_q (q_move (x := .d (.pt _ _)) rfl) (rg_q (q_m rfl) ?_)
 refine rg_q (q_call en173 (.cons rfl (.cons rfl .nil)) rfl (nearest_p t _ hao (by omega) (by omega))) ?_
 refine rg_q (q_a rfl) ?_
 refine rs (xa 5 ?_)
 refine rg_q (q_m rfl) (rg_q (q_m rfl) ?_)
 refine rg_q (q_call en89 (.cons rfl (.cons rfl (.cons rfl .nil))) rfl (fwithin_p _ _ _)) ?_
 refine rg_q (q_a rfl) (rg_q (q_a rfl) ?_)
 refine xc (awp_ret ?_)
 refine ⟨_, xk2, ?_⟩
 rfl
end Go.Proofs.YtamaocfjknpadaaGreat.Am.M
-- mini
set_option maxRecDepth 100000
namespace Go.Proofs.YtamaocfjknpadaaGreat.Am.M
open Go
theorem index5_p (l : List Int) (n : Int) : PC Tryz.prog 236 [.sl 1 (l.map iC), .v (.int .i64 (n))] (.v (.int .i64 (idxOf (fun x => decide (n = x)) 0 l))) := by
 refine pc_of_awp Tryz.func236 rfl Tryz.ntmps236 (rs := [.tmp 4]) Tryz.results236 (by simp) fun w0 => ?_
 refine awp_seq ?_
 refine xa 1 ?_
 refine rg_q (q_a rfl) ?_
 refine rs (awp_seq ?_)
 refine xa 3 ?_
 refine rg_q (q_move (x := .d (.sl _ _)) rfl) ?_
 refine rg_q (q_len isl77 rfl (by exact len_map _ _)) ?_
 refine rg_q (q_m rfl) ?_
 refine xc (awp_len (t := 6) rfl (fun hl6 => ?_))
 (try simp only [List.length_map] at hl6)
 refine awp_block ?_
 refine awp_loopH [4, 5, 8, 9, 10, 11, 12, 13, 14, 15, 16, 17, 18] [] (α := Nat) (fun k => [(8, T.i (k : Int))]) (fun k => []) (fun k => k ≤ l.length ∧ idxOf (fun x => decide (n = x)) 0 l = idxOf (fun x => decide (n = x)) k (l.drop k)) (fun k => l.length - k) 0 ⟨Nat.zero_le _, rfl⟩ ?_ ?_
 · exact xh (ms := []) (by repeat (exact Out.refl _)) ⟨(by rfl), trivial⟩ trivial
 ·
  intro k ⟨hk, hh⟩
  refine awp_seq ?_
  refine xa 1 ?_
  refine rg_q (q_lss rfl rfl) ?_
  refine rs (awp_cond rfl (fun hc2 => ?_) (fun hc2 => ?_))
  ·
   (try simp only [nb, ne_eq] at hc2)
   have hlt : k < l.length := by omega
   have hx := List.getElem?_eq_getElem hlt
   have hd : idxOf (fun x => decide (n = x)) k (l.drop k) = if decide (n = l[k]) = true then (k : Int) else idxOf (fun x => decide (n = x)) (k + 1) (l.drop (k + 1)) := by rw [List.drop_eq_getElem_cons hlt]; rfl
   generalize l[k] = x at *
   refine awp_skip ?_
   change Awp _ _ _ _ _
   refine awp_seq ?_
   refine awp_block ?_
   refine awp_seq ?_
   refine xa 2 ?_
   refine rg_q (q_m rfl) (rg_q (q_a rfl) ?_)
   refine rs (xa 6 ?_)
   refine rg_q (q_m rfl) (rg_q (q_move (x := .d (.sl _ _)) rfl) (rg_q (q_m rfl) ?_))
   refine rg_q (q_indexAddr sl77 rfl rfl (by omega) (map_at (by omega) hx)) ?_
   refine rg_q (q_load sz3 rfl rfl) (rg_q (q_eql rfl rfl) ?_)
   refine xc (awp_cond rfl (fun hc4 => ?_) (fun hc4 => ?_))
   ·
    (try simp only [nb, ne_eq] at hc4)
    refine awp_seq ?_
    refine xa 2 ?_
    refine rg_q (q_m rfl) (rg_q (q_a rfl) ?_)
    refine xc (awp_ret ?_)
    refine ⟨_, xk1, ?_⟩
    rw [hh, hd, if_pos (by simpa using hc4)]; rfl
   ·
    (try simp only [nb, ne_eq] at hc4)
    refine awp_skip ?_
    change Awp _ _ _ _ _
    refine xa 2 ?_
    refine rg_q (q_add rfl rfl xi) ?_
    refine rg_q (q_m rfl) ?_
    refine rn ?_
    refine ⟨k + 1, ⟨by omega, by rw [hh, hd, if_neg (by simpa using hc4)]⟩, by omega, ?_⟩
    exact xh (ms := []) (by repeat (first | exact Out.head rfl rfl | (refine Out.put ?_ rfl))) ⟨(by rfl), trivial⟩ trivial
  ·
   (try simp only [nb, ne_eq] at hc2)
   refine awp_exit ?_
   change Awp _ _ _ _ _
   refine awp_seq ?_
   refine xa 1 ?_
   refine rg_q (q_a rfl) ?_
   refine xc (awp_ret ?_)
   refine ⟨_, xk1, ?_⟩
   rw [hh, List.drop_of_length_le (by omega)]; rfl
theorem contains5_p (l : List Int) (n : Int) : PC Tryz.prog 170 [.sl 1 (l.map iC), .v (.int .i64 (n))] (.v (.bool (l.any fun x => decide (n = x)))) := by
 refine pc_of_awp Tryz.func170 rfl Tryz.ntmps170 (rs := [.tmp 4]) Tryz.results170 (by simp) fun w0 => ?_
 refine awp_seq ?_
 refine xa 1 ?_
 refine rg_q (q_a rfl) ?_
 refine rs (xa 5 ?_)
 refine rg_q (q_move (x := .d (.sl _ _)) rfl) (rg_q (q_m rfl) ?_)
 refine rg_q (q_call en236 (.cons rfl (.cons rfl .nil)) rfl (index5_p _ _)) ?_
 refine rg_q (q_geq rfl rfl) (rg_q (q_a rfl) ?_)
 refine xc (awp_ret ?_)
 refine ⟨_, xk1, ?_⟩
 rw [← idxOf_mem]; rfl
theorem fpairs_p (t : Tsk) (l : List Int) : PC Tryz.prog 102 [.pt (tkC t) 0, .sl 1 (l.map iC)] (.fn (.func 171) [.pt [.sl 1 (l.map iC)] 0, .pt [.pt (tkC t) 0] 0]) := by
 refine pc_of_awp Tryz.func102 rfl Tryz.ntmps102 (rs := [.tmp 4]) Tryz.results102 (by simp) fun w0 => ?_
 refine awp_seq ?_
 refine xa 3 ?_
 refine rg_q (q_box rfl (by exact .inl rfl)) ?_
 refine rg_q (q_box rfl (by exact .inl rfl)) ?_
 refine rg_q (q_assign (x := .d (.v .nilFunc)) rfl) ?_
 refine rs (xa 2 ?_)
 refine rg_q (q_makeFunc (.cons rfl (.cons rfl .nil))) ?_
 refine rg_q (q_assign (x := .d (.fn _ _)) rfl) ?_
 refine xc (awp_ret ?_)
 refine ⟨_, xk1, ?_⟩
 rfl

def pqR (x : Int) (j : Nat) : List (Int × Int) := (List.range j).map fun r : Nat => (x, (r : Int))
def pqF (l : List Int) (n i : Nat) : List (Int × Int) := (l.take i).flatMap fun x => pqR x n
def pqL (l : List Int) (n : Nat) : List (Int × Int) := l.flatMap fun x => pqR x n
theorem pqR_succ (x : Int) (j : Nat) : pqR x (j + 1) = pqR x j ++ [(x, (j : Int))] := by unfold pqR; rw [List.range_succ, List.map_append]; rfl
theorem pqF_succ {l : List Int} {n i : Nat} {x : Int} (h : l[i]? = some x) : pqF l n (i + 1) = pqF l n i ++ pqR x n := by
  obtain ⟨hlt, hx⟩ := List.getElem?_eq_some_iff.1 h
  unfold pqF
  rw [List.take_succ_eq_append_getElem hlt, hx, List.flatMap_append]; simp
theorem pqF_all (l : List Int) (n : Nat) : pqF l n l.length = pqL l n := by unfold pqF pqL; rw [List.take_length]
theorem pqR_pre (x : Int) {j : Nat} : ∀ {n : Nat}, j ≤ n → pqR x j <+: pqR x n
  | 0, h => by have : j = 0 := by omega
               subst this; exact List.prefix_rfl
  | n + 1, h => by
    by_cases e : j = n + 1
    · subst e; exact List.prefix_rfl
    · rw [pqR_succ]; exact (pqR_pre x (show j ≤ n by omega)).trans (List.prefix_append _ _)
theorem pqF_pre {l : List Int} {n i : Nat} {x : Int} (h : l[i]? = some x) : pqF l n i ++ pqR x n <+: pqL l n := by
  obtain ⟨hlt, hx⟩ := List.getElem?_eq_some_iff.1 h
  rw [← pqF_succ h]
  unfold pqF pqL
  conv => rhs; rw [← List.take_append_drop (i + 1) l]
  rw [List.flatMap_append]
  exact List.prefix_append _ _
theorem pq_pre {l : List Int} {n i j : Nat} {x : Int} (h : l[i]? = some x) (hj : j < n) : pqF l n i ++ pqR x j ++ [(x, (j : Int))] <+: pqL l n := by
  rw [List.append_assoc, ← pqR_succ]
  have h1 := pqR_pre x (show j + 1 ≤ n by omega)
  obtain ⟨t, ht⟩ := h1
  refine List.IsPrefix.trans ?_ (pqF_pre (n := n) h)
  rw [← ht, ← List.append_assoc]
  exact List.prefix_append _ _
theorem pqL_in {l : List Int} {n : Nat} {y : Int × Int} (h : y ∈ pqL l n) : y.1 ∈ l ∧ 0 ≤ y.2 ∧ y.2 < n := by
  unfold pqL at h
  obtain ⟨x, hx, h⟩ := List.mem_flatMap.1 h
  unfold pqR at h
  obtain ⟨r, hr, rfl⟩ := List.mem_map.1 h
  have := List.mem_range.1 hr
  exact ⟨hx, by simp only; omega, by simp only; omega⟩
theorem pqL_len (l : List Int) (n : Nat) : (pqL l n).length = l.length * n := by
  unfold pqL
  induction l with
  | nil => simp
  | cons x l ih =>
    rw [List.flatMap_cons, List.length_append, ih, List.length_cons, Nat.succ_mul]
    unfold pqR
    rw [List.length_map, List.length_range]; omega
def smpS (t : Tsk) (y : Int × Int) : List Int := (chK t.bf (y.1 * t.ne + y.2).toNat).map vI
def encQ (t : Tsk) (y : Int × Int) : List D := [.agg (shC y), .pt (anL (smpS t y)) 0]
theorem smR_at {l : List Nat} {m i : Nat} (h : i < m) : (smR l m)[i]? = some (anL ((chK l i).map vI)) := by
  unfold smR chF
  rw [List.getElem?_map, List.getElem?_map, List.getElem?_range h]; rfl
theorem pr_idx {t : Tsk} (h : TskOk t) {x : Int} {j : Nat} (h1 : 0 ≤ x) (h2 : x < t.ne) (hj : (j : Int) < t.ne) : (0 ≤ x * t.ne ∧ x * t.ne ≤ 256) ∧ x * t.ne + (j : Int) < t.ne * t.ne := by
  have a1 := h.n1
  have a2 := h.n2
  have m := mulb (a := x) (b := t.ne) (A := 16) (B := 16) (by omega) (by omega) (by omega) (by omega)
  have p := Int.mul_nonneg h1 (show 0 ≤ t.ne by omega)
  have q := Int.mul_le_mul_of_nonneg_right (show x ≤ t.ne - 1 by omega) (show 0 ≤ t.ne by omega)
  rw [Int.sub_mul] at q
  omega
theorem fpairs_i (t : Tsk) (l : List Int) (h : TskOk t) (hl : ∀ x ∈ l, 0 ≤ x ∧ x < t.ne) (hll : l.length ≤ 10000) : PI Tryz.prog 171 [] [.pt [.sl 1 (l.map iC)] 0, .pt [.pt (tkC t) 0] 0] ((encQ t)) (pqL l t.ne.toNat) true := by
  have hn1 := h.n1
  have hn2 := h.n2
  obtain ⟨_, _, hm3⟩ := tsk_len h
  refine pi_of_iwp Tryz.func171 rfl Tryz.ntmps171 rfl rfl fun J c l0 hJ hy hdat hfin => ?_
  refine iwp_seq ?_
  apply iwp_reg hJ
  ·
    intro c1 hmine hrnd
    refine xa 3 ?_
    refine rg_q (q_load sz77 rfl rfl) ?_
    refine rg_q (q_len isl77 rfl (by exact len_map _ _)) ?_
    refine rg_q (q_m rfl) ?_
    refine rn ?_
    exact ⟨rfl, rfl⟩
  change Iwp _ _ _ _ _ _ _
  refine iwp_len (t := 7) rfl (fun hl7 => ?_)
  (try simp only [List.length_map] at hl7)
  refine iwp_block ?_
  refine iwp_loopH [5, 6, 9, 10, 11, 12, 13, 14, 15, 16, 17, 18, 19, 20, 21, 22, 23, 24, 25, 26, 27, 28, 29, 30, 31, 32, 33, 34, 35, 36, 37, 38, 39, 40] [] (β := Nat) (fun i => [(9, T.i (i : Int))]) (fun i => []) (fun i => (true, pqF l t.ne.toNat i)) (fun i => i ≤ l.length) (fun i => l.length - i) 0 (Nat.zero_le _) rfl (fun c1 => ?_) ?_
  · exact xh (ms := []) (by repeat (exact Out.refl _)) ⟨(by rfl), trivial⟩ trivial
  ·
    intro i hi
    refine iwp_seq ?_
    apply iwp_reg hJ
    ·
      intro c1 hmine hrnd
      refine xa 1 ?_
      refine rg_q (q_lss rfl rfl) ?_
      refine rn ?_
      exact ⟨rfl, rfl⟩
    change Iwp _ _ _ _ _ _ _
    refine iwp_seq ?_
    refine iwp_cond rfl (fun hc1 => ?_) (fun hc1 => ?_)
    ·
      (try simp only [nb, ne_eq] at hc1)
      have hlt : i < l.length := by omega
      obtain ⟨x, hx⟩ : ∃ x, l[i]? = some x := ⟨_, List.getElem?_eq_getElem hlt⟩
      obtain ⟨hx1, hx2⟩ := hl x (List.mem_of_getElem? hx)
      refine iwp_skip ?_
      change Iwp _ _ _ _ _ _ _
      refine iwp_seq ?_
      refine iwp_block ?_
      refine iwp_seq ?_
      apply iwp_reg hJ
      ·
        intro c1 hmine hrnd
        refine xa 3 ?_
        refine rg_q (q_indexAddr sl77 rfl rfl (by omega) (map_at (by omega) hx)) ?_
        refine rg_q (q_load sz3 rfl rfl) (rg_q (q_a rfl) ?_)
        refine rn ?_
        exact ⟨rfl, rfl⟩
      change Iwp _ _ _ _ _ _ _
      refine iwp_seq ?_
      apply iwp_reg hJ
      ·
        intro c1 hmine hrnd
        refine xa 5 ?_
        refine rg_q (q_load sz156 rfl rfl) (rg_q (q_nilCheck rfl) (rg_q (q_fieldAddr fld202_2 rfl) (rg_q (q_load sz3 rfl rfl) (rg_q (q_m rfl) ?_))))
        refine rn ?_
        exact ⟨rfl, rfl⟩
      change Iwp _ _ _ _ _ _ _
      refine iwp_block ?_
      refine iwp_loopH [6, 17, 18, 19, 20, 21, 22, 23, 24, 25, 26, 27, 28, 29, 30, 31, 32, 33, 34, 35, 36, 37, 38, 39] [] (β := Nat) (fun j => [(17, T.i (j : Int))]) (fun j => []) (fun j => (true, pqF l t.ne.toNat i ++ pqR x j)) (fun j => j ≤ t.ne.toNat) (fun j => t.ne.toNat - j) 0 (Nat.zero_le _) (by show (true, _ ++ pqR x 0) = (true, _); simp [pqR]) (fun c1 => ?_) ?_
      · exact xh (ms := []) (by repeat (exact Out.refl _)) ⟨(by rfl), trivial⟩ trivial
      ·
        intro j hj
        refine iwp_seq ?_
        apply iwp_reg hJ
        ·
          intro c1 hmine hrnd
          refine xa 1 ?_
          refine rg_q (q_lss rfl rfl) ?_
          refine rn ?_
          exact ⟨rfl, rfl⟩
        change Iwp _ _ _ _ _ _ _
        refine iwp_seq ?_
        refine iwp_cond rfl (fun hc4 => ?_) (fun hc4 => ?_)
        ·
          (try simp only [nb, ne_eq] at hc4)
          have hlj : j < t.ne.toNat := by omega
          have hpre := pq_pre (n := t.ne.toNat) hx hlj
          obtain ⟨⟨hq1, hq2⟩, hq3⟩ := pr_idx h (j := j) hx1 hx2 (by omega)
          have hsm : (smR t.bf (tkM t))[(x * t.ne + (j : Int)).toNat]? = some (anL (smpS t (x, (j : Int)))) := smR_at (by omega)
          refine iwp_skip ?_
          change Iwp _ _ _ _ _ _ _
          refine iwp_seq ?_
          refine iwp_block ?_
          refine iwp_seq ?_
          apply iwp_reg hJ
          ·
            intro c1 hmine hrnd
            refine xa 2 ?_
            refine rg_q (q_m rfl) (rg_q (q_a rfl) ?_)
            refine rn ?_
            exact ⟨rfl, rfl⟩
          change Iwp _ _ _ _ _ _ _
          refine iwp_seq ?_
          refine iwp_regionD 17 mixed hJ (by kernel_rfl) (fun c1 hmine => ?_)
          refine rg_q (q_move (x := .d (.fn _ _)) rfl) (rg_q (q_m rfl) (rg_q (q_m rfl) ?_))
          refine rg_q (q_buildA (cs := [_, _]) ar63 zr63 rfl (.cons rfl (by exact .inl rfl) (.cons rfl (by exact .inl rfl) .nil)) ⟨⟨rfl, by decide⟩, ⟨rfl, by decide⟩, trivial⟩ rfl) ?_
          refine rg_q (q_load sz156 rfl rfl) (rg_q (q_nilCheck rfl) (rg_q (q_fieldAddr fld202_3 rfl) (rg_q (q_load sz200 rfl rfl) (rg_q (q_m rfl) (rg_q (q_load sz156 rfl rfl) ?_)))))
          refine rg_q (q_nilCheck rfl) (rg_q (q_fieldAddr fld202_2 rfl) (rg_q (q_load sz3 rfl rfl) ?_))
          refine rg_q (q_mul rfl rfl xi) ?_
          refine rg_q (q_m rfl) ?_
          refine rg_q (q_add rfl rfl xi) ?_
          refine rg_q (q_indexAddr sl200 rfl rfl (by omega) (hsm)) ?_
          refine rg_nil ?_
          refine iops_yield (x := (x, (j : Int))) hy hdat rfl (.cons rfl (.cons rfl .nil)) hpre rfl (fun yb => ?_)
          refine iops_of hJ rfl (fun c1 _ _ _ h => by exact aops_q rfl ((q_not rfl)) h) ?_
          refine iops_nil ?_
          change Iwp _ _ _ _ _ _ _
          refine iwp_cond rfl (fun hc6 => ?_) (fun hc6 => ?_)
          ·
            (try simp only [nb, ne_eq] at hc6)
            have hyb : yb = false := by cases yb <;> first | rfl | (exfalso; simp_all; done)
            refine iwp_ret ?_
            exact ⟨.inl rfl, fun h => by rw [hyb] at h; cases h⟩
          ·
            (try simp only [nb, ne_eq] at hc6)
            have hyb : yb = true := by cases yb <;> first | rfl | (exfalso; simp_all; done)
            refine iwp_skip ?_
            change Iwp _ _ _ _ _ _ _
            apply iwp_reg hJ
            ·
              intro c1 hmine hrnd
              refine xa 2 ?_
              refine rg_q (q_add rfl rfl xi) ?_
              refine rg_q (q_m rfl) ?_
              refine rn ?_
              exact ⟨rfl, rfl⟩
            refine ⟨j + 1, by omega, by omega, by rw [hyb, pqR_succ, List.append_assoc], fun c1 => ?_⟩
            exact xh (ms := []) (by repeat (first | exact Out.head rfl rfl | (refine Out.put ?_ rfl))) ⟨(by rfl), trivial⟩ trivial
        ·
          (try simp only [nb, ne_eq] at hc4)
          have hjn : j = t.ne.toNat := by omega
          refine iwp_exit ?_
          change Iwp _ _ _ _ _ _ _
          apply iwp_reg hJ
          ·
            intro c1 hmine hrnd
            refine xa 2 ?_
            refine rg_q (q_add rfl rfl xi) ?_
            refine rg_q (q_m rfl) ?_
            refine rn ?_
            exact ⟨rfl, rfl⟩
          refine ⟨i + 1, by omega, by omega, by rw [hjn, pqF_succ hx], fun c1 => ?_⟩
          exact xh (ms := []) (by repeat (first | exact Out.head rfl rfl | (refine Out.put ?_ rfl) | (refine Out.headIn ?_ rfl rfl rfl))) ⟨(by rfl), trivial⟩ trivial
    ·
      (try simp only [nb, ne_eq] at hc1)
      have hin : i = l.length := by omega
      refine iwp_exit ?_
      exact ⟨.inr rfl, fun _ => by rw [hin, pqF_all]⟩
theorem fplus_p (a b c d : Int) (h1 : -1000000000000 ≤ a ∧ a ≤ 1000000000000) (h2 : -1000000000000 ≤ b ∧ b ≤ 1000000000000) (h3 : -1000000000000 ≤ c ∧ c ≤ 1000000000000) (h4 : -1000000000000 ≤ d ∧ d ≤ 1000000000000) : PC Tryz.prog 132 [.agg [.v (.int .i64 (a)), .v (.int .i64 (b))], .agg [.v (.int .i64 (c)), .v (.int .i64 (d))]] (.agg [.v (.int .i64 (a + c)), .v (.int .i64 (b + d))]) := by
 refine pc_of_awp Tryz.func132 rfl Tryz.ntmps132 (rs := [.cell 4 160]) Tryz.results132 (by simp) fun w0 => ?_
 refine awp_seq ?_
 refine xa 2 ?_
 refine rg_q (q_box rfl (by exact .inr ⟨_, rfl⟩)) ?_
 refine rg_q (q_box rfl (by exact .inr ⟨_, rfl⟩)) ?_
 refine rg_nil ?_
 refine aops_alloc zr160 rfl rfl rfl ?_
 refine aops_nil (xq (xa 11 ?_))
 refine rg_q (q_fieldAddr fld160_0 rfl) (rg_q (q_load sz3 rfl rfl) (rg_q (q_fieldAddr fld160_0 rfl) (rg_q (q_load sz3 rfl rfl) ?_)))
 refine rg_q (q_add rfl rfl xi) ?_
 refine rg_q (q_fieldAddr fld160_1 rfl) (rg_q (q_load sz3 rfl rfl) (rg_q (q_fieldAddr fld160_1 rfl) (rg_q (q_load sz3 rfl rfl) ?_)))
 refine rg_q (q_add rfl rfl xi) ?_
 refine rg_q (q_build (cs := [_, _]) pl160 zr160 rfl (.cons rfl (by exact .inl rfl) (.cons rfl (by exact .inl rfl) .nil)) ⟨⟨rfl, by decide⟩, ⟨rfl, by decide⟩, trivial⟩ rfl) ?_
 refine rg_nil ?_
 refine aops_store sz160 rfl rfl (by exact .inr ⟨_, rfl⟩) rfl rfl (by decide) rfl ?_
 refine aops_nil ?_
 change Awp _ _ _ _ _
 refine awp_ret ?_
 refine ⟨_, (.cons (.cellA rfl rfl sz160 rfl) .nil), ?_⟩
 rfl
theorem fsample_p (re im : Int) (h1 : -4094 ≤ re ∧ re ≤ 4094) (h2 : -4094 ≤ im ∧ im ≤ 4094) : PC Tryz.prog 104 [cx re im] (.agg [.v (.int .i64 (re)), .v (.int .i64 (im))]) := by
 refine pc_of_awp Tryz.func104 rfl Tryz.ntmps104 (rs := [.cell 2 160]) Tryz.results104 (by simp) fun w0 => ?_
 refine awp_seq ?_
 refine xa 0 ?_
 refine rg_nil ?_
 refine aops_alloc zr160 rfl rfl rfl ?_
 refine aops_nil (xq (xa 7 ?_))
 refine rg_q (q_m rfl) ?_
 refine rg_q (q_real rfl) ?_
 refine rg_q (q_convfi flt117 int3 rfl (f32_int (f32_of (by omega) (by omega)))) ?_
 refine rg_q (q_m rfl) ?_
 refine rg_q (q_imag rfl) ?_
 refine rg_q (q_convfi flt117 int3 rfl (f32_int (f32_of (by omega) (by omega)))) ?_
 refine rg_q (q_build (cs := [_, _]) pl160 zr160 rfl (.cons rfl (by exact .inl rfl) (.cons rfl (by exact .inl rfl) .nil)) ⟨⟨rfl, by decide⟩, ⟨rfl, by decide⟩, trivial⟩ rfl) ?_
 refine rg_nil ?_
 refine aops_store sz160 rfl rfl (by exact .inr ⟨_, rfl⟩) rfl rfl (by decide) rfl ?_
 refine aops_nil ?_
 change Awp _ _ _ _ _
 refine awp_ret ?_
 refine ⟨_, (.cons (.cellA rfl rfl sz160 rfl) .nil), ?_⟩
 rfl

def cz (re im : Int) : D := .v (.complex .f64 (FloatKind.f64.nearest re) (FloatKind.f64.nearest im))
theorem fnumber_p (re im : Int) : PC Tryz.prog 97 [.agg [.v (.int .i64 (re)), .v (.int .i64 (im))]] (cz re im) := by
 refine pc_of_awp Tryz.func97 rfl Tryz.ntmps97 (rs := [.tmp 2]) Tryz.results97 (by simp) fun w0 => ?_
 refine awp_seq ?_
 refine xa 2 ?_
 refine rg_q (q_box rfl (by exact .inr ⟨_, rfl⟩)) ?_
 refine rg_q (q_a rfl) ?_
 refine rs (xa 8 ?_)
 refine rg_q (q_fieldAddr fld160_0 rfl) (rg_q (q_load sz3 rfl rfl) ?_)
 refine rg_q (q_convf int3 flt167 rfl) ?_
 refine rg_q (q_fieldAddr fld160_1 rfl) (rg_q (q_load sz3 rfl rfl) ?_)
 refine rg_q (q_convf int3 flt167 rfl) ?_
 refine rg_q (q_complex rfl rfl) ?_
 refine rg_q (q_a rfl) ?_
 refine xc (awp_ret ?_)
 refine ⟨_, xk1, ?_⟩
 rfl
end Go.Proofs.YtamaocfjknpadaaGreat.Am.M
-- mini
set_option maxRecDepth 100000
namespace Go.Proofs.YtamaocfjknpadaaGreat.Am.M
open Go

def hasI (l : List Int) (n : Int) : Bool := l.any fun x => decide (n = x)
theorem reim_in {t : Tsk} (h : TskOk t) (y : Int × Int) (k : Nat) : (-4094 ≤ reI (smpS t y) k ∧ reI (smpS t y) k ≤ 4094) ∧ (-4094 ≤ imI (smpS t y) k ∧ imI (smpS t y) k ≤ 4094) := sq_bnd (vI_in (chK_wh h.wh _)) k
theorem anL_at {S : List Int} {k : Nat} (hk : k < 61) : (anL S)[k]? = some (cx (reI S k) (imI S k)) := by unfold anL; rw [List.getElem?_map, List.getElem?_range hk]; rfl
def vlF (t : Tsk) (c : Int) (dd : List Int) (s : (Int × Int) × Int) (y : Int × Int) : (Int × Int) × Int :=
  if (hasI dd y.1 || hasI dd y.2) = true then s
  else if inR 0 (smpI t.ar (spI t.g c) y) 60 = true then ((s.1.1 + reI (smpS t y) (smpI t.ar (spI t.g c) y).toNat, s.1.2 + imI (smpS t y) (smpI t.ar (spI t.g c) y).toNat), s.2 + 1)
  else s
def vlA (t : Tsk) (c : Int) (dd : List Int) (l : List (Int × Int)) : (Int × Int) × Int := l.foldl (vlF t c dd) ((0, 0), 0)
theorem vlA_snoc {t : Tsk} {c : Int} {dd : List Int} {l : List (Int × Int)} {k : Nat} {y : Int × Int} (h : l[k]? = some y) : vlA t c dd (l.take (k + 1)) = vlF t c dd (vlA t c dd (l.take k)) y := by
  obtain ⟨hlt, hx⟩ := List.getElem?_eq_some_iff.1 h
  unfold vlA
  rw [List.take_succ_eq_append_getElem hlt, hx, List.foldl_append]; rfl
theorem vlA_in {t : Tsk} (h : TskOk t) {c : Int} {dd : List Int} {l : List (Int × Int)} : ∀ k : Nat, k ≤ l.length → (-(4094 * (k : Int)) ≤ (vlA t c dd (l.take k)).1.1 ∧ (vlA t c dd (l.take k)).1.1 ≤ 4094 * (k : Int)) ∧ (-(4094 * (k : Int)) ≤ (vlA t c dd (l.take k)).1.2 ∧ (vlA t c dd (l.take k)).1.2 ≤ 4094 * (k : Int)) ∧ 0 ≤ (vlA t c dd (l.take k)).2 ∧ (vlA t c dd (l.take k)).2 ≤ (k : Int)
  | 0, _ => by
    have e : vlA t c dd (l.take 0) = ((0, 0), 0) := rfl
    rw [e]
    simp only; omega
  | k + 1, hk => by
    have ih := vlA_in h (c := c) (dd := dd) (l := l) k (by omega)
    have hy : l[k]? = some l[k] := List.getElem?_eq_getElem (by omega)
    have hb := reim_in h l[k] (smpI t.ar (spI t.g c) l[k]).toNat
    rw [vlA_snoc hy]
    unfold vlF
    split
    · omega
    · split
      · simp only; omega
      · omega
theorem value_p (t : Tsk) (c : Int) (fs dd : List Int) (h : TskOk t) (hc : clE t.g c = 0) (hf : ∀ x ∈ fs, 0 ≤ x ∧ x < t.ne) (hfl : fs.length ≤ 100) : PC Tryz.prog 95 [.pt (tkC t) 0, .v (.int .i64 (c)), .sl 1 (fs.map iC), .sl 1 (dd.map iC)] (.tup [.agg [.v (.int .i64 ((vlA t c dd (pqL fs t.ne.toNat)).1.1)), .v (.int .i64 ((vlA t c dd (pqL fs t.ne.toNat)).1.2))], .v (.int .i64 ((vlA t c dd (pqL fs t.ne.toNat)).2))]) := by
  have hn1 := h.n1
  have hn2 := h.n2
  have hlen : (pqL fs t.ne.toNat).length ≤ 1600 := by
    rw [pqL_len]
    have := Nat.mul_le_mul hfl (show t.ne.toNat ≤ 16 by omega)
    omega
  refine pc_of_awpN Tryz.func95 rfl Tryz.ntmps95 (rs := [.cell 8 160, .tmp 9]) Tryz.results95 (by simp) fun w0 hmine hrnd hpn => ?_
  refine awp_seq ?_
  refine xa 3 ?_
  refine rg_q (q_box rfl (by exact .inl rfl)) ?_
  refine rg_q (q_box rfl (by exact .inl rfl)) ?_
  refine rg_q (q_box rfl (by exact .inl rfl)) ?_
  refine rg_nil ?_
  refine aops_alloc zr160 rfl rfl rfl ?_
  refine aops_q rfl (q_a rfl) ?_
  refine aops_nil (xq (xa 0 ?_))
  refine rg_nil ?_
  refine aops_alloc zr160 rfl rfl rfl ?_
  refine aops_nil (xq (xa 0 ?_))
  refine rg_nil ?_
  refine aops_alloc zr3 rfl rfl rfl ?_
  refine aops_store sz3 rfl rfl (by exact .inl rfl) rfl rfl (by decide) rfl ?_
  refine aops_nil (xq (awp_seq ?_))
  refine xa 3 ?_
  refine rg_q (q_load sz156 rfl rfl) (rg_q (q_move (x := .d (.sl _ _)) rfl) ?_)
  refine rg_q (q_call en102 (.cons rfl (.cons rfl .nil)) rfl (fpairs_p t fs)) ?_
  refine xc (awp_block ?_)
  refine awp_rangeFC (α := Int × Int) (β := Nat) (n := 51) (enc := (encQ t)) (items := pqL fs t.ne.toNat) 1000 [(4, .d (.pt [.pt (tkC t) 0] 0)), (5, .d (.pt [.v (.int .i64 (c))] 0)), (7, .d (.pt [.sl 1 (dd.map iC)] 0)), (8, .ref 8 0), (10, .ref 10 0), (11, .ref 11 0), (18, .d (.fn (.func 171) [.pt [.sl 1 (fs.map iC)] 0, .pt [.pt (tkC t) 0] 0]))] (fun x => [(8, .box [.v (.int .i64 (0)), .v (.int .i64 (0))]), (10, .box [.v (.int .i64 ((vlA t c dd ((pqL fs t.ne.toNat).take x)).1.1)), .v (.int .i64 ((vlA t c dd ((pqL fs t.ne.toNat).take x)).1.2))]), (11, .box [.v (.int .i64 ((vlA t c dd ((pqL fs t.ne.toNat).take x)).2))])]) (fun k x => x = k) (fun e x => False) 0 hrnd ?_ (.inr ⟨rfl, rfl⟩) en171 (fpairs_i t fs h hf (by omega)) rfl (fun _ => rfl) rfl (fun x => fsl_mem (fsl_cons (fst_box (by repeat (first | exact trivial | refine ⟨.v _, ?_⟩))) (fsl_cons (fst_box (by repeat (first | exact trivial | refine ⟨.v _, ?_⟩))) (fsl_cons (fst_box (by repeat (first | exact trivial | refine ⟨.v _, ?_⟩))) fsl_nil)))) (fun _ => rfl) rfl (fun h => by cases h) ?_ ?_ ?_
  · exact le_cst (fun k => k) _ _ rfl ⟨rfl, rfl, rfl, rfl, rfl, rfl, rfl, trivial⟩ ⟨rfl, rfl, rfl, trivial⟩ rfl (fun k b h => by rw [hpn k] at h; cases h)
  ·
    intro w1 hw1 k x y hI hy
    subst hI
    have hmy := pqL_in (List.mem_of_getElem? hy)
    obtain ⟨hy0, hy3, hy4⟩ := hmy
    obtain ⟨hy1, hy2⟩ := hf _ hy0
    have hxl : x < (pqL fs t.ne.toNat).length := (List.getElem?_eq_some_iff.1 hy).1
    obtain ⟨⟨b1, b2⟩, ⟨b3, b4⟩, b5, b6⟩ := vlA_in h (c := c) (dd := dd) (l := pqL fs t.ne.toNat) x (by omega)
    obtain ⟨hre, him⟩ := reim_in h y (smpI t.ar (spI t.g c) y).toNat
    have hst := vlA_snoc (t := t) (c := c) (dd := dd) hy
    unfold vlF at hst
    refine awp_seq ?_
    refine xa 0 ?_
    refine rg_nil ?_
    refine aops_allocD zr63 rfl sz63 rfl rfl (by exact .inr ⟨_, rfl⟩) rfl rfl ?_
    refine aops_nil ?_
    change Awp _ _ _ _ _
    refine xa 1 ?_
    refine rg_q (q_assign (x := .d (.pt _ _)) rfl) ?_
    refine rn ?_
    refine ⟨rfl, fun w2 hw2 => ?_⟩
    refine awp_block ?_
    refine awp_seq ?_
    refine awp_seq ?_
    refine xa 10 ?_
    refine rg_q (q_load sz77 rfl rfl) ?_
    refine rg_q (q_indexAddr_ar ar63 rfl rfl (by omega) (by omega)) ?_
    refine rg_q (q_load sz3 rfl rfl) ?_
    refine rg_q (q_call en170 (.cons rfl (.cons rfl .nil)) rfl (contains5_p dd y.1)) ?_
    refine rg_q (q_m rfl) ?_
    refine rg_g rfl rfl (fun hG => (q_load sz77 rfl rfl)) ?_
    refine rg_g rfl rfl (fun hG => (q_indexAddr_ar ar63 rfl rfl (by (have hg0 := T.bool_inj (a := _) hG.1; (try simp only [nb, ne_eq] at hg0); omega)) (by (have hg0 := T.bool_inj (a := _) hG.1; (try simp only [nb, ne_eq] at hg0); omega)))) ?_
    refine rg_g rfl rfl (fun hG => (q_load sz3 rfl rfl)) ?_
    refine rg_g rfl rfl (fun hG => (q_call en170 (.cons rfl (.cons rfl .nil)) rfl (contains5_p dd y.2))) ?_
    refine rg_pick rfl rfl rfl rfl rfl rfl ?_
    refine xc (awp_cond rfl (fun hc6 => ?_) (fun hc6 => ?_))
    ·
      (try simp only [nb, ne_eq] at hc6)
      have hd : (hasI dd y.1 || hasI dd y.2) = true := by unfold hasI; simpa using hc6
      rw [if_pos hd] at hst
      refine awp_exit ?_
      refine .inl ⟨rfl, x + 1, rfl, ?_⟩
      exact le_round [] _ hw2 rfl ⟨(by rfl), (by (show Site.box _ = Site.box _; (rw [hst]; done))), (by (show Site.box _ = Site.box _; (rw [hst]; done))), trivial⟩ rfl
    ·
      (try simp only [nb, ne_eq] at hc6)
      have hd : ¬ (hasI dd y.1 || hasI dd y.2) = true := by
        intro q
        rw [Bool.or_eq_true] at q
        unfold hasI at q
        rcases q with q | q
        · rw [hc6.1] at q; cases q
        · rw [hc6.2] at q; cases q
      rw [if_neg hd] at hst
      refine awp_skip ?_
      change Awp _ _ _ _ _
      refine awp_seq ?_
      refine xa 9 ?_
      refine rg_q (q_load sz156 rfl rfl) (rg_q (q_load sz3 rfl rfl) ?_)
      refine rg_q (q_loadA (ds := [_, _]) sz63 rfl rfl rfl) ?_
      refine rg_q (q_call en109 (.cons rfl (.cons rfl (.cons rfl .nil))) rfl (number_p t c y h hc ⟨⟨hy1, hy2⟩, hy3, by omega⟩)) ?_
      refine rg_q (q_move (x := .d (.tup _)) rfl) (rg_q (q_extract rfl rfl) (rg_q (q_extract rfl rfl) (rg_q (q_a rfl) (rg_q (q_a rfl) ?_))))
      refine rs (xa 1 ?_)
      refine rg_q (q_m rfl) ?_
      refine xc (awp_cond rfl (fun hc8 => ?_) (fun hc8 => ?_))
      ·
        (try simp only [nb, ne_eq] at hc8)
        rw [if_pos hc8] at hst
        have hin := inR_iff.1 hc8
        refine awp_regionL 10 1 [8, 9] mixed (by kernel_rfl) ?_
        refine rg_q (q_load_refA (ds := [_, _]) sz160 rfl rfl rfl rfl) ?_
        refine rg_q (q_move (x := .d (.pt _ _)) rfl) (rg_q (q_m rfl) (rg_q (q_nilCheck rfl) ?_))
        refine rg_q (q_indexAddr_ar ar273 rfl rfl (by omega) (by omega)) ?_
        refine rg_q (q_load sz178 rfl (by rw [Nat.zero_add, Nat.mul_one]; exact anL_at (S := smpS t y) (by omega))) ?_
        refine rg_q (q_call en104 (.cons rfl .nil) rfl (fsample_p _ _ hre him)) ?_
        refine rg_q (q_call en132 (.cons rfl (.cons rfl .nil)) rfl (fplus_p _ _ _ _ (by omega) (by omega) (by omega) (by omega))) ?_
        refine rg_q (q_load_ref sz3 rfl rfl rfl) ?_
        refine rg_q (q_add rfl rfl xi) ?_
        refine rg_nil ?_
        refine late_set (c_store sz160 rfl rfl (by exact .inr ⟨_, rfl⟩) rfl rfl (by simp) rfl) ?_ ?_
        · refine fl_cons rfl rfl rfl (c_q (q_load_ref sz3 rfl rfl rfl)) ?_
          first | refine fl_cons rfl rfl rfl (c_q (q_add rfl rfl xi)) ?_
          exact fl_nil
        refine late_nil ?_
        refine aops_store sz3 rfl rfl (by exact .inl rfl) rfl rfl (by simp; done) rfl ?_
        refine aops_nil ?_
        refine .inl ⟨rfl, x + 1, rfl, ?_⟩
        exact le_round [] _ hw2 rfl ⟨(by rfl), (by (show Site.box _ = Site.box _; (rw [hst]; rfl))), (by (show Site.box _ = Site.box _; (rw [hst]; rfl))), trivial⟩ rfl
      ·
        (try simp only [nb, ne_eq] at hc8)
        rw [if_neg (by rw [hc8]; decide)] at hst
        refine awp_skip ?_
        refine .inl ⟨rfl, x + 1, rfl, ?_⟩
        exact le_round [] _ hw2 rfl ⟨(by rfl), (by (show Site.box _ = Site.box _; (rw [hst]; done))), (by (show Site.box _ = Site.box _; (rw [hst]; done))), trivial⟩ rfl
  ·
    intro x hI
    have hI2 : x = (pqL fs t.ne.toNat).length := hI
    subst hI2
    rw [List.take_length] at *
    change Awp _ _ _ _ _
    refine awp_seq ?_
    refine awp_regionM 4 [none, none, some 8, none] mixed (by kernel_rfl) ?_
    refine rgm_q rfl (q_load_refA (ds := [_, _]) sz160 rfl rfl rfl rfl) ?_
    refine rgm_q rfl (q_load_ref sz3 rfl rfl rfl) ?_
    refine rgm_m (k := 8) rfl rfl (by rfl) (m_store sz160 rfl rfl (by exact .inr ⟨_, rfl⟩) rfl rfl (by decide) rfl) ?_
    refine rgm_q rfl (q_a rfl) ?_
    refine rgm_nil (aops_nil ?_)
    change Awp _ _ _ _ _
    refine awp_ret ?_
    refine ⟨_, (.cons (.cellA rfl rfl sz160 rfl) xk1), ?_⟩
    rfl
  ·
    exact fun e x h => h.elim

def evL (t : Tsk) : List (Int × Int) := pqL (allL t.ne.toNat) t.ne.toNat
def vlI (t : Tsk) (c : Int) : (Int × Int) × Int := vlA t c [] (evL t)
theorem allL_ok {t : Tsk} (h : TskOk t) : (∀ x ∈ allL t.ne.toNat, 0 ≤ x ∧ x < t.ne) ∧ (allL t.ne.toNat).length ≤ 16 := by
  have h1 := h.n1
  have h2 := h.n2
  refine ⟨fun x hx => ?_, by rw [allL_len]; omega⟩
  have := allL_in hx
  omega
theorem valueAt_p (t : Tsk) (c : Int) (h : TskOk t) (hc : clE t.g c = 0) : PC Tryz.prog 23 [.agg (tskC t), .v (.int .i64 (c))] (.tup [cz (vlI t c).1.1 (vlI t c).1.2, .v (.int .i64 ((vlI t c).2)), .v (.int .i64 (0))]) := by
 have hn1 := h.n1
 have hn2 := h.n2
 obtain ⟨ha1, ha2⟩ := allL_ok h
 refine pc_of_awpN Tryz.func23 rfl Tryz.ntmps23 (rs := [.tmp 4, .tmp 5, .tmp 6]) Tryz.results23 (by simp) fun w0 hmine hrnd hpn => ?_
 refine awp_seq ?_
 refine xa 4 ?_
 refine rg_q (q_box rfl (by exact .inr ⟨_, rfl⟩)) ?_
 refine rg_q (q_a rfl) (rg_q (q_a rfl) (rg_q (q_a rfl) ?_))
 refine rs (xa 8 ?_)
 refine rg_q (q_loadA sz37 rfl rfl rfl) ?_
 refine rg_q (q_m rfl) ?_
 refine rg_q (q_call en94 (.cons rfl (.cons rfl .nil)) rfl ((by have h := openCell_p t c h; rw [hc] at h; exact h))) ?_
 refine rg_q (q_move (x := .d (.tup _)) rfl) (rg_q (q_extract rfl rfl) (rg_q (q_extract rfl rfl) (rg_q (q_assign (x := .d (.pt _ _)) rfl) (rg_q (q_a rfl) ?_))))
 refine rs (awp_seq ?_)
 refine xa 2 ?_
 refine rg_q (q_m rfl) (rg_q (q_neq rfl rfl) ?_)
 refine xc (awp_cond rfl (fun hc2 => ?_) (fun hc2 => ?_))
 ·
  simp at hc2
 ·
  (try simp only [nb, ne_eq] at hc2)
  refine awp_skip ?_
  change Awp _ _ _ _ _
  refine awp_seq ?_
  refine xa 8 ?_
  refine rg_q (q_move (x := .d (.pt _ _)) rfl) (rg_q (q_m rfl) (rg_q (q_move (x := .d (.pt _ _)) rfl) ?_))
  refine rg_q (q_call en96 (.cons rfl .nil) rfl (all_p t hn1 hn2)) ?_
  refine rg_q (q_call en95 (.cons rfl (.cons rfl (.cons rfl (.cons rfl .nil)))) rfl (value_p t c (allL t.ne.toNat) [] h hc ha1 (by omega))) ?_
  refine rg_q (q_move (x := .d (.tup _)) rfl) (rg_q (q_extract rfl rfl) (rg_q (q_extract rfl rfl) ?_))
  refine rg_nil ?_
  refine aops_allocD zr160 rfl sz160 rfl rfl (by exact .inr ⟨_, rfl⟩) rfl rfl ?_
  refine aops_q rfl (q_a rfl) ?_
  refine aops_nil (xq (xa 6 ?_))
  refine rg_q (q_loadA (ds := [_, _]) sz160 rfl rfl rfl) ?_
  refine rg_q (q_call en97 (.cons rfl .nil) rfl (fnumber_p _ _)) ?_
  refine rg_q (q_m rfl) (rg_q (q_a rfl) (rg_q (q_a rfl) (rg_q (q_a rfl) ?_)))
  refine xc (awp_ret ?_)
  refine ⟨_, xk3, ?_⟩
  rfl
end Go.Proofs.YtamaocfjknpadaaGreat.Am.M
-- mini
set_option maxRecDepth 100000
namespace Go.Proofs.YtamaocfjknpadaaGreat.Am.M
open Go

theorem mp215 : mpB Tryz.prog 215 4 = true := by kernel_rfl
def frR (n : Int) : List Int → List Int → Int × List Int
  | ks, [] => (0, ks)
  | ks, x :: l => if ¬ inR 0 x (n - 1) = true then (6, ks) else if x ∈ ks then (24, ks) else frR n (ks ++ [x]) l
theorem frR_at {n : Int} {ks l : List Int} {k : Nat} {x : Int} (h : l[k]? = some x) : frR n ks (l.drop k) = if ¬ inR 0 x (n - 1) = true then (6, ks) else if x ∈ ks then (24, ks) else frR n (ks ++ [x]) (l.drop (k + 1)) := by
  obtain ⟨hlt, rfl⟩ := List.getElem?_eq_some_iff.1 h
  rw [List.drop_eq_getElem_cons hlt]; rfl
def lC (l : List Int) : List D := [.sl 1 (l.map iC)]
def dlT (n : Int) : List Int → Int → List (List Int) → Int × (List Int × Int)
  | ks, b, [] => (0, (ks, b))
  | ks, b, l :: dl => if (frR n ks l).1 ≠ 0 then ((frR n ks l).1, (ks, b)) else dlT n (frR n ks l).2 (if 0 < l.length then b + 1 else b) dl
theorem dlT_at {n : Int} {ks : List Int} {b : Int} {dl : List (List Int)} {k : Nat} {l : List Int} (h : dl[k]? = some l) : dlT n ks b (dl.drop k) = if (frR n ks l).1 ≠ 0 then ((frR n ks l).1, (ks, b)) else dlT n (frR n ks l).2 (if 0 < l.length then b + 1 else b) (dl.drop (k + 1)) := by
  obtain ⟨hlt, rfl⟩ := List.getElem?_eq_some_iff.1 h
  rw [List.drop_eq_getElem_cons hlt]; rfl
def dealR (n : Int) (dl : List (List Int)) : Int × Int :=
  if ¬ inR 1 n 16 = true then (0, 2) else if 16 < dl.length then (0, 8)
  else if (dlT n [] 0 dl).1 ≠ 0 then (0, (dlT n [] 0 dl).1) else if ((dlT n [] 0 dl).2.1.length : Int) < n then (0, 14) else ((dlT n [] 0 dl).2.2, 0)
theorem firingsErr_p (n : Int) (l ks : List Int) (h1 : -1000000 ≤ n) (h2 : n ≤ 1000000) : PCS Tryz.prog 133 [.d (.v (.int .i64 (n))), .d (.sl 1 (l.map iC)), .mp 0] [.mp (mpE ks) ks.length] (.d (.v (.int .i64 ((frR n ks l).1)))) [.mp (mpE (frR n ks l).2) (frR n ks l).2.length] := by
 refine pcs_of_awp Tryz.func133 rfl Tryz.ntmps133 (rs := [.tmp 6]) Tryz.results133 (by simp) fun w0 => ?_
 refine awp_seq ?_
 refine xa 1 ?_
 refine rg_q (q_a rfl) ?_
 refine rs (awp_seq ?_)
 refine xa 3 ?_
 refine rg_q (q_move (x := .d (.sl _ _)) rfl) ?_
 refine rg_q (q_len isl77 rfl (by exact len_map _ _)) ?_
 refine rg_q (q_m rfl) ?_
 refine xc (awp_len (t := 9) rfl (fun hl9 => ?_))
 (try simp only [List.length_map] at hl9)
 refine awp_block ?_
 refine awp_loopH [6, 8, 11, 12, 13, 14, 15, 16, 17, 18, 19, 20, 21, 22, 23, 24, 25, 26, 27] [28] (α := Nat) (fun k => [(11, T.i (k : Int))]) (fun k => [(28, .mp (mpE (ks ++ l.take k)) (ks ++ l.take k).length)]) (fun k => k ≤ l.length ∧ frR n ks l = frR n (ks ++ l.take k) (l.drop k)) (fun k => l.length - k) 0 ⟨Nat.zero_le _, by simp⟩ ?_ ?_
 · exact xh (ms := [28]) (by repeat (exact Out.refl _)) ⟨(by rfl), trivial⟩ ⟨(by ((show Site.mp _ _ = Site.mp _ _; (simp; done)))), trivial⟩
 ·
  intro k ⟨hk, hh⟩
  refine awp_seq ?_
  refine xa 1 ?_
  refine rg_q (q_lss rfl rfl) ?_
  refine rs (awp_cond rfl (fun hc2 => ?_) (fun hc2 => ?_))
  ·
   (try simp only [nb, ne_eq] at hc2)
   have hlt : k < l.length := by omega
   obtain ⟨x, hx⟩ : ∃ x, l[k]? = some x := ⟨_, List.getElem?_eq_getElem hlt⟩
   rw [frR_at hx] at hh
   have hsn : ks ++ l.take (k + 1) = ks ++ l.take k ++ [x] := by rw [List.take_succ_eq_append_getElem hlt, (List.getElem?_eq_some_iff.1 hx).2, List.append_assoc]
   refine awp_skip ?_
   change Awp _ _ _ _ _
   refine awp_seq ?_
   refine awp_block ?_
   refine awp_seq ?_
   refine xa 3 ?_
   refine rg_q (q_indexAddr sl77 rfl rfl (by omega) (map_at (by omega) hx)) ?_
   refine rg_q (q_load sz3 rfl rfl) (rg_q (q_a rfl) ?_)
   refine rs (awp_block ?_)
   refine awp_seq ?_
   refine xa 6 ?_
   refine rg_q (q_m rfl) (rg_q (q_m rfl) ?_)
   refine rg_q (q_sub rfl rfl xi) ?_
   refine rg_q (q_call en89 (.cons rfl (.cons rfl (.cons rfl .nil))) rfl (fwithin_p _ _ _)) ?_
   refine rg_q (q_not rfl) (rg_q (q_a rfl) ?_)
   refine xc (awp_cond rfl (fun hc4 => ?_) (fun hc4 => ?_))
   ·
    (try simp only [nb, ne_eq] at hc4)
    have hz : frR n ks l = (6, ks ++ l.take k) := by rw [hh, if_pos (by rw [hc4]; decide)]
    refine awp_seq ?_
    refine xa 1 ?_
    refine rg_q (q_a rfl) ?_
    refine xc (awp_ret ?_)
    rw [hz]
    exact end_mk (.inl rfl) [28] (.tmp rfl) (by repeat (first | exact trivial | refine ⟨(by rfl), ?_⟩)) rfl
   ·
    (try simp only [nb, ne_eq] at hc4)
    rw [if_neg (fun q => q hc4)] at hh
    refine awp_seq ?_
    refine xa 4 ?_
    refine rg_q (q_move (x := .own _ _ _ _) rfl) (rg_q (q_m rfl) ?_)
    refine rg_q (q_lookmap mp215 zr4 rfl rfl rfl) ?_
    refine rg_q (q_a rfl) ?_
    refine xc (awp_cond rfl (fun hc6 => ?_) (fun hc6 => ?_))
    ·
     (try simp only [nb, ne_eq] at hc6)
     have hz : frR n ks l = (24, ks ++ l.take k) := by rw [hh, if_pos hc6]
     refine awp_seq ?_
     refine xa 1 ?_
     refine rg_q (q_a rfl) ?_
     refine xc (awp_ret ?_)
     rw [hz]
     exact end_mk (.inl rfl) [28] (.tmp rfl) (by repeat (first | exact trivial | refine ⟨(by rfl), ?_⟩)) rfl
    ·
     (try simp only [nb, ne_eq] at hc6)
     rw [if_neg hc6] at hh
     refine awp_skip ?_
     change Awp _ _ _ _ _
     refine xa 2 ?_
     refine rg_q (q_move (x := .own _ _ _ _) rfl) (rg_q (q_m rfl) ?_)
     refine rg_nil ?_
     refine aops_mapUpdate mp215 rfl rfl rfl rfl hc6 ?_
     refine aops_nil ?_
     change Awp _ _ _ _ _
     refine xa 2 ?_
     refine rg_q (q_add rfl rfl xi) ?_
     refine rg_q (q_m rfl) ?_
     refine rn ?_
     refine ⟨k + 1, ⟨by omega, by rw [hh, hsn]⟩, by omega, ?_⟩
     exact xh (ms := [28]) (by repeat (first | exact Out.head rfl rfl | (refine Out.put ?_ rfl) | (refine Out.site ?_ rfl))) ⟨(by rfl), trivial⟩ ⟨(by ((show Site.mp _ _ = Site.mp _ _; (rw [hsn]; done)))), trivial⟩
  ·
   (try simp only [nb, ne_eq] at hc2)
   have hkn : k = l.length := by omega
   have hz : frR n ks l = (0, ks ++ l.take k) := by rw [hh, hkn, List.drop_length]; rfl
   refine awp_exit ?_
   change Awp _ _ _ _ _
   refine awp_seq ?_
   refine xa 1 ?_
   refine rg_q (q_a rfl) ?_
   refine xc (awp_ret ?_)
   rw [hz]
   exact end_mk (.inl rfl) [28] (.tmp rfl) (by repeat (first | exact trivial | refine ⟨(by rfl), ?_⟩)) rfl
theorem checkDeal_p (n : Int) (dl : List (List Int)) : PC Tryz.prog 84 [.v (.int .i64 (n)), .sl 1 (dl.map lC)] (.tup [.v (.int .i64 ((dealR n dl).1)), .v (.int .i64 ((dealR n dl).2))]) := by
 refine pc_of_awpN Tryz.func84 rfl Tryz.ntmps84 (rs := [.tmp 4, .tmp 5]) Tryz.results84 (by simp) fun w0 hmine hrnd hpn => ?_
 refine awp_seq ?_
 refine xa 2 ?_
 refine rg_q (q_a rfl) (rg_q (q_a rfl) ?_)
 refine rs (awp_block ?_)
 refine awp_seq ?_
 refine xa 4 ?_
 refine rg_q (q_m rfl) ?_
 refine rg_q (q_call en89 (.cons rfl (.cons rfl (.cons rfl .nil))) rfl (fwithin_p _ _ _)) ?_
 refine rg_q (q_not rfl) (rg_q (q_a rfl) ?_)
 refine xc (awp_cond rfl (fun hc1 => ?_) (fun hc1 => ?_))
 ·
  (try simp only [nb, ne_eq] at hc1)
  have hz : dealR n dl = (0, 2) := by unfold dealR; rw [if_pos (by rw [hc1]; decide)]
  refine awp_seq ?_
  refine xa 2 ?_
  refine rg_q (q_a rfl) (rg_q (q_a rfl) ?_)
  refine xc (awp_ret ?_)
  refine ⟨_, xk2, ?_⟩
  rw [hz]; rfl
 ·
  (try simp only [nb, ne_eq] at hc1)
  have hn : 1 ≤ n ∧ n ≤ 16 := inR_iff.1 hc1
  refine awp_seq ?_
  refine xa 4 ?_
  refine rg_q (q_move (x := .d (.sl _ _)) rfl) ?_
  refine rg_q (q_len isl120 rfl (by exact len_map _ _)) ?_
  refine rg_q (q_gtr rfl rfl) (rg_q (q_a rfl) ?_)
  refine xc (awp_len (t := 16) rfl (fun hl16 => ?_))
  (try simp only [List.length_map] at hl16)
  refine awp_cond rfl (fun hc3 => ?_) (fun hc3 => ?_)
  ·
   (try simp only [nb, ne_eq] at hc3)
   have hz : dealR n dl = (0, 8) := by unfold dealR; rw [if_neg (fun q => q hc1), if_pos (by omega)]
   refine awp_seq ?_
   refine xa 2 ?_
   refine rg_q (q_a rfl) (rg_q (q_a rfl) ?_)
   refine xc (awp_ret ?_)
   refine ⟨_, xk2, ?_⟩
   rw [hz]; rfl
  ·
   (try simp only [nb, ne_eq] at hc3)
   have hz0 : dealR n dl = if (dlT n [] 0 dl).1 ≠ 0 then (0, (dlT n [] 0 dl).1) else if ((dlT n [] 0 dl).2.1.length : Int) < n then (0, 14) else ((dlT n [] 0 dl).2.2, 0) := by unfold dealR; rw [if_neg (fun q => q hc1), if_neg (by omega)]
   refine awp_skip ?_
   change Awp _ _ _ _ _
   refine awp_seq ?_
   refine xa 0 ?_
   refine rg_nil ?_
   refine aops_makeMap rfl rfl ?_
   refine aops_q rfl (q_assign (x := .own _ _ _ _) rfl) ?_
   refine aops_nil (xq (xa 1 ?_))
   refine rg_q (q_a rfl) ?_
   refine rs (awp_seq ?_)
   refine xa 3 ?_
   refine rg_q (q_move (x := .d (.sl _ _)) rfl) ?_
   refine rg_q (q_len isl120 rfl (by exact len_map _ _)) ?_
   refine rg_q (q_m rfl) ?_
   refine xc (awp_len (t := 20) rfl (fun hl20 => ?_))
   (try simp only [List.length_map] at hl20)
   refine awp_block ?_
   refine awp_loopH [4, 5, 7, 9, 10, 22, 23, 24, 25, 26, 27, 28, 29, 30, 31, 32, 33, 34, 35, 36, 37, 38] [19] (α := Nat × List Int × Int) (fun x => [(22, T.i (x.1 : Int)), (7, .d (.v (.int .i64 (x.2.2))))]) (fun x => [(19, .mp (mpE x.2.1) x.2.1.length)]) (fun x => x.1 ≤ dl.length ∧ dlT n [] 0 dl = dlT n x.2.1 x.2.2 (dl.drop x.1) ∧ 0 ≤ x.2.2 ∧ x.2.2 ≤ (x.1 : Int)) (fun x => dl.length - x.1) (0, [], 0) ⟨Nat.zero_le _, rfl, by decide, by decide⟩ ?_ ?_
   · exact xh (ms := [19]) (by repeat (exact Out.refl _)) ⟨(by rfl), (by rfl), trivial⟩ ⟨(by rfl), trivial⟩
   ·
    intro x ⟨hk, hh, hb1, hb2⟩
    refine awp_seq ?_
    refine xa 1 ?_
    refine rg_q (q_lss rfl rfl) ?_
    refine rs (awp_cond rfl (fun hc8 => ?_) (fun hc8 => ?_))
    ·
     (try simp only [nb, ne_eq] at hc8)
     have hlt : x.1 < dl.length := by omega
     obtain ⟨l, hx⟩ : ∃ l, dl[x.1]? = some l := ⟨_, List.getElem?_eq_getElem hlt⟩
     rw [dlT_at hx] at hh
     refine awp_skip ?_
     change Awp _ _ _ _ _
     refine awp_seq ?_
     refine awp_block ?_
     refine awp_seq ?_
     refine xa 3 ?_
     refine rg_q (q_indexAddr sl120 rfl rfl (by omega) (map_at (by omega) hx)) ?_
     refine rg_q (q_load sz77 rfl rfl) (rg_q (q_assign (x := .d (.sl _ _)) rfl) ?_)
     refine rs (awp_seq ?_)
     refine xa 3 ?_
     refine rg_q (q_m rfl) (rg_q (q_move (x := .d (.sl _ _)) rfl) (rg_q (q_move (x := .own _ _ _ _) rfl) ?_))
     refine rg_nil ?_
     refine aops_callL [19] [] en133 (firingsErr_p n l x.2.1 (by omega) (by omega)) (.cons rfl (.cons rfl (.cons rfl .nil))) rfl rfl rfl (by repeat (first | exact trivial | refine ⟨rfl, ?_⟩)) (by repeat (exact trivial)) rfl ?_
     refine aops_q rfl (q_a rfl) ?_
     refine aops_nil (xq (xa 2 ?_))
     refine rg_q (q_m rfl) (rg_q (q_neq rfl rfl) ?_)
     refine xc (awp_cond rfl (fun hc11 => ?_) (fun hc11 => ?_))
     ·
      (try simp only [nb, ne_eq] at hc11)
      have hz : dealR n dl = (0, (frR n x.2.1 l).1) := by rw [hz0, hh, if_pos hc11, if_pos hc11]
      refine awp_seq ?_
      refine xa 3 ?_
      refine rg_q (q_m rfl) (rg_q (q_a rfl) (rg_q (q_a rfl) ?_))
      refine xc (awp_ret ?_)
      refine ⟨_, xk2, ?_⟩
      rw [hz]; rfl
     ·
      (try simp only [nb, ne_eq] at hc11)
      rw [if_neg (fun q => q hc11)] at hh
      refine awp_skip ?_
      change Awp _ _ _ _ _
      refine awp_seq ?_
      refine xa 3 ?_
      refine rg_q (q_move (x := .d (.sl _ _)) rfl) ?_
      refine rg_q (q_len isl77 rfl (by exact len_map _ _)) ?_
      refine rg_q (q_gtr rfl rfl) ?_
      refine xc (awp_len (t := 33) rfl (fun hl33 => ?_))
      (try simp only [List.length_map] at hl33)
      refine awp_cond rfl (fun hc13 => ?_) (fun hc13 => ?_)
      ·
       (try simp only [nb, ne_eq] at hc13)
       rw [if_pos (by omega)] at hh
       refine xa 3 ?_
       refine rg_q (q_m rfl) ?_
       refine rg_q (q_add rfl rfl xi) ?_
       refine rg_q (q_a rfl) ?_
       refine rn ?_
       change Awp _ _ _ _ _
       refine xa 2 ?_
       refine rg_q (q_add rfl rfl xi) ?_
       refine rg_q (q_m rfl) ?_
       refine rn ?_
       refine ⟨(x.1 + 1, (frR n x.2.1 l).2, x.2.2 + 1), ⟨by show x.1 + 1 ≤ _; omega, hh, by show 0 ≤ x.2.2 + 1; omega, by show x.2.2 + 1 ≤ ((x.1 + 1 : Nat) : Int); omega⟩, by show dl.length - (x.1 + 1) < _; omega, ?_⟩
       exact xh (ms := [19]) (by repeat (first | exact Out.head rfl rfl | (refine Out.put ?_ rfl) | (refine Out.called ?_ rfl rfl))) ⟨(by rfl), (by rfl), trivial⟩ ⟨(by rfl), trivial⟩
      ·
       (try simp only [nb, ne_eq] at hc13)
       rw [if_neg (by omega)] at hh
       refine awp_skip ?_
       change Awp _ _ _ _ _
       refine xa 2 ?_
       refine rg_q (q_add rfl rfl xi) ?_
       refine rg_q (q_m rfl) ?_
       refine rn ?_
       refine ⟨(x.1 + 1, (frR n x.2.1 l).2, x.2.2), ⟨by show x.1 + 1 ≤ _; omega, hh, by show 0 ≤ x.2.2; omega, by show x.2.2 ≤ ((x.1 + 1 : Nat) : Int); omega⟩, by show dl.length - (x.1 + 1) < _; omega, ?_⟩
       exact xh (ms := [19]) (by repeat (first | exact Out.head rfl rfl | (refine Out.put ?_ rfl) | (refine Out.called ?_ rfl rfl))) ⟨(by rfl), (by rfl), trivial⟩ ⟨(by rfl), trivial⟩
    ·
     (try simp only [nb, ne_eq] at hc8)
     have hkn : x.1 = dl.length := by omega
     rw [hkn, List.drop_length, show dlT n x.2.1 x.2.2 [] = (0, (x.2.1, x.2.2)) from rfl] at hh
     rw [hh, if_neg (show ¬ ((0 : Int), (x.2.1, x.2.2)).1 ≠ 0 from fun q => q rfl)] at hz0
     refine awp_exit ?_
     change Awp _ _ _ _ _
     refine awp_seq ?_
     refine awp_seq ?_
     refine xa 4 ?_
     refine rg_q (q_move (x := .own _ _ _ _) rfl) ?_
     refine rg_q (q_lenmap mp215 rfl rfl rfl) ?_
     refine rg_q (q_m rfl) (rg_q (q_lss rfl rfl) ?_)
     refine xc (awp_cond rfl (fun hc16 => ?_) (fun hc16 => ?_))
     ·
      (try simp only [nb, ne_eq] at hc16)
      have hz : dealR n dl = (0, 14) := by rw [hz0, if_pos (show (((0 : Int), (x.2.1, x.2.2)).2.1.length : Int) < n from hc16)]
      refine awp_seq ?_
      refine xa 2 ?_
      refine rg_q (q_a rfl) (rg_q (q_a rfl) ?_)
      refine xc (awp_ret ?_)
      refine ⟨_, xk2, ?_⟩
      rw [hz]; rfl
     ·
      (try simp only [nb, ne_eq] at hc16)
      have hz : dealR n dl = (x.2.2, 0) := by rw [hz0, if_neg (show ¬ (((0 : Int), (x.2.1, x.2.2)).2.1.length : Int) < n from by show ¬ (x.2.1.length : Int) < n; omega)]
      refine awp_skip ?_
      change Awp _ _ _ _ _
      refine awp_seq ?_
      refine xa 3 ?_
      refine rg_q (q_m rfl) (rg_q (q_a rfl) (rg_q (q_a rfl) ?_))
      refine xc (awp_ret ?_)
      refine ⟨_, xk2, ?_⟩
      rw [hz]; rfl
end Go.Proofs.YtamaocfjknpadaaGreat.Am.M
-- mini
set_option maxRecDepth 100000
namespace Go.Proofs.YtamaocfjknpadaaGreat.Am.M
open Go

def pwB (n : Int) : Bool := !inR 0 n 1000000000000000
def fdC (g : Grd) (pw : List Int) : List D := grdC g ++ [.sl 1 (pw.map iC)]
def ofE (g : Grd) (pw : List Int) : Int := if ckG g ≠ 0 then ckG g else if (pw.length : Int) ≠ g.co * g.ro then 10 else whenI (pw.any pwB) 2
def z6 : List D := [.v (.int .i64 0), .v (.int .i64 0), .v (.int .i64 0), .v (.int .i64 0), .v (.int .i64 0), .v (.slice none 0 0)]
def ofD (g : Grd) (pw : List Int) : List D := if ckG g ≠ 0 then z6 else if (pw.length : Int) ≠ g.co * g.ro then z6 else fdC g pw
theorem openField1_p (n : Int) : PC Tryz.prog 182 [.v (.int .i64 (n))] (.v (.bool (pwB n))) := by
 refine pc_of_awp Tryz.func182 rfl Tryz.ntmps182 (rs := [.tmp 2]) Tryz.results182 (by simp) fun w0 => ?_
 refine awp_seq ?_
 refine xa 1 ?_
 refine rg_q (q_a rfl) ?_
 refine rs (xa 4 ?_)
 refine rg_q (q_m rfl) ?_
 refine rg_q (q_call en89 (.cons rfl (.cons rfl (.cons rfl .nil))) rfl (fwithin_p _ _ _)) ?_
 refine rg_q (q_not rfl) (rg_q (q_a rfl) ?_)
 refine xc (awp_ret ?_)
 refine ⟨_, xk1, ?_⟩
 rfl
theorem openField_p (g : Grd) (pw : List Int) : PC Tryz.prog 116 [.agg (grdC g), .sl 1 (pw.map iC)] (.tup [.agg (ofD g pw), .v (.int .i64 (ofE g pw))]) := by
 refine pc_of_awpN Tryz.func116 rfl Tryz.ntmps116 (rs := [.cell 4 193, .tmp 5]) Tryz.results116 (by simp) fun w0 hmine hrnd hpn => ?_
 refine awp_seq ?_
 refine xa 1 ?_
 refine rg_q (q_box rfl (by exact .inr ⟨_, rfl⟩)) ?_
 refine rg_nil ?_
 refine aops_alloc zr193 rfl rfl rfl ?_
 refine aops_q rfl (q_a rfl) ?_
 refine aops_nil (xq (awp_seq ?_))
 refine xa 3 ?_
 refine rg_q (q_loadA (ds := [_, _, _, _, _]) sz35 rfl rfl rfl) ?_
 refine rg_q (q_call en87 (.cons rfl .nil) rfl (fcheckGrid_p _)) ?_
 refine rg_q (q_a rfl) ?_
 refine rs (xa 2 ?_)
 refine rg_q (q_m rfl) (rg_q (q_neq rfl rfl) ?_)
 refine xc (awp_cond rfl (fun hc2 => ?_) (fun hc2 => ?_))
 ·
  (try simp only [nb, ne_eq] at hc2)
  have hz1 : ofE g pw = ckG g := by unfold ofE; rw [if_pos hc2]
  have hz2 : ofD g pw = z6 := by unfold ofD; rw [if_pos hc2]
  refine awp_seq ?_
  refine xa 2 ?_
  refine rg_q (q_build (cs := [_, _, _, _, _, _]) pl193 zr193 rfl .nil trivial rfl) ?_
  refine rg_q (q_m rfl) ?_
  refine rg_nil ?_
  refine aops_store sz193 rfl rfl (by exact .inr ⟨_, rfl⟩) rfl rfl (by decide) rfl ?_
  refine aops_q rfl (q_a rfl) ?_
  refine aops_nil ?_
  change Awp _ _ _ _ _
  refine awp_ret ?_
  refine ⟨_, (.cons (.cellA rfl rfl sz193 rfl) xk1), ?_⟩
  rw [hz1, hz2]; rfl
 ·
  (try simp only [nb, ne_eq] at hc2)
  have hg0 : ckG g = 0 := hc2
  obtain ⟨hg, _, _⟩ := ckG_ok hg0
  have hci := cells_in hg
  refine awp_skip ?_
  change Awp _ _ _ _ _
  refine awp_seq ?_
  refine xa 4 ?_
  refine rg_q (q_loadA (ds := [_, _, _, _, _]) sz35 rfl rfl rfl) ?_
  refine rg_q (q_build (cs := [_, _, _, _, _]) pl150 zr150 rfl (.cons rfl (by exact .inr ⟨_, rfl⟩) .nil) ⟨⟨rfl, by decide⟩, trivial⟩ rfl) ?_
  refine rg_q (q_move (x := .d (.sl _ _)) rfl) ?_
  refine rg_q (q_build (cs := [_, _, _, _, _, _]) pl193 zr193 rfl (.cons rfl (by exact .inr ⟨_, rfl⟩) (.cons rfl (by exact .inl rfl) .nil)) ⟨⟨rfl, by decide⟩, ⟨rfl, by decide⟩, trivial⟩ rfl) ?_
  refine rg_nil ?_
  refine aops_allocD zr193 rfl sz193 rfl rfl (by exact .inr ⟨_, rfl⟩) rfl rfl ?_
  refine aops_nil (xq (awp_seq ?_))
  refine xa 6 ?_
  refine rg_q (q_move (x := .d (.sl _ _)) rfl) ?_
  refine rg_q (q_len isl77 rfl (by exact len_map _ _)) ?_
  refine rg_q (q_fieldAddr fld193_0 rfl) ?_
  refine rg_q (q_loadA (ds := [_, _, _, _, _]) sz150 rfl rfl rfl) ?_
  refine rg_q (q_call en91 (.cons rfl .nil) rfl (fcells_p _ (by assumption))) ?_
  refine rg_q (q_neq rfl rfl) ?_
  refine xc (awp_len (t := 18) rfl (fun hl18 => ?_))
  (try simp only [List.length_map] at hl18)
  refine awp_cond rfl (fun hc5 => ?_) (fun hc5 => ?_)
  ·
   (try simp only [nb, ne_eq] at hc5)
   have hz1 : ofE g pw = 10 := by unfold ofE; rw [if_neg (fun q => q hg0), if_pos (by simpa using hc5)]
   have hz2 : ofD g pw = z6 := by unfold ofD; rw [if_neg (fun q => q hg0), if_pos (by simpa using hc5)]
   refine awp_seq ?_
   refine xa 1 ?_
   refine rg_q (q_build (cs := [_, _, _, _, _, _]) pl193 zr193 rfl .nil trivial rfl) ?_
   refine rg_nil ?_
   refine aops_store sz193 rfl rfl (by exact .inr ⟨_, rfl⟩) rfl rfl (by decide) rfl ?_
   refine aops_q rfl (q_a rfl) ?_
   refine aops_nil ?_
   change Awp _ _ _ _ _
   refine awp_ret ?_
   refine ⟨_, (.cons (.cellA rfl rfl sz193 rfl) xk1), ?_⟩
   rw [hz1, hz2]; rfl
  ·
   (try simp only [nb, ne_eq] at hc5)
   have hz1 : ofE g pw = whenI (pw.any pwB) 2 := by unfold ofE; rw [if_neg (fun q => q hg0), if_neg (by simpa using hc5)]
   have hz2 : ofD g pw = fdC g pw := by unfold ofD; rw [if_neg (fun q => q hg0), if_neg (by simpa using hc5)]
   refine awp_skip ?_
   change Awp _ _ _ _ _
   refine awp_seq ?_
   refine awp_regionM 6 [none, none, none, none, some 4, none] mixed (by kernel_rfl) ?_
   refine rgm_q rfl (q_loadA (ds := [_, _, _, _, _, _]) sz193 rfl rfl rfl) ?_
   refine rgm_q rfl (q_move (x := .d (.sl _ _)) rfl) ?_
   refine rgm_q rfl (q_call en181 (.cons rfl (.cons rfl .nil)) rfl (containsInt_p pwB 182 [] en182 pw (fun a _ => openField1_p a))) ?_
   refine rgm_q rfl (q_call en88 (.cons rfl (.cons rfl .nil)) rfl (fwhen_p _ _)) ?_
   refine rgm_m (k := 4) rfl rfl (by rfl) (m_store sz193 rfl rfl (by exact .inr ⟨_, rfl⟩) rfl rfl (by decide) rfl) ?_
   refine rgm_q rfl (q_a rfl) ?_
   refine rgm_nil (aops_nil ?_)
   change Awp _ _ _ _ _
   refine awp_ret ?_
   refine ⟨_, (.cons (.cellA rfl rfl sz193 rfl) xk1), ?_⟩
   rw [hz1, hz2]; rfl

structure FldOk (g : Grd) (pw : List Int) : Prop where
  gr : GrdOk g
  len : (pw.length : Int) = g.co * g.ro
  pw : ∀ p ∈ pw, 0 ≤ p ∧ p ≤ 1000000000000000
theorem of_ok {g : Grd} {pw : List Int} (h : ofE g pw = 0) : FldOk g pw ∧ ofD g pw = fdC g pw := by
  unfold ofE at h
  by_cases h1 : ckG g ≠ 0
  · rw [if_pos h1] at h; exact absurd h h1
  rw [if_neg h1] at h
  by_cases h2 : (pw.length : Int) ≠ g.co * g.ro
  · rw [if_pos h2] at h; cases h
  rw [if_neg h2, when_zero (by decide)] at h
  refine ⟨⟨(ckG_ok (Decidable.not_not.1 h1)).1, Decidable.not_not.1 h2, fun p hp => ?_⟩, ?_⟩
  · have := List.any_eq_false.1 h p hp
    unfold pwB at this
    simp [inR] at this
    omega
  · unfold ofD
    rw [if_neg h1, if_neg h2]
theorem around_p (g : Grd) (pw : List Int) (c : Int) : PC Tryz.prog 233 [.agg (fdC g pw), .v (.int .i64 (c))] (.fn (.func 266) [.pt [.v (.int .i64 (c))] 0, .pt (fdC g pw) 0]) := by
 refine pc_of_awp Tryz.func233 rfl Tryz.ntmps233 (rs := [.tmp 4]) Tryz.results233 (by simp) fun w0 => ?_
 refine awp_seq ?_
 refine xa 3 ?_
 refine rg_q (q_box rfl (by exact .inr ⟨_, rfl⟩)) ?_
 refine rg_q (q_box rfl (by exact .inl rfl)) ?_
 refine rg_q (q_assign (x := .d (.v .nilFunc)) rfl) ?_
 refine rs (xa 2 ?_)
 refine rg_q (q_makeFunc (.cons rfl (.cons rfl .nil))) ?_
 refine rg_q (q_assign (x := .d (.fn _ _)) rfl) ?_
 refine xc (awp_ret ?_)
 refine ⟨_, xk1, ?_⟩
 rfl

def arR (g : Grd) (c r : Int) (j : Nat) : List Int := ((List.range j).map fun q : Nat => r * g.co + (max 0 (c.tmod g.co - 1) + (q : Int))).filter fun n => decide (n ≠ c)
def arN (g : Grd) (c : Int) : Nat := (min (g.co - 1) (c.tmod g.co + 1) - max 0 (c.tmod g.co - 1) + 1).toNat
def arM (g : Grd) (c : Int) : Nat := (min (g.ro - 1) (c.tdiv g.co + 1) - max 0 (c.tdiv g.co - 1) + 1).toNat
def arF (g : Grd) (c : Int) (i : Nat) : List Int := (List.range i).flatMap fun p : Nat => arR g c (max 0 (c.tdiv g.co - 1) + (p : Int)) (arN g c)
theorem arR_succ {g : Grd} {c r : Int} {j : Nat} : arR g c r (j + 1) = arR g c r j ++ (if decide (r * g.co + (max 0 (c.tmod g.co - 1) + (j : Int)) ≠ c) = true then [r * g.co + (max 0 (c.tmod g.co - 1) + (j : Int))] else []) := by
  unfold arR
  rw [List.range_succ, List.map_append, List.filter_append]
  congr 1
  by_cases h : decide (r * g.co + (max 0 (c.tmod g.co - 1) + (j : Int)) ≠ c) = true
  · rw [if_pos h, List.map_singleton]; simp at h; simp [h]
  · rw [if_neg h, List.map_singleton]; simp at h; simp [h]
theorem arF_succ {g : Grd} {c : Int} {i : Nat} : arF g c (i + 1) = arF g c i ++ arR g c (max 0 (c.tdiv g.co - 1) + (i : Int)) (arN g c) := by unfold arF; rw [List.range_succ, List.flatMap_append]; simp
theorem arR_pre {g : Grd} {c r : Int} {j : Nat} : ∀ {n : Nat}, j ≤ n → arR g c r j <+: arR g c r n
  | 0, h => by have : j = 0 := by omega
               subst this; exact List.prefix_rfl
  | n + 1, h => by
    by_cases e : j = n + 1
    · subst e; exact List.prefix_rfl
    · rw [arR_succ]; exact (arR_pre (show j ≤ n by omega)).trans (List.prefix_append _ _)
theorem arF_pre {g : Grd} {c : Int} {i : Nat} : ∀ {m : Nat}, i ≤ m → arF g c i <+: arF g c m
  | 0, h => by have : i = 0 := by omega
               subst this; exact List.prefix_rfl
  | m + 1, h => by
    by_cases e : i = m + 1
    · subst e; exact List.prefix_rfl
    · rw [arF_succ]; exact (arF_pre (show i ≤ m by omega)).trans (List.prefix_append _ _)

theorem ar_pre {g : Grd} {c : Int} {i j : Nat} (hi : i < arM g c) (hj : j < arN g c) (hb : decide ((max 0 (c.tdiv g.co - 1) + (i : Int)) * g.co + (max 0 (c.tmod g.co - 1) + (j : Int)) ≠ c) = true) :
    arF g c i ++ arR g c (max 0 (c.tdiv g.co - 1) + (i : Int)) j ++ [(max 0 (c.tdiv g.co - 1) + (i : Int)) * g.co + (max 0 (c.tmod g.co - 1) + (j : Int))] <+: arF g c (arM g c) := by
  have e : arR g c (max 0 (c.tdiv g.co - 1) + (i : Int)) (j + 1) = arR g c (max 0 (c.tdiv g.co - 1) + (i : Int)) j ++ [(max 0 (c.tdiv g.co - 1) + (i : Int)) * g.co + (max 0 (c.tmod g.co - 1) + (j : Int))] := by rw [arR_succ, if_pos hb]
  rw [List.append_assoc, ← e]
  obtain ⟨t, ht⟩ := arR_pre (g := g) (c := c) (r := max 0 (c.tdiv g.co - 1) + (i : Int)) (show j + 1 ≤ arN g c by omega)
  refine List.IsPrefix.trans ?_ (arF_pre (show i + 1 ≤ arM g c by omega))
  rw [arF_succ, ← ht, ← List.append_assoc]
  exact List.prefix_append _ _
def encA (n : Int) : List D := [.v (.int .i64 n)]
theorem ar_bnd {g : Grd} (hg : GrdOk g) {c : Int} (h1 : 0 ≤ c) {i : Nat} (hi : (max 0 (c.tdiv g.co - 1) + (i : Int)) ≤ g.ro - 1) : 0 ≤ (max 0 (c.tdiv g.co - 1) + (i : Int)) * g.co ∧ (max 0 (c.tdiv g.co - 1) + (i : Int)) * g.co ≤ 1600 := by
  have c1 := hg.c1
  have c2 := hg.c2
  have r2 := hg.r2
  have h := mulb (a := max 0 (c.tdiv g.co - 1) + (i : Int)) (b := g.co) (A := 40) (B := 40) (by omega) (by omega) (by omega) (by omega)
  have := Int.mul_nonneg (show 0 ≤ max 0 (c.tdiv g.co - 1) + (i : Int) by omega) (show 0 ≤ g.co by omega)
  omega
theorem around_i (g : Grd) (pw : List Int) (ce : Int) (h : FldOk g pw) (h1 : 0 ≤ ce) (h2 : ce ≤ 10000) : PI Tryz.prog 266 [] [.pt [.v (.int .i64 (ce))] 0, .pt (fdC g pw) 0] (encA) (arF g ce (arM g ce)) true := by
  have hg := h.gr
  have hgg := hg
  obtain ⟨x1, x2, z1, z2, c1, c2, r1, r2, s1, s2⟩ := hgg
  obtain ⟨m1, m2⟩ := tmodP_in h1 c1
  obtain ⟨d1, d2⟩ := tdivP_in h1 c1
  have hM : arM g ce = (min (g.ro - 1) (ce.tdiv g.co + 1) - max 0 (ce.tdiv g.co - 1) + 1).toNat := rfl
  have hN : arN g ce = (min (g.co - 1) (ce.tmod g.co + 1) - max 0 (ce.tmod g.co - 1) + 1).toNat := rfl
  refine pi_of_iwp Tryz.func266 rfl Tryz.ntmps266 rfl rfl fun J c l0 hJ hy hdat hfin => ?_
  refine iwp_seq ?_
  apply iwp_reg hJ
  ·
    intro c1 hmine hrnd
    refine xa 14 ?_
    refine rg_q (q_load sz3 rfl rfl) (rg_q (q_fieldAddr fld193_0 rfl) (rg_q (q_fieldAddr fld150_0 rfl) (rg_q (q_fieldAddr fld35_1 rfl) (rg_q (q_load sz3 rfl rfl) ?_))))
    refine rg_q (q_rem rfl rfl (by omega)) ?_
    refine rg_q (q_load sz3 rfl rfl) (rg_q (q_fieldAddr fld193_0 rfl) (rg_q (q_fieldAddr fld150_0 rfl) (rg_q (q_fieldAddr fld35_1 rfl) (rg_q (q_load sz3 rfl rfl) ?_))))
    refine rg_q (q_quo rfl rfl (by omega) xi) ?_
    refine rg_q (q_a rfl) (rg_q (q_a rfl) ?_)
    refine rn ?_
    exact ⟨rfl, rfl⟩
  change Iwp _ _ _ _ _ _ _
  refine iwp_seq ?_
  apply iwp_reg hJ
  ·
    intro c1 hmine hrnd
    refine xa 4 ?_
    refine rg_q (q_m rfl) ?_
    refine rg_q (q_sub rfl rfl xi) ?_
    refine rg_q (q_max rfl rfl) ?_
    refine rg_q (q_a rfl) ?_
    refine rn ?_
    exact ⟨rfl, rfl⟩
  change Iwp _ _ _ _ _ _ _
  refine iwp_block ?_
  refine iwp_loopH [6, 7, 8, 24, 25, 26, 27, 28, 29, 30, 31, 32, 33, 34, 35, 36, 37, 38, 39, 40, 41, 42, 43, 44, 45, 46, 47, 48, 49, 50, 51, 52, 53, 54, 55, 56, 57, 58, 59, 60, 61, 62, 63, 64, 65, 66, 67] [] (β := Nat) (fun i => [(6, T.i (max 0 (ce.tdiv g.co - 1) + (i : Int)))]) (fun i => []) (fun i => (true, arF g ce i)) (fun i => i ≤ arM g ce) (fun i => arM g ce - i) 0 (Nat.zero_le _) rfl (fun c1 => ?_) ?_
  · exact xh (ms := []) (by repeat (exact Out.refl _)) ⟨(by (show T.i _ = T.i _; congr 1; omega)), trivial⟩ trivial
  ·
    intro i hi
    refine iwp_seq ?_
    refine iwp_seq ?_
    apply iwp_reg hJ
    ·
      intro c1 hmine hrnd
      refine xa 10 ?_
      refine rg_q (q_m rfl) (rg_q (q_fieldAddr fld193_0 rfl) (rg_q (q_fieldAddr fld150_0 rfl) (rg_q (q_fieldAddr fld35_2 rfl) (rg_q (q_load sz3 rfl rfl) ?_))))
      refine rg_q (q_sub rfl rfl xi) ?_
      refine rg_q (q_m rfl) ?_
      refine rg_q (q_add rfl rfl xi) ?_
      refine rg_q (q_min rfl rfl) ?_
      refine rg_q (q_leq rfl rfl) ?_
      refine rn ?_
      exact ⟨rfl, rfl⟩
    change Iwp _ _ _ _ _ _ _
    refine iwp_cond rfl (fun hc2 => ?_) (fun hc2 => ?_)
    ·
      (try simp only [nb, ne_eq] at hc2)
      have hlt : i < arM g ce := by omega
      obtain ⟨hp1, hp2⟩ := ar_bnd hg h1 (i := i) (by omega)
      refine iwp_skip ?_
      change Iwp _ _ _ _ _ _ _
      refine iwp_seq ?_
      refine iwp_block ?_
      refine iwp_seq ?_
      apply iwp_reg hJ
      ·
        intro c1 hmine hrnd
        refine xa 4 ?_
        refine rg_q (q_m rfl) ?_
        refine rg_q (q_sub rfl rfl xi) ?_
        refine rg_q (q_max rfl rfl) ?_
        refine rg_q (q_a rfl) ?_
        refine rn ?_
        exact ⟨rfl, rfl⟩
      change Iwp _ _ _ _ _ _ _
      refine iwp_block ?_
      refine iwp_loopH [7, 8, 39, 40, 41, 42, 43, 44, 45, 46, 47, 48, 49, 50, 51, 52, 53, 54, 55, 56, 57, 58, 59, 60, 61, 62, 63, 64, 65, 66, 67] [] (β := Nat) (fun j => [(7, T.i (max 0 (ce.tmod g.co - 1) + (j : Int)))]) (fun j => []) (fun j => (true, arF g ce i ++ arR g ce (max 0 (ce.tdiv g.co - 1) + (i : Int)) j)) (fun j => j ≤ arN g ce) (fun j => arN g ce - j) 0 (Nat.zero_le _) (by show (true, _ ++ arR g ce _ 0) = (true, _); simp [arR]) (fun c1 => ?_) ?_
      · exact xh (ms := []) (by repeat (exact Out.refl _)) ⟨(by (show T.i _ = T.i _; congr 1; omega)), trivial⟩ trivial
      ·
        intro j hj
        refine iwp_seq ?_
        refine iwp_seq ?_
        apply iwp_reg hJ
        ·
          intro c1 hmine hrnd
          refine xa 10 ?_
          refine rg_q (q_m rfl) (rg_q (q_fieldAddr fld193_0 rfl) (rg_q (q_fieldAddr fld150_0 rfl) (rg_q (q_fieldAddr fld35_1 rfl) (rg_q (q_load sz3 rfl rfl) ?_))))
          refine rg_q (q_sub rfl rfl xi) ?_
          refine rg_q (q_m rfl) ?_
          refine rg_q (q_add rfl rfl xi) ?_
          refine rg_q (q_min rfl rfl) ?_
          refine rg_q (q_leq rfl rfl) ?_
          refine rn ?_
          exact ⟨rfl, rfl⟩
        change Iwp _ _ _ _ _ _ _
        refine iwp_cond rfl (fun hc5 => ?_) (fun hc5 => ?_)
        ·
          (try simp only [nb, ne_eq] at hc5)
          have hlj : j < arN g ce := by omega
          refine iwp_skip ?_
          change Iwp _ _ _ _ _ _ _
          refine iwp_seq ?_
          refine iwp_block ?_
          refine iwp_seq ?_
          apply iwp_reg hJ
          ·
            intro c1 hmine hrnd
            refine xa 9 ?_
            refine rg_q (q_m rfl) (rg_q (q_fieldAddr fld193_0 rfl) (rg_q (q_fieldAddr fld150_0 rfl) (rg_q (q_fieldAddr fld35_1 rfl) (rg_q (q_load sz3 rfl rfl) ?_))))
            refine rg_q (q_mul rfl rfl xi) ?_
            refine rg_q (q_m rfl) ?_
            refine rg_q (q_add rfl rfl xi) ?_
            refine rg_q (q_a rfl) ?_
            refine rn ?_
            exact ⟨rfl, rfl⟩
          change Iwp _ _ _ _ _ _ _
          refine iwp_seq ?_
          refine iwp_region ?_
          refine iops_of hJ rfl (fun c1 _ _ _ h => by exact aops_q rfl ((q_m rfl)) h) ?_
          refine iops_of hJ rfl (fun c1 _ _ _ h => by exact aops_q rfl ((q_load sz3 rfl rfl)) h) ?_
          refine iops_of hJ rfl (fun c1 _ _ _ h => by exact aops_q rfl ((q_neq rfl rfl)) h) ?_
          refine iops_of hJ rfl (fun c1 _ _ _ h => by exact aops_q rfl ((q_m rfl)) h) ?_
          rcases Bool.eq_false_or_eq_true (decide ((max 0 (ce.tdiv g.co - 1) + (i : Int)) * g.co + (max 0 (ce.tmod g.co - 1) + (j : Int)) ≠ ce)) with hb | hb
          ·
            refine iops_g hJ rfl (congrArg T.bool hb) rfl (by intro d hd; cases hd; exact (by decide : (63 : Nat) < 68)) (fun c1 => ((q_move (x := .d (.fn _ _)) rfl))) ?_
            refine iops_g hJ rfl (congrArg T.bool hb) rfl (by intro d hd; cases hd; exact (by decide : (64 : Nat) < 68)) (fun c1 => ((q_m rfl))) ?_
            refine iops_yieldG (x := (max 0 (ce.tdiv g.co - 1) + (i : Int)) * g.co + (max 0 (ce.tmod g.co - 1) + (j : Int))) rfl (congrArg T.bool hb) rfl hy hdat rfl (.cons rfl .nil) (ar_pre hlt hlj hb) rfl (fun yb => ?_)
            refine iops_g hJ rfl (congrArg T.bool hb) rfl (by intro d hd; cases hd; exact (by decide : (66 : Nat) < 68)) (fun c1 => ((q_not rfl))) ?_
            refine iops_of hJ rfl (fun c1 _ _ _ h => by exact aops_q rfl ((q_pick rfl rfl rfl)) h) ?_
            refine iops_nil ?_
            change Iwp _ _ _ _ _ _ _
            refine iwp_cond rfl (fun hc8 => ?_) (fun hc8 => ?_)
            ·
              (try simp only [nb, ne_eq] at hc8)
              have hyb : yb = false := by cases yb <;> first | rfl | (exfalso; simp_all; done)
              refine iwp_ret ?_
              exact ⟨.inl rfl, fun h => by rw [hyb] at h; cases h⟩
            ·
              (try simp only [nb, ne_eq] at hc8)
              have hyb : yb = true := by cases yb <;> first | rfl | (exfalso; simp_all; done)
              refine iwp_skip ?_
              change Iwp _ _ _ _ _ _ _
              apply iwp_reg hJ
              ·
                intro c1 hmine hrnd
                refine xa 3 ?_
                refine rg_q (q_m rfl) ?_
                refine rg_q (q_add rfl rfl xi) ?_
                refine rg_q (q_a rfl) ?_
                refine rn ?_
                exact ⟨rfl, rfl⟩
              refine ⟨j + 1, by omega, by omega, by rw [hyb, arR_succ, if_pos hb, List.append_assoc], fun c1 => ?_⟩
              exact xh (ms := []) (by repeat (first | exact Out.head rfl rfl | (refine Out.put ?_ rfl))) ⟨(by (show T.i _ = T.i _; congr 1; omega)), trivial⟩ trivial
          ·
            refine iops_skip (g := false) (b := true) rfl rfl (congrArg T.bool hb) rfl rfl (by intro d hd; cases hd; exact (by decide : (63 : Nat) < 68)) ?_
            refine iops_skip (g := false) (b := true) rfl rfl (congrArg T.bool hb) rfl rfl (by intro d hd; cases hd; exact (by decide : (64 : Nat) < 68)) ?_
            refine iops_skip (g := false) (b := true) rfl rfl (congrArg T.bool hb) rfl rfl (by intro d hd; cases hd; exact (by decide : (65 : Nat) < 68)) ?_
            refine iops_skip (g := false) (b := true) rfl rfl (congrArg T.bool hb) rfl rfl (by intro d hd; cases hd; exact (by decide : (66 : Nat) < 68)) ?_
            refine iops_of hJ rfl (fun c1 _ _ _ h => by exact aops_q rfl (q_pickF (congrArg T.bool hb) rfl) h) ?_
            refine iops_nil ?_
            change Iwp _ _ _ _ _ _ _
            refine iwp_cond rfl (fun hc8 => ?_) (fun hc8 => ?_)
            ·
              exfalso; (try simp only [nb, ne_eq] at hc8); simp_all
            ·
              (try simp only [nb, ne_eq] at hc8)
              refine iwp_skip ?_
              change Iwp _ _ _ _ _ _ _
              apply iwp_reg hJ
              ·
                intro c1 hmine hrnd
                refine xa 3 ?_
                refine rg_q (q_m rfl) ?_
                refine rg_q (q_add rfl rfl xi) ?_
                refine rg_q (q_a rfl) ?_
                refine rn ?_
                exact ⟨rfl, rfl⟩
              refine ⟨j + 1, by omega, by omega, by rw [arR_succ, if_neg (by rw [hb]; decide), List.append_nil], fun c1 => ?_⟩
              exact xh (ms := []) (by repeat (first | exact Out.head rfl rfl | (refine Out.put ?_ rfl))) ⟨(by (show T.i _ = T.i _; congr 1; omega)), trivial⟩ trivial
        ·
          (try simp only [nb, ne_eq] at hc5)
          have hjn : j = arN g ce := by omega
          refine iwp_exit ?_
          change Iwp _ _ _ _ _ _ _
          apply iwp_reg hJ
          ·
            intro c1 hmine hrnd
            refine xa 3 ?_
            refine rg_q (q_m rfl) ?_
            refine rg_q (q_add rfl rfl xi) ?_
            refine rg_q (q_a rfl) ?_
            refine rn ?_
            exact ⟨rfl, rfl⟩
          refine ⟨i + 1, by omega, by omega, by rw [hjn, arF_succ], fun c1 => ?_⟩
          exact xh (ms := []) (by repeat (first | exact Out.head rfl rfl | (refine Out.put ?_ rfl) | (refine Out.headIn ?_ rfl rfl rfl))) ⟨(by (show T.i _ = T.i _; congr 1; omega)), trivial⟩ trivial
    ·
      (try simp only [nb, ne_eq] at hc2)
      have him : i = arM g ce := by omega
      refine iwp_exit ?_
      exact ⟨.inr rfl, fun _ => by rw [him]⟩
end Go.Proofs.YtamaocfjknpadaaGreat.Am.M
-- mini
set_option maxRecDepth 100000
namespace Go.Proofs.YtamaocfjknpadaaGreat.Am.M
open Go

theorem arF_in {g : Grd} (hg : GrdOk g) {c : Int} (h1 : 0 ≤ c) {n : Int} (h : n ∈ arF g c (arM g c)) : 0 ≤ n ∧ n < g.co * g.ro := by
  have c1 := hg.c1
  have r1 := hg.r1
  unfold arF at h
  obtain ⟨p, hp, h⟩ := List.mem_flatMap.1 h
  unfold arR at h
  obtain ⟨h, _⟩ := List.mem_filter.1 h
  obtain ⟨q, hq, rfl⟩ := List.mem_map.1 h
  have hp := List.mem_range.1 hp
  have hq := List.mem_range.1 hq
  have hM : arM g c = (min (g.ro - 1) (c.tdiv g.co + 1) - max 0 (c.tdiv g.co - 1) + 1).toNat := rfl
  have hN : arN g c = (min (g.co - 1) (c.tmod g.co + 1) - max 0 (c.tmod g.co - 1) + 1).toNat := rfl
  generalize hr : max 0 (c.tdiv g.co - 1) + (p : Int) = r at *
  have e1 : 0 ≤ r ∧ r ≤ g.ro - 1 := by omega
  have e2 := Int.mul_nonneg e1.1 (show 0 ≤ g.co by omega)
  have e3 := Int.mul_le_mul_of_nonneg_right e1.2 (show 0 ≤ g.co by omega)
  rw [Int.sub_mul, Int.one_mul, Int.mul_comm g.ro g.co] at e3
  omega
theorem takeSnoc {α : Type} {l : List α} {k : Nat} {y : α} (h : l[k]? = some y) : l.take (k + 1) = l.take k ++ [y] := by
  obtain ⟨hlt, rfl⟩ := List.getElem?_eq_some_iff.1 h
  rw [List.take_succ_eq_append_getElem hlt]
theorem anySnoc {α : Type} {p : α → Bool} {l : List α} {y : α} (h : l.any p = false) (hy : p y = false) : (l ++ [y]).any p = false := by rw [List.any_append, h]; simp [hy]
def pwA (pw : List Int) (n : Int) : Int := pw.getD n.toNat 0
def pkB (pw : List Int) (c n : Int) : Bool := decide (pwA pw c < pwA pw n) || (decide (n < c) && decide (pwA pw n = pwA pw c))
def pkR (g : Grd) (pw : List Int) (c : Int) : Bool := !(arF g c (arM g c)).any (pkB pw c) && decide (0 < pwA pw c)
theorem pwA_at {pw : List Int} {n : Int} (h1 : 0 ≤ n) (h2 : n < (pw.length : Int)) : pw[n.toNat]? = some (pwA pw n) := by
  unfold pwA
  rw [List.getD_eq_getElem?_getD, List.getElem?_eq_getElem (by omega)]; rfl
theorem isPeak_p (g : Grd) (pw : List Int) (c : Int) (h : FldOk g pw) (h1 : 0 ≤ c) (h2 : c < (pw.length : Int)) : PC Tryz.prog 160 [.agg (fdC g pw), .v (.int .i64 (c))] (.v (.bool (pkR g pw c))) := by
 have hg := h.gr
 have hci := cells_in hg
 have hlen := h.len
 have hat := pwA_at h1 h2
 refine pc_of_awpN Tryz.func160 rfl Tryz.ntmps160 (rs := [.cell 4 4]) Tryz.results160 (by simp) fun w0 hmine hrnd hpn => ?_
 refine awp_seq ?_
 refine xa 2 ?_
 refine rg_q (q_box rfl (by exact .inr ⟨_, rfl⟩)) ?_
 refine rg_q (q_box rfl (by exact .inl rfl)) ?_
 refine rg_nil ?_
 refine aops_alloc zr4 rfl rfl rfl ?_
 refine aops_nil (xq (xa 5 ?_))
 refine rg_q (q_fieldAddr fld193_1 rfl) (rg_q (q_load sz77 rfl rfl) (rg_q (q_load sz3 rfl rfl) ?_))
 refine rg_q (q_indexAddr sl77 rfl rfl (by omega) (map_at (k := c.toNat) (by omega) hat)) ?_
 refine rg_q (q_load sz3 rfl rfl) ?_
 refine rg_nil ?_
 refine aops_alloc zr3 rfl rfl rfl ?_
 refine aops_store sz3 rfl rfl (by exact .inl rfl) rfl rfl (by decide) rfl ?_
 refine aops_nil (xq (awp_seq ?_))
 refine xa 3 ?_
 refine rg_q (q_loadA (ds := [_, _, _, _, _, _]) sz193 rfl rfl rfl) ?_
 refine rg_q (q_load sz3 rfl rfl) ?_
 refine rg_q (q_call en233 (.cons rfl (.cons rfl .nil)) rfl (around_p _ _ _)) ?_
 refine xc (awp_block ?_)
 refine Awp.le (le_freeze 5 5 0 (cs := iC (pwA pw c)) rfl rfl rfl rfl hmine) ?_
 refine awp_rangeFC (α := Int) (β := Nat) (n := 39) (enc := encA) (items := arF g c (arM g c)) 1000 [(2, .d (.pt (fdC g pw) 0)), (3, .d (.pt [.v (.int .i64 (c))] 0)), (4, .ref 4 0), (5, .d (.pt [.v (.int .i64 (pwA pw c))] 0)), (14, .d (.fn (.func 266) [.pt [.v (.int .i64 (c))] 0, .pt (fdC g pw) 0]))] (fun x => [(4, .box [.v (.bool (false))])]) (fun k x => x = k ∧ ((arF g c (arM g c)).take k).any (pkB pw c) = false) (fun e x => e = Exit.ret ∧ pkR g pw c = false) 0 hrnd ?_ (.inr ⟨rfl, rfl⟩) en266 (around_i g pw c h h1 (by omega)) rfl (fun _ => rfl) rfl (fun x => fsl_mem (fsl_cons (fst_box (by repeat first | exact trivial | refine ⟨.v _, ?_⟩)) fsl_nil)) (fun _ => rfl) ⟨rfl, rfl⟩ (fun h => by cases h) ?_ ?_ ?_
 · exact le_cst (fun k => k) _ _ rfl ⟨rfl, rfl, rfl, rfl, rfl, trivial⟩ ⟨rfl, trivial⟩ rfl (fun k b h => by rw [hpn k] at h; cases h)
 ·
  intro w1 hw1 k x y hI hy
  obtain ⟨rfl, hf⟩ := hI
  obtain ⟨hy1, hy2⟩ := arF_in hg h1 (List.mem_of_getElem? hy)
  have hya := pwA_at (pw := pw) hy1 (by omega)
  refine xa 1 ?_
  refine rg_q (q_a rfl) ?_
  refine rn ?_
  refine ⟨rfl, fun w2 hw2 => ?_⟩
  refine awp_block ?_
  refine awp_seq ?_
  refine xa 21 ?_
  refine rg_q (q_fieldAddr fld193_1 rfl) (rg_q (q_load sz77 rfl rfl) (rg_q (q_m rfl) ?_))
  refine rg_q (q_indexAddr sl77 rfl rfl (by omega) (map_at (k := y.toNat) (by omega) hya)) ?_
  refine rg_q (q_load sz3 rfl rfl) (rg_q (q_load sz3 rfl rfl) (rg_q (q_gtr rfl rfl) (rg_q (q_m rfl) ?_)))
  refine rg_g rfl rfl (fun hG => (q_m rfl)) ?_
  refine rg_g rfl rfl (fun hG => (q_load sz3 rfl rfl)) ?_
  refine rg_g rfl rfl (fun hG => (q_lss rfl rfl)) ?_
  refine rg_g rfl rfl (fun hG => (q_m rfl)) ?_
  refine rg_g rfl rfl (fun hG => (q_fieldAddr fld193_1 rfl)) ?_
  refine rg_g rfl rfl (fun hG => (q_load sz77 rfl rfl)) ?_
  refine rg_g rfl rfl (fun hG => (q_m rfl)) ?_
  refine rg_g rfl rfl (fun hG => (q_indexAddr sl77 rfl rfl (by (have hg0 := T.bool_inj (a := _) hG.1; (try simp only [nb, ne_eq] at hg0); have hg1 := T.bool_inj (a := _) hG.2.1; (try simp only [nb, ne_eq] at hg1); omega)) (map_at (k := y.toNat) (by (have hg0 := T.bool_inj (a := _) hG.1; (try simp only [nb, ne_eq] at hg0); have hg1 := T.bool_inj (a := _) hG.2.1; (try simp only [nb, ne_eq] at hg1); omega)) hya))) ?_
  refine rg_g rfl rfl (fun hG => (q_load sz3 rfl rfl)) ?_
  refine rg_g rfl rfl (fun hG => (q_load sz3 rfl rfl)) ?_
  refine rg_g rfl rfl (fun hG => (q_eql rfl rfl)) ?_
  refine rg_pickg rfl rfl rfl rfl rfl rfl rfl rfl ?_
  refine rg_pick rfl rfl rfl rfl rfl rfl ?_
  refine xc (awp_cond rfl (fun hc4 => ?_) (fun hc4 => ?_))
  ·
   (try simp only [nb, ne_eq] at hc4)
   have hb : pkB pw c y = true := by unfold pkB; (simp; omega)
   have hno : pkR g pw c = false := by unfold pkR; rw [List.any_eq_true.2 ⟨y, List.mem_of_getElem? hy, hb⟩]; rfl
   refine awp_seq ?_
   refine xa 0 ?_
   refine rg_nil ?_
   refine aops_store sz4 rfl rfl (by exact .inl rfl) rfl rfl (by decide) rfl ?_
   refine aops_nil ?_
   change Awp _ _ _ _ _
   refine awp_ret ?_
   refine .inr ⟨rfl, x, ⟨rfl, hno⟩, ?_⟩
   exact le_round [] _ hw2 rfl ⟨(by rfl), trivial⟩ rfl
  ·
   (try simp only [nb, ne_eq] at hc4)
   have hb : pkB pw c y = false := by unfold pkB; (simp; omega)
   refine awp_skip ?_
   refine .inl ⟨rfl, x + 1, ⟨rfl, by rw [takeSnoc hy]; exact anySnoc hf hb⟩, ?_⟩
   exact le_round [] _ hw2 rfl ⟨(by rfl), trivial⟩ rfl
 ·
  intro x hI
  obtain ⟨hI2, hf⟩ := hI
  rw [List.take_length] at hf
  have hz : pkR g pw c = decide (0 < pwA pw c) := by unfold pkR; rw [hf]; rfl
  change Awp _ _ _ _ _
  refine awp_seq ?_
  refine xa 2 ?_
  refine rg_q (q_load sz3 rfl rfl) (rg_q (q_gtr rfl rfl) ?_)
  refine rg_nil ?_
  refine aops_store sz4 rfl rfl (by exact .inl rfl) rfl rfl (by decide) rfl ?_
  refine aops_nil ?_
  change Awp _ _ _ _ _
  refine awp_ret ?_
  refine ⟨_, (.cons (.cell1 rfl rfl sz4) .nil), ?_⟩
  rw [hz]; rfl
 ·
  rintro e x (⟨rfl, hX⟩)
  ·
   refine ⟨_, (.cons (.cell1 rfl rfl sz4) .nil), ?_⟩
   rw [hX]; rfl

def choL (p : Int → Bool) (n : Nat) : List Int := (allL n).filter p
theorem choL_succ {p : Int → Bool} {k : Nat} : choL p (k + 1) = choL p k ++ (if p (k : Int) = true then [(k : Int)] else []) := by
  unfold choL
  rw [allL_succ, List.filter_append]
  congr 1
  by_cases h : p (k : Int) = true
  · rw [if_pos h]; simp [h]
  · rw [if_neg h]; simp [h]
theorem choL_len {p : Int → Bool} {k : Nat} : (choL p k).length ≤ k := by
  have := List.length_filter_le p (allL k)
  unfold choL
  rw [allL_len] at this
  exact this
theorem chosen_p (g : Grd) (pw : List Int) (p : Int → Bool) (fn : FuncId) (cap : List D) (hen : enB Tryz.prog fn = true) (hl : pw.length ≤ 1600) (hp : ∀ n : Nat, n < pw.length → PC Tryz.prog fn (cap ++ [.v (.int .i64 ((n : Int)))]) (.v (.bool (p n)))) : PC Tryz.prog 159 [.agg (fdC g pw), .mfn (.func fn) cap] (.sl 1 ((choL p pw.length).map iC)) := by
 refine pc_of_awpN Tryz.func159 rfl Tryz.ntmps159 (rs := [.tmp 4]) Tryz.results159 (by simp) fun w0 hmine hrnd hpn => ?_
 refine awp_seq ?_
 refine xa 2 ?_
 refine rg_q (q_box rfl (by exact .inr ⟨_, rfl⟩)) ?_
 refine rg_q (q_assign (x := .d (.sl _ _)) rfl) ?_
 refine rs (xa 1 ?_)
 refine rg_q (q_assign_nil) ?_
 refine rn ?_
 change Awp _ _ _ _ _
 refine Awp.le (le_own (k := 5) (e := 3) (sz := 1) rfl rfl) ?_
 refine awp_seq ?_
 refine awp_seq ?_
 refine xa 4 ?_
 refine rg_q (q_fieldAddr fld193_1 rfl) (rg_q (q_load sz77 rfl rfl) ?_)
 refine rg_q (q_len isl77 rfl (by exact len_map _ _)) ?_
 refine rg_q (q_m rfl) ?_
 refine xc (awp_len (t := 8) rfl (fun hl8 => ?_))
 (try simp only [List.length_map] at hl8)
 refine awp_block ?_
 refine awp_loopH [5, 6, 10, 11, 12, 13, 14, 15, 16, 17, 18, 19, 20] [5] (α := Nat) (fun k => [(10, T.i (k : Int)), (5, .rs 5)]) (fun k => [(5, .row 3 1 ((choL p k).map iC))]) (fun k => k ≤ pw.length) (fun k => pw.length - k) 0 (Nat.zero_le _) ?_ ?_
 · exact xh (ms := [5]) (by repeat (exact Out.refl _)) ⟨(by rfl), (by rfl), trivial⟩ ⟨(by rfl), trivial⟩
 ·
  intro k hk
  have hal := choL_len (p := p) (k := k)
  refine awp_seq ?_
  refine xa 1 ?_
  refine rg_q (q_lss rfl rfl) ?_
  refine rs (awp_cond rfl (fun hc3 => ?_) (fun hc3 => ?_))
  ·
   (try simp only [nb, ne_eq] at hc3)
   have hlt : k < pw.length := by omega
   refine awp_skip ?_
   change Awp _ _ _ _ _
   refine awp_seq ?_
   refine awp_block ?_
   refine awp_seq ?_
   refine xa 2 ?_
   refine rg_q (q_m rfl) (rg_q (q_a rfl) ?_)
   refine rs (xa 3 ?_)
   refine rg_q (q_move (x := .d (.mfn _ _)) rfl) (rg_q (q_m rfl) ?_)
   refine rg_q (q_callM hen rfl (.cons rfl .nil) ((hp k hlt))) ?_
   refine xc (awp_cond rfl (fun hc5 => ?_) (fun hc5 => ?_))
   ·
    (try simp only [nb, ne_eq] at hc5)
    have hsk : (choL p (k + 1)).map iC = (choL p k).map iC ++ [[.v (.int .i64 (k : Int))]] := by rw [choL_succ, if_pos hc5, List.map_append]; rfl
    refine xa 3 ?_
    refine rg_q (q_move (x := .rs _) rfl) (rg_q (q_m rfl) ?_)
    refine rg_q (q_buildSlice sl77 zr3 rfl rfl (by decide) (.cons rfl (by exact .inl rfl) .nil) ⟨rfl, rfl, trivial⟩ rfl (by decide) rfl) ?_
    refine rg_nil ?_
    refine aops_append sl77 zr3 by3 rfl (by decide) rfl rfl rfl rfl (by (try simp only [List.length_map, List.length_append, List.length_cons, List.length_nil]); omega) (by (try simp only [List.length_map, List.length_append, List.length_cons, List.length_nil]); omega) rfl rfl ?_
    refine aops_q rfl (q_assign (x := .rs _) rfl) ?_
    refine aops_nil ?_
    change Awp _ _ _ _ _
    refine xa 2 ?_
    refine rg_q (q_add rfl rfl xi) ?_
    refine rg_q (q_m rfl) ?_
    refine rn ?_
    refine ⟨k + 1, by omega, by omega, ?_⟩
    exact xh (ms := [5]) (by repeat (first | exact Out.head rfl rfl | (refine Out.put ?_ rfl) | (refine Out.site ?_ rfl) | (refine Out.killS ?_ rfl))) ⟨(by rfl), (by rfl), trivial⟩ ⟨(by ((show Site.row 3 1 _ = Site.row 3 1 _; (rw [hsk]; rfl)))), trivial⟩
   ·
    (try simp only [nb, ne_eq] at hc5)
    have hsk : (choL p (k + 1)).map iC = (choL p k).map iC := by rw [choL_succ, if_neg (by rw [hc5]; decide), List.append_nil]
    refine awp_skip ?_
    change Awp _ _ _ _ _
    refine xa 2 ?_
    refine rg_q (q_add rfl rfl xi) ?_
    refine rg_q (q_m rfl) ?_
    refine rn ?_
    refine ⟨k + 1, by omega, by omega, ?_⟩
    exact xh (ms := [5]) (by repeat (first | exact Out.head rfl rfl | (refine Out.put ?_ rfl))) ⟨(by rfl), (by rfl), trivial⟩ ⟨(by ((show Site.row 3 1 _ = Site.row 3 1 _; (rw [hsk]; done)))), trivial⟩
  ·
   (try simp only [nb, ne_eq] at hc3)
   have hkn : k = pw.length := by omega
   subst hkn
   refine awp_exit ?_
   change Awp _ _ _ _ _
   refine awp_seq ?_
   refine xa 2 ?_
   refine rg_q (q_move (x := .rs _) rfl) (rg_q (q_assign (x := .rs _) rfl) ?_)
   refine xc (awp_ret ?_)
   refine ⟨_, (.cons (.tmp (by exact .rs rfl)) .nil), ?_⟩
   rfl

theorem ofD_len (g : Grd) (pw : List Int) : (ofD g pw).length = 6 := by
  unfold ofD
  split
  · rfl
  · split <;> rfl
def peaksR (g : Grd) (pw : List Int) : List Int × Int := if ofE g pw ≠ 0 then ([], ofE g pw) else (choL (pkR g pw) pw.length, 0)
theorem peaks_p (g : Grd) (pw : List Int) : PC Tryz.prog 83 [.agg (grdC g), .sl 1 (pw.map iC)] (.tup [.sl 1 ((peaksR g pw).1.map iC), .v (.int .i64 ((peaksR g pw).2))]) := by
 refine pc_of_awpN Tryz.func83 rfl Tryz.ntmps83 (rs := [.tmp 4, .tmp 5]) Tryz.results83 (by simp) fun w0 hmine hrnd hpn => ?_
 refine awp_seq ?_
 refine xa 3 ?_
 refine rg_q (q_box rfl (by exact .inr ⟨_, rfl⟩)) ?_
 refine rg_q (q_assign (x := .d (.sl _ _)) rfl) (rg_q (q_a rfl) ?_)
 refine rs (xa 6 ?_)
 refine rg_q (q_loadA (ds := [_, _, _, _, _]) sz35 rfl rfl rfl) ?_
 refine rg_q (q_move (x := .d (.sl _ _)) rfl) ?_
 refine rg_q (q_call en116 (.cons rfl (.cons rfl .nil)) rfl (openField_p _ _)) ?_
 refine rg_q (q_move (x := .d (.tup _)) rfl) (rg_q (q_extract rfl rfl) (rg_q (q_extract rfl rfl) ?_))
 refine rg_nil ?_
 refine aops_allocD zr193 rfl sz193 rfl rfl (by exact .inr ⟨_, rfl⟩) (ofD_len g pw) rfl ?_
 refine aops_q rfl (q_a rfl) ?_
 refine aops_nil (xq (awp_seq ?_))
 refine xa 2 ?_
 refine rg_q (q_m rfl) (rg_q (q_neq rfl rfl) ?_)
 refine xc (awp_cond rfl (fun hc2 => ?_) (fun hc2 => ?_))
 ·
  (try simp only [nb, ne_eq] at hc2)
  have hz : peaksR g pw = ([], ofE g pw) := by unfold peaksR; rw [if_pos hc2]
  refine awp_seq ?_
  refine xa 3 ?_
  refine rg_q (q_m rfl) (rg_q (q_assign (x := .d (.sl _ _)) rfl) (rg_q (q_a rfl) ?_))
  refine xc (awp_ret ?_)
  refine ⟨_, xk2, ?_⟩
  rw [hz]; rfl
 ·
  (try simp only [nb, ne_eq] at hc2)
  have h0 : ofE g pw = 0 := by simpa using hc2
  obtain ⟨hfk, hfd⟩ := of_ok h0
  have hci := cells_in hfk.gr
  have hlen := hfk.len
  have hz : peaksR g pw = (choL (pkR g pw) pw.length, 0) := by unfold peaksR; rw [if_neg (fun q => q h0)]
  rw [hfd]
  refine awp_skip ?_
  change Awp _ _ _ _ _
  refine awp_seq ?_
  refine xa 6 ?_
  refine rg_q (q_loadA (ds := [_, _, _, _, _, _]) sz193 rfl rfl rfl) ?_
  refine rg_q (q_loadA (ds := [_, _, _, _, _, _]) sz193 rfl rfl rfl) ?_
  refine rg_q (q_makeMfn (.cons rfl .nil)) ?_
  refine rg_q (q_call en159 (.cons rfl (.cons rfl .nil)) rfl (chosen_p g pw (pkR g pw) 160 [.agg (fdC g pw)] en160 (by omega) (fun n hn => isPeak_p g pw n hfk (by omega) (by omega)))) ?_
  refine rg_q (q_assign (x := .d (.sl _ _)) rfl) (rg_q (q_a rfl) ?_)
  refine xc (awp_ret ?_)
  refine ⟨_, xk2, ?_⟩
  rw [hz]; rfl
end Go.Proofs.YtamaocfjknpadaaGreat.Am.M
