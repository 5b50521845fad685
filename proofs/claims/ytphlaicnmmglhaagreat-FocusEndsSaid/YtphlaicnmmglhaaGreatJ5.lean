/- Contracts over the abstract machine, joined. Conditions: none. -/
import Derived.Test.YtphlaicnmmglhaaGreatJ4
set_option linter.unusedVariables false
set_option linter.unusedSimpArgs false
-- mini
namespace Go.Proofs.YtphlaicnmmglhaaGreat.Am.M
open Go

def ssE : Nat → List Nat → Int × Int
  | _, [] => (0, 0)
  | i, b :: r => if sE b ≠ 0 then ((i : Int), sE b) else ssE (i + 1) r
theorem ssE_at {l : List Nat} {k : Nat} {x : Nat} (hx : l[k]? = some x) : ssE k (l.drop k) = if sE x ≠ 0 then ((k : Int), sE x) else ssE (k + 1) (l.drop (k + 1)) := by
  obtain ⟨hlt, rfl⟩ := List.getElem?_eq_some_iff.1 hx
  rw [List.drop_eq_getElem_cons hlt]; rfl
theorem ssE_ok : ∀ {l : List Nat} {i : Nat}, (ssE i l).2 = 0 → ∀ b ∈ l, sE b = 0
  | [], _, _, p, hp => by cases hp
  | q :: l, i, h, p, hp => by
    unfold ssE at h
    by_cases h1 : sE q ≠ 0
    · rw [if_pos h1] at h; exact absurd h h1
    · rw [if_neg h1] at h
      rcases List.mem_cons.1 hp with rfl | hp
      · exact Decidable.not_not.1 h1
      · exact ssE_ok h p hp
def ckM (ne : Int) (l : List Nat) : Int × Int := if inR 1 ne 16 = true then (if (l.length : Int) ≠ ne * ne * 64 then (0, 10) else ssE 0 l) else (0, 2)
def ckT (t : Tsk) : Int × Int :=
  if (ckArr t.ar).2 ≠ 0 then ckArr t.ar
  else if (ckM t.ne t.bf).2 ≠ 0 then (0, (ckM t.ne t.bf).2)
  else if (t.ar.el.length : Int) ≠ t.ne then (0, 13)
  else if ckG t.g ≠ 0 then (0, ckG t.g)
  else (0, whenI (!inR 1 t.g.fz (t.ar.ou.t - 1) || !inR 1 (spI t.g (t.g.co * t.g.ro - 1)).2 (t.ar.ou.t - 1)) 22)
theorem f32_num {b : Nat} {s : Bool} {m : Nat} {e : Int} (hr : Ieee.single.read b = .number s m e) (h0 : sEM (m * 2 ^ (e + KK).toNat) = 0) : Whl b (sgI s (m * 2 ^ (e + KK).toNat / QQ)) := by
  obtain ⟨M, hM⟩ : ∃ M, m * 2 ^ (e + KK).toNat = M := ⟨_, rfl⟩
  have hn := num_of fmS LS hr
  rw [hM] at hn h0 ⊢
  unfold sEM at h0
  by_cases h1 : 16777216 * QQ ≤ M
  · rw [if_pos h1] at h0; cases h0
  rw [if_neg h1] at h0
  by_cases h2 : M % QQ ≠ 0
  · rw [if_pos h2] at h0; cases h0
  rw [if_neg h2] at h0
  by_cases h3 : 2047 * QQ < M
  · rw [if_pos h3] at h0; cases h0
  have hq : M / QQ ≤ 2047 := Nat.div_le_of_le_mul (by rw [Nat.mul_comm]; omega)
  obtain ⟨h4, h5⟩ := sg_le (s := s) _ h1
  obtain ⟨h6, h7⟩ := (in_M (s := s) 2047).2 hq
  refine ⟨h6, h7, ob_self hn, sub_num hn, (ob_geq hn num_hi).trans h4, (ob_leq hn num_lo).trans h5, int_num (k := .f32) hn (by omega), ?_⟩
  have := neq_back fmS LS hr hM
  rw [decide_eq_true (Decidable.not_not.1 h2)] at this
  exact this
theorem sE_whl {b : Nat} (h : sE b = 0) : Whl b (vI b) := by
  unfold sE at h
  cases hr : Ieee.single.read b with
  | nan s t => rw [hr] at h; cases h
  | infinity s => rw [hr] at h; cases h
  | number s m e =>
    rw [hr] at h
    have := f32_num hr h
    rw [this.v]; exact this
theorem ckM_ok {ne : Int} {l : List Nat} (h : (ckM ne l).2 = 0) : 1 ≤ ne ∧ ne ≤ 16 ∧ (l.length : Int) = ne * ne * 64 ∧ WhlL l := by
  unfold ckM at h
  by_cases h1 : inR 1 ne 16 = true
  · rw [if_pos h1] at h
    by_cases h2 : (l.length : Int) ≠ ne * ne * 64
    · rw [if_pos h2] at h; cases h
    · rw [if_neg h2] at h
      obtain ⟨a, b⟩ := inR_iff.1 h1
      exact ⟨a, b, Decidable.not_not.1 h2, fun x hx => sE_whl (ssE_ok h x hx)⟩
  · rw [if_neg h1] at h; cases h
theorem ckT_ok {t : Tsk} (h : (ckT t).2 = 0) : TskOk t := by
  unfold ckT at h
  by_cases h1 : (ckArr t.ar).2 ≠ 0
  · rw [if_pos h1] at h; exact absurd h h1
  rw [if_neg h1] at h
  by_cases h2 : (ckM t.ne t.bf).2 ≠ 0
  · rw [if_pos h2] at h; exact absurd h h2
  rw [if_neg h2] at h
  by_cases h3 : (t.ar.el.length : Int) ≠ t.ne
  · rw [if_pos h3] at h; cases h
  rw [if_neg h3] at h
  by_cases h4 : ckG t.g ≠ 0
  · rw [if_pos h4] at h; exact absurd h h4
  rw [if_neg h4] at h
  simp only at h
  rw [when_zero (by decide), Bool.or_eq_false_iff, Bool.not_eq_false', Bool.not_eq_false'] at h
  obtain ⟨a1, a2, a3, a4⟩ := ckM_ok (Decidable.not_not.1 h2)
  obtain ⟨b1, b2⟩ := inR_iff.1 h.1
  obtain ⟨b3, b4⟩ := inR_iff.1 h.2
  exact ⟨Decidable.not_not.1 h1, a1, a2, a3, a4, Decidable.not_not.1 h3, Decidable.not_not.1 h4, b1, b2, b3, b4⟩
set_option maxRecDepth 100000 in
theorem tsamples5_p (l : List Nat) : PC Tryz.prog 165 [.sl 1 (l.map fC)] (.tup [.v (.int .i64 ((ssE 0 l).1)), .v (.int .i64 ((ssE 0 l).2))]) := by
 refine pc_of_awp Tryz.func165 rfl Tryz.ntmps165 (rs := [.tmp 2, .tmp 3]) Tryz.results165 (by simp) fun w0 => ?_
 refine awp_seq ?_
 refine awp_region 2 mixed (by kernel_rfl) ?_
 refine rg_q (q_a rfl) (rg_q (q_a rfl) ?_)
 refine rn ?_
 change Awp _ _ _ _ _
 refine awp_seq ?_
 refine awp_seq ?_
 refine awp_region 3 mixed (by kernel_rfl) ?_
 refine rg_q (q_move (x := .d (.sl _ _)) rfl) ?_
 refine rg_q (q_len isl29 rfl (by exact len_map _ _)) ?_
 refine rg_q (q_m rfl) ?_
 refine rn ?_
 change Awp _ _ _ _ _
 refine awp_len (t := 7) rfl (fun hl7 => ?_)
 (try simp only [List.length_map] at hl7)
 refine awp_block ?_
 refine awp_loopH [2, 3, 4, 5, 6, 9, 10, 11, 12, 13, 14, 15, 16, 17, 18, 19, 20] [] (α := Nat) (fun k => [(9, T.i (k : Int))]) (fun k => []) (fun k => k ≤ l.length ∧ ssE 0 l = ssE k (l.drop k)) (fun k => l.length - k) 0 ⟨Nat.zero_le _, rfl⟩ ?_ ?_
 · exact le_head (ms := []) (by repeat (exact Out.refl _)) ⟨(by rfl), trivial⟩ trivial rfl rfl rfl rfl
 ·
  intro k ⟨hk, hf⟩
  refine awp_seq ?_
  refine awp_region 1 mixed (by kernel_rfl) ?_
  refine rg_q (q_lss rfl rfl) ?_
  refine rn ?_
  change Awp _ _ _ _ _
  refine awp_seq ?_
  refine awp_cond rfl (fun hc2 => ?_) (fun hc2 => ?_)
  ·
   (try simp only [nb, ne_eq] at hc2)
   have hlt : k < l.length := by omega
   obtain ⟨x, hx⟩ : ∃ x, l[k]? = some x := ⟨_, List.getElem?_eq_getElem hlt⟩
   have hd := ssE_at hx
   refine awp_skip ?_
   change Awp _ _ _ _ _
   refine awp_seq ?_
   refine awp_block ?_
   refine awp_seq ?_
   refine awp_region 5 mixed (by kernel_rfl) ?_
   refine rg_q (q_m rfl) ?_
   refine rg_q (q_indexAddr sl29 rfl rfl (by omega) (map_at (by omega) hx)) ?_
   refine rg_q (q_load sz117 rfl rfl) (rg_q (q_a rfl) (rg_q (q_a rfl) ?_))
   refine rs (awp_region 3 mixed (by kernel_rfl) ?_)
   refine rg_q (q_m rfl) ?_
   refine rg_q (q_call en234 (.cons rfl .nil) rfl (tsampleErr5_p _)) ?_
   refine rg_q (q_a rfl) ?_
   refine rs (awp_region 2 mixed (by kernel_rfl) ?_)
   refine rg_q (q_m rfl) (rg_q (q_neq rfl rfl) ?_)
   refine rn ?_
   change Awp _ _ _ _ _
   refine awp_cond rfl (fun hc5 => ?_) (fun hc5 => ?_)
   ·
    (try simp only [nb, ne_eq] at hc5)
    have hb : sE x ≠ 0 := hc5
    have hz : ssE 0 l = ((k : Int), sE x) := by rw [hf, hd, if_pos hb]
    rw [hz]
    refine awp_seq ?_
    refine awp_region 4 mixed (by kernel_rfl) ?_
    refine rg_q (q_m rfl) (rg_q (q_m rfl) (rg_q (q_a rfl) (rg_q (q_a rfl) ?_)))
    refine rn ?_
    change Awp _ _ _ _ _
    refine awp_ret ?_
    refine ⟨_, (.cons (.tmp (by exact .d _)) (.cons (.tmp (by exact .d _)) .nil)), ?_⟩
    rfl
   ·
    (try simp only [nb, ne_eq] at hc5)
    have hb : sE x = 0 := hc5
    refine awp_skip ?_
    change Awp _ _ _ _ _
    refine awp_region 2 mixed (by kernel_rfl) ?_
    refine rg_q (q_add rfl rfl (In64.mk (by omega) (by omega))) ?_
    refine rg_q (q_m rfl) ?_
    refine rn ?_
    refine ⟨k + 1, ⟨by omega, by rw [hf, hd, if_neg (by rw [hb]; simp)]⟩, by omega, ?_⟩
    exact le_head (ms := []) (by repeat (first | exact Out.head rfl rfl | (refine Out.put ?_ rfl))) ⟨(by rfl), trivial⟩ trivial rfl rfl rfl rfl
  ·
   (try simp only [nb, ne_eq] at hc2)
   have hk0 : ssE 0 l = (0, 0) := by rw [hf, List.drop_of_length_le (by omega)]; rfl
   rw [hk0]
   refine awp_exit ?_
   change Awp _ _ _ _ _
   refine awp_seq ?_
   refine awp_region 2 mixed (by kernel_rfl) ?_
   refine rg_q (q_a rfl) (rg_q (q_a rfl) ?_)
   refine rn ?_
   change Awp _ _ _ _ _
   refine awp_ret ?_
   refine ⟨_, (.cons (.tmp (by exact .d _)) (.cons (.tmp (by exact .d _)) .nil)), ?_⟩
   rfl
set_option maxRecDepth 100000 in
theorem checkMatrix5_p (ne : Int) (l : List Nat) : PC Tryz.prog 86 [.agg [.v (.int .i64 (ne)), .sl 1 (l.map fC)]] (.tup [.v (.int .i64 ((ckM ne l).1)), .v (.int .i64 ((ckM ne l).2))]) := by
 have hu : ckM ne l = if inR 1 ne 16 = true then (if (l.length : Int) ≠ ne * ne * 64 then (0, 10) else ssE 0 l) else (0, 2) := rfl
 refine pc_of_awp Tryz.func86 rfl Tryz.ntmps86 (rs := [.tmp 2, .tmp 3]) Tryz.results86 (by simp) fun w0 => ?_
 refine awp_seq ?_
 refine awp_region 3 mixed (by kernel_rfl) ?_
 refine rg_q (q_box rfl (by exact .inr ⟨_, rfl⟩)) ?_
 refine rg_q (q_a rfl) (rg_q (q_a rfl) ?_)
 refine rn ?_
 change Awp _ _ _ _ _
 refine awp_seq ?_
 refine awp_block ?_
 refine awp_seq ?_
 refine awp_region 5 mixed (by kernel_rfl) ?_
 refine rg_q (q_fieldAddr fld31_0 rfl) (rg_q (q_load sz3 rfl rfl) ?_)
 refine rg_q (q_call en155 (.cons rfl (.cons rfl (.cons rfl .nil))) rfl (twithin_p _ _ _)) ?_
 refine rg_q (q_not rfl) (rg_q (q_a rfl) ?_)
 refine rn ?_
 change Awp _ _ _ _ _
 refine awp_cond rfl (fun hc1 => ?_) (fun hc1 => ?_)
 ·
  (try simp only [nb, ne_eq] at hc1)
  rw [if_neg (by simpa using hc1)] at hu
  rw [hu]
  refine awp_seq ?_
  refine awp_region 2 mixed (by kernel_rfl) ?_
  refine rg_q (q_a rfl) (rg_q (q_a rfl) ?_)
  refine rn ?_
  change Awp _ _ _ _ _
  refine awp_ret ?_
  refine ⟨_, (.cons (.tmp (by exact .d _)) (.cons (.tmp (by exact .d _)) .nil)), ?_⟩
  rfl
 ·
  (try simp only [nb, ne_eq] at hc1)
  have hr1 : inR 1 ne 16 = true := by simpa using hc1
  rw [if_pos hr1] at hu
  obtain ⟨hn1, hn2⟩ := inR_iff.1 hr1
  have hm := mulb (a := ne) (b := ne) (A := 16) (B := 16) (by omega) (by omega) (by omega) (by omega)
  refine awp_seq ?_
  refine awp_region 11 mixed (by kernel_rfl) ?_
  refine rg_q (q_fieldAddr fld31_1 rfl) (rg_q (q_load sz29 rfl rfl) ?_)
  refine rg_q (q_len isl29 rfl (by exact len_map _ _)) ?_
  refine rg_q (q_fieldAddr fld31_0 rfl) (rg_q (q_load sz3 rfl rfl) (rg_q (q_fieldAddr fld31_0 rfl) (rg_q (q_load sz3 rfl rfl) ?_)))
  refine rg_q (q_mul rfl rfl (In64.mk (by omega) (by omega))) ?_
  refine rg_q (q_mul rfl rfl (In64.mk (by omega) (by omega))) ?_
  refine rg_q (q_neq rfl rfl) (rg_q (q_a rfl) ?_)
  refine rn ?_
  change Awp _ _ _ _ _
  refine awp_len (t := 11) rfl (fun hl11 => ?_)
  (try simp only [List.length_map] at hl11)
  refine awp_cond rfl (fun hc3 => ?_) (fun hc3 => ?_)
  ·
   (try simp only [nb, ne_eq] at hc3)
   rw [if_pos (by simpa using hc3)] at hu
   rw [hu]
   refine awp_seq ?_
   refine awp_region 2 mixed (by kernel_rfl) ?_
   refine rg_q (q_a rfl) (rg_q (q_a rfl) ?_)
   refine rn ?_
   change Awp _ _ _ _ _
   refine awp_ret ?_
   refine ⟨_, (.cons (.tmp (by exact .d _)) (.cons (.tmp (by exact .d _)) .nil)), ?_⟩
   rfl
  ·
   (try simp only [nb, ne_eq] at hc3)
   rw [if_neg (by simpa using hc3)] at hu
   rw [hu]
   refine awp_skip ?_
   change Awp _ _ _ _ _
   refine awp_seq ?_
   refine awp_region 7 mixed (by kernel_rfl) ?_
   refine rg_q (q_fieldAddr fld31_1 rfl) (rg_q (q_load sz29 rfl rfl) ?_)
   refine rg_q (q_call en165 (.cons rfl .nil) rfl (tsamples5_p l)) ?_
   refine rg_q (q_extract rfl rfl) (rg_q (q_extract rfl rfl) (rg_q (q_a rfl) (rg_q (q_a rfl) ?_)))
   refine rn ?_
   change Awp _ _ _ _ _
   refine awp_ret ?_
   refine ⟨_, (.cons (.tmp (by exact .d _)) (.cons (.tmp (by exact .d _)) .nil)), ?_⟩
   rfl
set_option maxRecDepth 100000 in
theorem checkTask5_p (t : Tsk) : PC Tryz.prog 20 [.agg (tskC t)] (.tup [.v (.int .i64 ((ckT t).1)), .v (.int .i64 ((ckT t).2))]) := by
 have hu : ckT t = if (ckArr t.ar).2 ≠ 0 then ckArr t.ar
  else if (ckM t.ne t.bf).2 ≠ 0 then (0, (ckM t.ne t.bf).2)
  else if (t.ar.el.length : Int) ≠ t.ne then (0, 13)
  else if ckG t.g ≠ 0 then (0, ckG t.g)
  else (0, whenI (!inR 1 t.g.fz (t.ar.ou.t - 1) || !inR 1 (spI t.g (t.g.co * t.g.ro - 1)).2 (t.ar.ou.t - 1)) 22) := rfl
 refine pc_of_awpN Tryz.func20 rfl Tryz.ntmps20 (rs := [.tmp 2, .tmp 3]) Tryz.results20 (by simp) fun w0 hmine hrnd hpn => ?_
 refine awp_seq ?_
 refine awp_region 3 mixed (by kernel_rfl) ?_
 refine rg_q (q_box rfl (by exact .inr ⟨_, rfl⟩)) ?_
 refine rg_q (q_a rfl) (rg_q (q_a rfl) ?_)
 refine rn ?_
 change Awp _ _ _ _ _
 refine awp_seq ?_
 refine awp_seq ?_
 refine awp_region 8 mixed (by kernel_rfl) ?_
 refine rg_q (q_fieldAddr fld37_0 rfl) ?_
 refine rg_q (q_loadA (ds := [_, _, _, _, _, _, _, _, _, _, _]) sz28 rfl rfl rfl) ?_
 refine rg_q (q_call en85 (.cons rfl .nil) rfl (checkArray_p t.ar)) ?_
 refine rg_q (q_move (x := .d (.tup _)) rfl) (rg_q (q_extract rfl rfl) (rg_q (q_extract rfl rfl) (rg_q (q_a rfl) (rg_q (q_a rfl) ?_))))
 refine rs (awp_region 2 mixed (by kernel_rfl) ?_)
 refine rg_q (q_m rfl) (rg_q (q_neq rfl rfl) ?_)
 refine rn ?_
 change Awp _ _ _ _ _
 refine awp_cond rfl (fun hc2 => ?_) (fun hc2 => ?_)
 ·
  (try simp only [nb, ne_eq] at hc2)
  have h1 : (ckArr t.ar).2 ≠ 0 := hc2
  rw [if_pos h1] at hu
  rw [hu]
  refine awp_seq ?_
  refine awp_region 4 mixed (by kernel_rfl) ?_
  refine rg_q (q_m rfl) (rg_q (q_m rfl) (rg_q (q_a rfl) (rg_q (q_a rfl) ?_)))
  refine rn ?_
  change Awp _ _ _ _ _
  refine awp_ret ?_
  refine ⟨_, (.cons (.tmp (by exact .d _)) (.cons (.tmp (by exact .d _)) .nil)), ?_⟩
  rfl
 ·
  (try simp only [nb, ne_eq] at hc2)
  have h1 : ¬ (ckArr t.ar).2 ≠ 0 := fun q => q hc2
  rw [if_neg h1] at hu
  refine awp_skip ?_
  change Awp _ _ _ _ _
  refine awp_seq ?_
  refine awp_seq ?_
  refine awp_region 8 mixed (by kernel_rfl) ?_
  refine rg_q (q_fieldAddr fld37_1 rfl) ?_
  refine rg_q (q_loadA (ds := [_, _]) sz31 rfl rfl rfl) ?_
  refine rg_q (q_call en86 (.cons rfl .nil) rfl (checkMatrix5_p t.ne t.bf)) ?_
  refine rg_q (q_move (x := .d (.tup _)) rfl) (rg_q (q_extract rfl rfl) (rg_q (q_extract rfl rfl) (rg_q (q_a rfl) (rg_q (q_a rfl) ?_))))
  refine rs (awp_region 2 mixed (by kernel_rfl) ?_)
  refine rg_q (q_m rfl) (rg_q (q_neq rfl rfl) ?_)
  refine rn ?_
  change Awp _ _ _ _ _
  refine awp_cond rfl (fun hc5 => ?_) (fun hc5 => ?_)
  ·
   (try simp only [nb, ne_eq] at hc5)
   have h2 : (ckM t.ne t.bf).2 ≠ 0 := hc5
   rw [if_pos h2] at hu
   rw [hu]
   refine awp_seq ?_
   refine awp_region 3 mixed (by kernel_rfl) ?_
   refine rg_q (q_m rfl) (rg_q (q_a rfl) (rg_q (q_a rfl) ?_))
   refine rn ?_
   change Awp _ _ _ _ _
   refine awp_ret ?_
   refine ⟨_, (.cons (.tmp (by exact .d _)) (.cons (.tmp (by exact .d _)) .nil)), ?_⟩
   rfl
  ·
   (try simp only [nb, ne_eq] at hc5)
   have h2 : ¬ (ckM t.ne t.bf).2 ≠ 0 := fun q => q hc5
   rw [if_neg h2] at hu
   refine awp_skip ?_
   change Awp _ _ _ _ _
   refine awp_seq ?_
   refine awp_seq ?_
   refine awp_region 8 mixed (by kernel_rfl) ?_
   refine rg_q (q_fieldAddr fld37_0 rfl) (rg_q (q_fieldAddr fld28_0 rfl) (rg_q (q_load sz22 rfl rfl) ?_))
   refine rg_q (q_len isl22 rfl (by exact len_map _ _)) ?_
   refine rg_q (q_fieldAddr fld37_1 rfl) (rg_q (q_fieldAddr fld31_0 rfl) (rg_q (q_load sz3 rfl rfl) (rg_q (q_neq rfl rfl) ?_)))
   refine rn ?_
   change Awp _ _ _ _ _
   refine awp_len (t := 32) rfl (fun hl32 => ?_)
   (try simp only [List.length_map] at hl32)
   refine awp_cond rfl (fun hc7 => ?_) (fun hc7 => ?_)
   ·
    (try simp only [nb, ne_eq] at hc7)
    have h3 : (t.ar.el.length : Int) ≠ t.ne := by simpa using hc7
    rw [if_pos h3] at hu
    rw [hu]
    refine awp_seq ?_
    refine awp_region 2 mixed (by kernel_rfl) ?_
    refine rg_q (q_a rfl) (rg_q (q_a rfl) ?_)
    refine rn ?_
    change Awp _ _ _ _ _
    refine awp_ret ?_
    refine ⟨_, (.cons (.tmp (by exact .d _)) (.cons (.tmp (by exact .d _)) .nil)), ?_⟩
    rfl
   ·
    (try simp only [nb, ne_eq] at hc7)
    have h3 : ¬ (t.ar.el.length : Int) ≠ t.ne := by simpa using hc7
    rw [if_neg h3] at hu
    refine awp_skip ?_
    change Awp _ _ _ _ _
    refine awp_seq ?_
    refine awp_seq ?_
    refine awp_region 4 mixed (by kernel_rfl) ?_
    refine rg_q (q_fieldAddr fld37_2 rfl) ?_
    refine rg_q (q_loadA (ds := [_, _, _, _, _]) sz35 rfl rfl rfl) ?_
    refine rg_q (q_call en87 (.cons rfl .nil) rfl (fcheckGrid_p t.g)) ?_
    refine rg_q (q_a rfl) ?_
    refine rs (awp_region 2 mixed (by kernel_rfl) ?_)
    refine rg_q (q_m rfl) (rg_q (q_neq rfl rfl) ?_)
    refine rn ?_
    change Awp _ _ _ _ _
    refine awp_cond rfl (fun hc10 => ?_) (fun hc10 => ?_)
    ·
     (try simp only [nb, ne_eq] at hc10)
     have h4 : ckG t.g ≠ 0 := hc10
     rw [if_pos h4] at hu
     rw [hu]
     refine awp_seq ?_
     refine awp_region 3 mixed (by kernel_rfl) ?_
     refine rg_q (q_m rfl) (rg_q (q_a rfl) (rg_q (q_a rfl) ?_))
     refine rn ?_
     change Awp _ _ _ _ _
     refine awp_ret ?_
     refine ⟨_, (.cons (.tmp (by exact .d _)) (.cons (.tmp (by exact .d _)) .nil)), ?_⟩
     rfl
    ·
     (try simp only [nb, ne_eq] at hc10)
     have h4 : ¬ ckG t.g ≠ 0 := fun q => q hc10
     rw [if_neg h4] at hu
     obtain ⟨hao, _⟩ := ckArr_ok (Decidable.not_not.1 h1)
     have ht1 := hao.ou.t1
     have ht2 := hao.ou.t2
     obtain ⟨hg, hg1, hg2⟩ := ckG_ok (Decidable.not_not.1 h4)
     have hci := cells_in hg
     refine awp_skip ?_
     change Awp _ _ _ _ _
     refine awp_seq ?_
     refine awp_region 3 mixed (by kernel_rfl) ?_
     refine rg_q (q_fieldAddr fld37_2 rfl) ?_
     refine rg_q (q_loadA (ds := [_, _, _, _, _]) sz35 rfl rfl rfl) ?_
     refine rg_q (q_build (cs := [_, _, _, _, _]) pl150 zr150 rfl (.cons rfl (by exact .inr ⟨_, rfl⟩) .nil) ⟨⟨rfl, by decide⟩, trivial⟩ rfl) ?_
     refine rg_nil ?_
     refine aops_allocD zr150 rfl sz150 rfl rfl (by exact .inr ⟨_, rfl⟩) rfl rfl ?_
     refine aops_nil ?_
     change Awp _ _ _ _ _
     refine awp_seq ?_
     refine awp_region 5 mixed (by kernel_rfl) ?_
     refine rg_q (q_fieldAddr fld37_0 rfl) (rg_q (q_fieldAddr fld28_1 rfl) (rg_q (q_fieldAddr fld24_3 rfl) (rg_q (q_load sz3 rfl rfl) (rg_q (q_a rfl) ?_))))
     refine rs (awp_region 23 mixed (by kernel_rfl) ?_)
     refine rg_q (q_fieldAddr fld37_2 rfl) (rg_q (q_fieldAddr fld35_0 rfl) (rg_q (q_fieldAddr fld33_1 rfl) (rg_q (q_load sz3 rfl rfl) (rg_q (q_m rfl) ?_))))
     refine rg_q (q_sub rfl rfl (In64.mk (by omega) (by omega))) ?_
     refine rg_q (q_call en89 (.cons rfl (.cons rfl (.cons rfl .nil))) rfl (fwithin_p _ _ _)) ?_
     refine rg_q (q_not rfl) (rg_q (q_m rfl) ?_)
     refine rg_g rfl rfl (fun hG => (q_loadA (ds := [_, _, _, _, _]) sz150 rfl rfl rfl)) ?_
     refine rg_g rfl rfl (fun hG => (q_loadA (ds := [_, _, _, _, _]) sz150 rfl rfl rfl)) ?_
     refine rg_g rfl rfl (fun hG => (q_call en91 (.cons rfl .nil) rfl (fcells_p _ (by assumption)))) ?_
     refine rg_g rfl rfl (fun hG => (q_sub rfl rfl (In64.mk (by (have hg0 := T.bool_inj (a := _) hG.1; (try simp only [nb, ne_eq] at hg0); omega)) (by (have hg0 := T.bool_inj (a := _) hG.1; (try simp only [nb, ne_eq] at hg0); omega))))) ?_
     refine rg_g rfl rfl (fun hG => (q_call en90 (.cons rfl (.cons rfl .nil)) rfl (fspot_p _ _ (by assumption) (by omega) (by omega)))) ?_
     refine rg_g rfl rfl (fun hG => (q_field fd33_1 sz3 rfl rfl)) ?_
     refine rg_g rfl rfl (fun hG => (q_m rfl)) ?_
     refine rg_g rfl rfl (fun hG => (q_sub rfl rfl (In64.mk (by (have hg0 := T.bool_inj (a := _) hG.1; (try simp only [nb, ne_eq] at hg0); omega)) (by (have hg0 := T.bool_inj (a := _) hG.1; (try simp only [nb, ne_eq] at hg0); omega))))) ?_
     refine rg_g rfl rfl (fun hG => (q_call en89 (.cons rfl (.cons rfl (.cons rfl .nil))) rfl (fwithin_p _ _ _))) ?_
     refine rg_g rfl rfl (fun hG => (q_not rfl)) ?_
     refine rg_pick rfl rfl rfl rfl rfl rfl ?_
     refine rg_q (q_call en88 (.cons rfl (.cons rfl .nil)) rfl (fwhen_p _ _)) ?_
     refine rg_q (q_a rfl) (rg_q (q_a rfl) ?_)
     refine rn ?_
     change Awp _ _ _ _ _
     refine awp_ret ?_
     refine ⟨_, (.cons (.tmp (by exact .d _)) (.cons (.tmp (by exact .d _)) .nil)), ?_⟩
     rw [hu]; (try simp only [bif_or]); rfl
end Go.Proofs.YtphlaicnmmglhaaGreat.Am.M
-- mini
namespace Go.Proofs.YtphlaicnmmglhaaGreat.Am.M
open Go

theorem lt_q {M Q : Nat} (hQ : 0 < Q) (h : 16777216 * Q ≤ M) : 2047 * Q < M := by omega
theorem nan_of {b : Nat} {s : Bool} {t : Nat} (h : Ieee.single.read b = .nan s t) : (FloatKind.f32.decode b).isNaN = true := by
  have e : FloatKind.f32.decode b = Ieee.single.read b := rfl
  rw [e, h]; rfl
set_option maxRecDepth 100000 in
theorem rsampleN_p (b : Nat) (h : (FloatKind.f32.decode b).isNaN = true) : PC Tryz.prog 235 [fd b] (.v (.int .i64 (25))) := by
 refine pc_of_awp Tryz.func235 rfl Tryz.ntmps235 (rs := [.tmp 2]) Tryz.results235 (by simp) fun w0 => ?_
 refine awp_seq ?_
 refine awp_region 1 mixed (by kernel_rfl) ?_
 refine rg_q (q_a rfl) ?_
 refine rn ?_
 change Awp _ _ _ _ _
 refine awp_seq ?_
 refine awp_seq ?_
 refine awp_region 4 mixed (by kernel_rfl) ?_
 refine rg_q (q_m rfl) ?_
 refine rg_q (q_convffN flt117 flt167 (by decide) rfl h) ?_
 refine rg_q (q_call en194 (.cons rfl .nil) rfl (isWholeN_p)) ?_
 refine rg_q (q_not rfl) ?_
 refine rn ?_
 change Awp _ _ _ _ _
 refine awp_cond rfl (fun hc1 => ?_) (fun hc1 => ?_)
 ·
  (try simp only [nb, ne_eq] at hc1)
  refine awp_seq ?_
  refine awp_region 1 mixed (by kernel_rfl) ?_
  refine rg_q (q_a rfl) ?_
  refine rn ?_
  change Awp _ _ _ _ _
  refine awp_ret ?_
  refine ⟨_, (.cons (.tmp (by exact .d _)) .nil), ?_⟩
  rfl
 ·
  simp at hc1
set_option maxRecDepth 100000 in
theorem rsampleB_p (b b' : Nat) (w c1 c2 : Bool) (hc : floatToFloatBits .f32 b .f64 = some b') (hw : whD b' = w) (h1 : ordB .lss (FloatKind.f32.format.order b 3305103360) = c1) (h2 : ordB .gtr (FloatKind.f32.format.order b 1157619712) = c2) : PC Tryz.prog 235 [fd b] (.v (.int .i64 (if w = true then (if (c1 || c2) = true then 2 else 0) else 25))) := by
 refine pc_of_awp Tryz.func235 rfl Tryz.ntmps235 (rs := [.tmp 2]) Tryz.results235 (by simp) fun w0 => ?_
 refine awp_seq ?_
 refine awp_region 1 mixed (by kernel_rfl) ?_
 refine rg_q (q_a rfl) ?_
 refine rn ?_
 change Awp _ _ _ _ _
 refine awp_seq ?_
 refine awp_seq ?_
 refine awp_region 4 mixed (by kernel_rfl) ?_
 refine rg_q (q_m rfl) ?_
 refine rg_q (q_convff flt117 flt167 rfl hc) ?_
 refine rg_q (q_call en194 (.cons rfl .nil) rfl ((by have h := isWhole_p b'; rw [hw] at h; exact h))) ?_
 refine rg_q (q_not rfl) ?_
 refine rn ?_
 change Awp _ _ _ _ _
 refine awp_cond rfl (fun hc1 => ?_) (fun hc1 => ?_)
 ·
  (try simp only [nb, ne_eq] at hc1)
  rw [if_neg (by rw [hc1]; decide)]
  refine awp_seq ?_
  refine awp_region 1 mixed (by kernel_rfl) ?_
  refine rg_q (q_a rfl) ?_
  refine rn ?_
  change Awp _ _ _ _ _
  refine awp_ret ?_
  refine ⟨_, (.cons (.tmp (by exact .d _)) .nil), ?_⟩
  rfl
 ·
  (try simp only [nb, ne_eq] at hc1)
  rw [if_pos hc1]
  refine awp_skip ?_
  change Awp _ _ _ _ _
  refine awp_seq ?_
  refine awp_seq ?_
  refine awp_region 6 mixed (by kernel_rfl) ?_
  refine rg_q (q_m rfl) ?_
  refine rg_q (q_fcmp (by decide) rfl rfl h1) ?_
  refine rg_q (q_m rfl) ?_
  refine rg_g rfl rfl (fun hG => (q_m rfl)) ?_
  refine rg_g rfl rfl (fun hG => (q_fcmp (by decide) rfl rfl h2)) ?_
  refine rg_pick rfl rfl rfl rfl rfl rfl ?_
  refine rn ?_
  change Awp _ _ _ _ _
  refine awp_cond rfl (fun hc3 => ?_) (fun hc3 => ?_)
  ·
   (try simp only [nb, ne_eq] at hc3)
   rw [if_pos (show (c1 || c2) = true by simpa using hc3)]
   refine awp_seq ?_
   refine awp_region 1 mixed (by kernel_rfl) ?_
   refine rg_q (q_a rfl) ?_
   refine rn ?_
   change Awp _ _ _ _ _
   refine awp_ret ?_
   refine ⟨_, (.cons (.tmp (by exact .d _)) .nil), ?_⟩
   rfl
  ·
   (try simp only [nb, ne_eq] at hc3)
   rw [if_neg (show ¬ (c1 || c2) = true by simpa using hc3)]
   refine awp_skip ?_
   change Awp _ _ _ _ _
   refine awp_seq ?_
   refine awp_region 1 mixed (by kernel_rfl) ?_
   refine rg_q (q_a rfl) ?_
   refine rn ?_
   change Awp _ _ _ _ _
   refine awp_ret ?_
   refine ⟨_, (.cons (.tmp (by exact .d _)) .nil), ?_⟩
   rfl

theorem out_M {s : Bool} {M : Nat} (K : Nat) : (decide (sgI s M < sgI true K) || decide (sgI false K < sgI s M)) = decide (K < M) := by
  rw [← Bool.decide_or]
  refine decide_eq_decide.2 ?_
  unfold sgI
  cases s <;> simp <;> omega
theorem rsampleErr5_p (b : Nat) : PC Tryz.prog 235 [fd b] (.v (.int .i64 (sE b))) := by
  cases hr : Ieee.single.read b with
  | nan s t =>
    have e : sE b = 25 := by unfold sE; rw [hr]
    rw [e]
    exact rsampleN_p b (nan_of hr)
  | infinity s =>
    have e : sE b = 25 := by unfold sE; rw [hr]
    rw [e]
    obtain ⟨b', h1, h2⟩ := wide_inf hr
    exact rsampleB_p b b' false _ _ h1 (by unfold whD; rw [h2]) rfl rfl
  | number s m e =>
    obtain ⟨M, hM⟩ : ∃ M, m * 2 ^ (e + KK).toNat = M := ⟨_, rfl⟩
    have hn := num_of fmS LS hr
    rw [hM] at hn
    have e1 : sE b = sEM M := by unfold sE; rw [hr]; simp only [hM]
    rw [e1]
    obtain ⟨b', h1, m', e', h2, h3⟩ := wide_num hr
    have h := rsampleB_p b b' (decide (M % QQ = 0)) _ _ h1 (by unfold whD; rw [h2]; simp only [h3, hM]) (ob_lss hn num_m2047) (ob_gtr hn num_2047)
    rw [out_M] at h
    have e2 : (if decide (M % QQ = 0) = true then (if decide (2047 * QQ < M) = true then (2 : Int) else 0) else 25) = sEM M := by
      unfold sEM
      by_cases h4 : M % QQ = 0
      · rw [if_pos (decide_eq_true h4), if_neg (c := M % QQ ≠ 0) (fun q => q h4)]
        by_cases h5 : 16777216 * QQ ≤ M
        · have h6 : decide (2047 * QQ < M) = true := by
            revert h5
            have hq := QQ_pos
            generalize QQ = q at hq ⊢
            exact fun h5 => decide_eq_true (lt_q hq h5)
          rw [if_pos h5, if_pos (show decide (2047 * QQ < M) = true from h6)]
        · rw [if_neg h5]
          by_cases h6 : 2047 * QQ < M
          · rw [if_pos (decide_eq_true h6), if_pos h6]
          · rw [if_neg (by rw [decide_eq_false h6]; decide), if_neg h6]
      · have h5 : ¬ 16777216 * QQ ≤ M := fun q => h4 (big_whole fmS hr hM (Nat.le_trans (Nat.mul_le_mul_right QQ (show 2 ^ (23 + 1) ≤ 16777216 by decide)) q))
        rw [if_neg (by rw [decide_eq_false h4]; decide), if_neg h5, if_pos (c := M % QQ ≠ 0) h4]
    rw [e2] at h
    exact h
set_option maxRecDepth 100000 in
theorem rsamples5_p (l : List Nat) : PC Tryz.prog 169 [.sl 1 (l.map fC)] (.tup [.v (.int .i64 ((ssE 0 l).1)), .v (.int .i64 ((ssE 0 l).2))]) := by
 refine pc_of_awp Tryz.func169 rfl Tryz.ntmps169 (rs := [.tmp 2, .tmp 3]) Tryz.results169 (by simp) fun w0 => ?_
 refine awp_seq ?_
 refine awp_region 2 mixed (by kernel_rfl) ?_
 refine rg_q (q_a rfl) (rg_q (q_a rfl) ?_)
 refine rn ?_
 change Awp _ _ _ _ _
 refine awp_seq ?_
 refine awp_seq ?_
 refine awp_region 1 mixed (by kernel_rfl) ?_
 refine rg_q (q_a rfl) ?_
 refine rn ?_
 change Awp _ _ _ _ _
 refine awp_block ?_
 refine awp_loopH [2, 3, 4, 5, 6, 7, 8, 9, 10, 11, 12, 13, 14, 15, 16, 17, 18, 19, 20] [] (α := Nat) (fun k => [(4, T.i (k : Int))]) (fun k => []) (fun k => k ≤ l.length ∧ ssE 0 l = ssE k (l.drop k)) (fun k => l.length - k) 0 ⟨Nat.zero_le _, rfl⟩ ?_ ?_
 · exact le_head (ms := []) (by repeat (exact Out.refl _)) ⟨(by rfl), trivial⟩ trivial rfl rfl rfl rfl
 ·
  intro k ⟨hk, hf⟩
  refine awp_seq ?_
  refine awp_seq ?_
  refine awp_region 4 mixed (by kernel_rfl) ?_
  refine rg_q (q_m rfl) (rg_q (q_move (x := .d (.sl _ _)) rfl) ?_)
  refine rg_q (q_len isl29 rfl (by exact len_map _ _)) ?_
  refine rg_q (q_lss rfl rfl) ?_
  refine rn ?_
  change Awp _ _ _ _ _
  refine awp_len (t := 7) rfl (fun hl7 => ?_)
  (try simp only [List.length_map] at hl7)
  refine awp_cond rfl (fun hc2 => ?_) (fun hc2 => ?_)
  ·
   (try simp only [nb, ne_eq] at hc2)
   have hlt : k < l.length := by omega
   obtain ⟨x, hx⟩ : ∃ x, l[k]? = some x := ⟨_, List.getElem?_eq_getElem hlt⟩
   have hd := ssE_at hx
   refine awp_skip ?_
   change Awp _ _ _ _ _
   refine awp_seq ?_
   refine awp_block ?_
   refine awp_seq ?_
   refine awp_region 6 mixed (by kernel_rfl) ?_
   refine rg_q (q_move (x := .d (.sl _ _)) rfl) (rg_q (q_m rfl) ?_)
   refine rg_q (q_indexAddr sl29 rfl rfl (by omega) (map_at (by omega) hx)) ?_
   refine rg_q (q_load sz117 rfl rfl) ?_
   refine rg_q (q_call en235 (.cons rfl .nil) rfl (rsampleErr5_p _)) ?_
   refine rg_q (q_a rfl) ?_
   refine rs (awp_region 2 mixed (by kernel_rfl) ?_)
   refine rg_q (q_m rfl) (rg_q (q_neq rfl rfl) ?_)
   refine rn ?_
   change Awp _ _ _ _ _
   refine awp_cond rfl (fun hc5 => ?_) (fun hc5 => ?_)
   ·
    (try simp only [nb, ne_eq] at hc5)
    have hb : sE x ≠ 0 := hc5
    have hz : ssE 0 l = ((k : Int), sE x) := by rw [hf, hd, if_pos hb]
    rw [hz]
    refine awp_seq ?_
    refine awp_region 4 mixed (by kernel_rfl) ?_
    refine rg_q (q_m rfl) (rg_q (q_m rfl) (rg_q (q_a rfl) (rg_q (q_a rfl) ?_)))
    refine rn ?_
    change Awp _ _ _ _ _
    refine awp_ret ?_
    refine ⟨_, (.cons (.tmp (by exact .d _)) (.cons (.tmp (by exact .d _)) .nil)), ?_⟩
    rfl
   ·
    (try simp only [nb, ne_eq] at hc5)
    have hb : sE x = 0 := hc5
    refine awp_skip ?_
    change Awp _ _ _ _ _
    refine awp_region 3 mixed (by kernel_rfl) ?_
    refine rg_q (q_m rfl) ?_
    refine rg_q (q_add rfl rfl (In64.mk (by omega) (by omega))) ?_
    refine rg_q (q_a rfl) ?_
    refine rn ?_
    refine ⟨k + 1, ⟨by omega, by rw [hf, hd, if_neg (by rw [hb]; simp)]⟩, by omega, ?_⟩
    exact le_head (ms := []) (by repeat (first | exact Out.head rfl rfl | (refine Out.put ?_ rfl))) ⟨(by rfl), trivial⟩ trivial rfl rfl rfl rfl
  ·
   (try simp only [nb, ne_eq] at hc2)
   have hk0 : ssE 0 l = (0, 0) := by rw [hf, List.drop_of_length_le (by omega)]; rfl
   rw [hk0]
   refine awp_exit ?_
   change Awp _ _ _ _ _
   refine awp_seq ?_
   refine awp_region 2 mixed (by kernel_rfl) ?_
   refine rg_q (q_a rfl) (rg_q (q_a rfl) ?_)
   refine rn ?_
   change Awp _ _ _ _ _
   refine awp_ret ?_
   refine ⟨_, (.cons (.tmp (by exact .d _)) (.cons (.tmp (by exact .d _)) .nil)), ?_⟩
   rfl
set_option maxRecDepth 100000 in
theorem rcheckMatrix5_p (ne : Int) (l : List Nat) : PC Tryz.prog 93 [.agg [.v (.int .i64 (ne)), .sl 1 (l.map fC)]] (.tup [.v (.int .i64 ((ckM ne l).1)), .v (.int .i64 ((ckM ne l).2))]) := by
 have hu : ckM ne l = if inR 1 ne 16 = true then (if (l.length : Int) ≠ ne * ne * 64 then (0, 10) else ssE 0 l) else (0, 2) := rfl
 refine pc_of_awp Tryz.func93 rfl Tryz.ntmps93 (rs := [.tmp 2, .tmp 3]) Tryz.results93 (by simp) fun w0 => ?_
 refine awp_seq ?_
 refine awp_region 3 mixed (by kernel_rfl) ?_
 refine rg_q (q_box rfl (by exact .inr ⟨_, rfl⟩)) ?_
 refine rg_q (q_a rfl) (rg_q (q_a rfl) ?_)
 refine rn ?_
 change Awp _ _ _ _ _
 refine awp_seq ?_
 refine awp_seq ?_
 refine awp_region 4 mixed (by kernel_rfl) ?_
 refine rg_q (q_fieldAddr fld31_0 rfl) (rg_q (q_load sz3 rfl rfl) ?_)
 refine rg_q (q_call en31 (.cons rfl (.cons rfl (.cons rfl .nil))) rfl (within4_p _ _ _)) ?_
 refine rg_q (q_not rfl) ?_
 refine rn ?_
 change Awp _ _ _ _ _
 refine awp_cond rfl (fun hc1 => ?_) (fun hc1 => ?_)
 ·
  (try simp only [nb, ne_eq] at hc1)
  rw [if_neg (by simpa using hc1)] at hu
  rw [hu]
  refine awp_seq ?_
  refine awp_region 2 mixed (by kernel_rfl) ?_
  refine rg_q (q_a rfl) (rg_q (q_a rfl) ?_)
  refine rn ?_
  change Awp _ _ _ _ _
  refine awp_ret ?_
  refine ⟨_, (.cons (.tmp (by exact .d _)) (.cons (.tmp (by exact .d _)) .nil)), ?_⟩
  rfl
 ·
  (try simp only [nb, ne_eq] at hc1)
  have hr1 : inR 1 ne 16 = true := by simpa using hc1
  rw [if_pos hr1] at hu
  obtain ⟨hn1, hn2⟩ := inR_iff.1 hr1
  have hm := mulb (a := ne) (b := ne) (A := 16) (B := 16) (by omega) (by omega) (by omega) (by omega)
  refine awp_skip ?_
  change Awp _ _ _ _ _
  refine awp_seq ?_
  refine awp_seq ?_
  refine awp_region 10 mixed (by kernel_rfl) ?_
  refine rg_q (q_fieldAddr fld31_1 rfl) (rg_q (q_load sz29 rfl rfl) ?_)
  refine rg_q (q_len isl29 rfl (by exact len_map _ _)) ?_
  refine rg_q (q_fieldAddr fld31_0 rfl) (rg_q (q_load sz3 rfl rfl) (rg_q (q_fieldAddr fld31_0 rfl) (rg_q (q_load sz3 rfl rfl) ?_)))
  refine rg_q (q_mul rfl rfl (In64.mk (by omega) (by omega))) ?_
  refine rg_q (q_mul rfl rfl (In64.mk (by omega) (by omega))) ?_
  refine rg_q (q_neq rfl rfl) ?_
  refine rn ?_
  change Awp _ _ _ _ _
  refine awp_len (t := 9) rfl (fun hl9 => ?_)
  (try simp only [List.length_map] at hl9)
  refine awp_cond rfl (fun hc3 => ?_) (fun hc3 => ?_)
  ·
   (try simp only [nb, ne_eq] at hc3)
   rw [if_pos (by simpa using hc3)] at hu
   rw [hu]
   refine awp_seq ?_
   refine awp_region 2 mixed (by kernel_rfl) ?_
   refine rg_q (q_a rfl) (rg_q (q_a rfl) ?_)
   refine rn ?_
   change Awp _ _ _ _ _
   refine awp_ret ?_
   refine ⟨_, (.cons (.tmp (by exact .d _)) (.cons (.tmp (by exact .d _)) .nil)), ?_⟩
   rfl
  ·
   (try simp only [nb, ne_eq] at hc3)
   rw [if_neg (by simpa using hc3)] at hu
   rw [hu]
   refine awp_skip ?_
   change Awp _ _ _ _ _
   refine awp_seq ?_
   refine awp_region 7 mixed (by kernel_rfl) ?_
   refine rg_q (q_fieldAddr fld31_1 rfl) (rg_q (q_load sz29 rfl rfl) ?_)
   refine rg_q (q_call en169 (.cons rfl .nil) rfl (rsamples5_p l)) ?_
   refine rg_q (q_extract rfl rfl) (rg_q (q_extract rfl rfl) (rg_q (q_a rfl) (rg_q (q_a rfl) ?_)))
   refine rn ?_
   change Awp _ _ _ _ _
   refine awp_ret ?_
   refine ⟨_, (.cons (.tmp (by exact .d _)) (.cons (.tmp (by exact .d _)) .nil)), ?_⟩
   rfl

def brkB (g : Grd) (th : Int) : Bool := !inR 1 g.fz (th - 1) || !inR 1 (spI g (g.co * g.ro - 1)).2 (th - 1)
theorem brk_is {g : Grd} (hg : GrdOk g) {th : Int} : brkB g th = true ↔ (g.fz < 1 ∨ th - 1 < (spI g (g.co * g.ro - 1)).2) := by
  unfold brkB
  rw [sp_last hg]
  have h1 := hg.r1
  have h2 := hg.s1
  have h3 := Int.mul_nonneg (show 0 ≤ g.ro - 1 by omega) (show 0 ≤ g.st by omega)
  simp only [inR, Bool.or_eq_true, Bool.not_eq_true', Bool.and_eq_false_iff, decide_eq_false_iff_not]
  omega
set_option maxRecDepth 100000 in
theorem rcheckTask_p (t : Tsk) : PC Tryz.prog 22 [.agg (tskC t)] (.tup [.v (.int .i64 ((ckT t).1)), .v (.int .i64 ((ckT t).2))]) := by
 have hu : ckT t = if (ckArr t.ar).2 ≠ 0 then ckArr t.ar
  else if (ckM t.ne t.bf).2 ≠ 0 then (0, (ckM t.ne t.bf).2)
  else if (t.ar.el.length : Int) ≠ t.ne then (0, 13)
  else if ckG t.g ≠ 0 then (0, ckG t.g)
  else (0, whenI (!inR 1 t.g.fz (t.ar.ou.t - 1) || !inR 1 (spI t.g (t.g.co * t.g.ro - 1)).2 (t.ar.ou.t - 1)) 22) := rfl
 refine pc_of_awpN Tryz.func22 rfl Tryz.ntmps22 (rs := [.tmp 2, .tmp 3]) Tryz.results22 (by simp) fun w0 hmine hrnd hpn => ?_
 refine awp_seq ?_
 refine awp_region 3 mixed (by kernel_rfl) ?_
 refine rg_q (q_box rfl (by exact .inr ⟨_, rfl⟩)) ?_
 refine rg_q (q_a rfl) (rg_q (q_a rfl) ?_)
 refine rn ?_
 change Awp _ _ _ _ _
 refine awp_seq ?_
 refine awp_seq ?_
 refine awp_region 8 mixed (by kernel_rfl) ?_
 refine rg_q (q_fieldAddr fld37_0 rfl) ?_
 refine rg_q (q_loadA (ds := [_, _, _, _, _, _, _, _, _, _, _]) sz28 rfl rfl rfl) ?_
 refine rg_q (q_call en92 (.cons rfl .nil) rfl (rcheckArr_p t.ar)) ?_
 refine rg_q (q_move (x := .d (.tup _)) rfl) (rg_q (q_extract rfl rfl) (rg_q (q_extract rfl rfl) (rg_q (q_a rfl) (rg_q (q_a rfl) ?_))))
 refine rs (awp_region 2 mixed (by kernel_rfl) ?_)
 refine rg_q (q_m rfl) (rg_q (q_neq rfl rfl) ?_)
 refine rn ?_
 change Awp _ _ _ _ _
 refine awp_cond rfl (fun hc2 => ?_) (fun hc2 => ?_)
 ·
  (try simp only [nb, ne_eq] at hc2)
  have h1 : (ckArr t.ar).2 ≠ 0 := hc2
  rw [if_pos h1] at hu
  rw [hu]
  refine awp_seq ?_
  refine awp_region 4 mixed (by kernel_rfl) ?_
  refine rg_q (q_m rfl) (rg_q (q_m rfl) (rg_q (q_a rfl) (rg_q (q_a rfl) ?_)))
  refine rn ?_
  change Awp _ _ _ _ _
  refine awp_ret ?_
  refine ⟨_, (.cons (.tmp (by exact .d _)) (.cons (.tmp (by exact .d _)) .nil)), ?_⟩
  rfl
 ·
  (try simp only [nb, ne_eq] at hc2)
  have h1 : ¬ (ckArr t.ar).2 ≠ 0 := fun q => q hc2
  rw [if_neg h1] at hu
  refine awp_skip ?_
  change Awp _ _ _ _ _
  refine awp_seq ?_
  refine awp_seq ?_
  refine awp_region 8 mixed (by kernel_rfl) ?_
  refine rg_q (q_fieldAddr fld37_1 rfl) ?_
  refine rg_q (q_loadA (ds := [_, _]) sz31 rfl rfl rfl) ?_
  refine rg_q (q_call en93 (.cons rfl .nil) rfl (rcheckMatrix5_p t.ne t.bf)) ?_
  refine rg_q (q_move (x := .d (.tup _)) rfl) (rg_q (q_extract rfl rfl) (rg_q (q_extract rfl rfl) (rg_q (q_a rfl) (rg_q (q_a rfl) ?_))))
  refine rs (awp_region 2 mixed (by kernel_rfl) ?_)
  refine rg_q (q_m rfl) (rg_q (q_neq rfl rfl) ?_)
  refine rn ?_
  change Awp _ _ _ _ _
  refine awp_cond rfl (fun hc5 => ?_) (fun hc5 => ?_)
  ·
   (try simp only [nb, ne_eq] at hc5)
   have h2 : (ckM t.ne t.bf).2 ≠ 0 := hc5
   rw [if_pos h2] at hu
   rw [hu]
   refine awp_seq ?_
   refine awp_region 3 mixed (by kernel_rfl) ?_
   refine rg_q (q_m rfl) (rg_q (q_a rfl) (rg_q (q_a rfl) ?_))
   refine rn ?_
   change Awp _ _ _ _ _
   refine awp_ret ?_
   refine ⟨_, (.cons (.tmp (by exact .d _)) (.cons (.tmp (by exact .d _)) .nil)), ?_⟩
   rfl
  ·
   (try simp only [nb, ne_eq] at hc5)
   have h2 : ¬ (ckM t.ne t.bf).2 ≠ 0 := fun q => q hc5
   rw [if_neg h2] at hu
   refine awp_skip ?_
   change Awp _ _ _ _ _
   refine awp_seq ?_
   refine awp_seq ?_
   refine awp_region 8 mixed (by kernel_rfl) ?_
   refine rg_q (q_fieldAddr fld37_1 rfl) (rg_q (q_fieldAddr fld31_0 rfl) (rg_q (q_load sz3 rfl rfl) (rg_q (q_fieldAddr fld37_0 rfl) (rg_q (q_fieldAddr fld28_0 rfl) (rg_q (q_load sz22 rfl rfl) ?_)))))
   refine rg_q (q_len isl22 rfl (by exact len_map _ _)) ?_
   refine rg_q (q_neq rfl rfl) ?_
   refine rn ?_
   change Awp _ _ _ _ _
   refine awp_len (t := 33) rfl (fun hl33 => ?_)
   (try simp only [List.length_map] at hl33)
   refine awp_cond rfl (fun hc7 => ?_) (fun hc7 => ?_)
   ·
    (try simp only [nb, ne_eq] at hc7)
    have h3 : (t.ar.el.length : Int) ≠ t.ne := by omega
    rw [if_pos h3] at hu
    rw [hu]
    refine awp_seq ?_
    refine awp_region 2 mixed (by kernel_rfl) ?_
    refine rg_q (q_a rfl) (rg_q (q_a rfl) ?_)
    refine rn ?_
    change Awp _ _ _ _ _
    refine awp_ret ?_
    refine ⟨_, (.cons (.tmp (by exact .d _)) (.cons (.tmp (by exact .d _)) .nil)), ?_⟩
    rfl
   ·
    (try simp only [nb, ne_eq] at hc7)
    have h3 : ¬ (t.ar.el.length : Int) ≠ t.ne := by omega
    rw [if_neg h3] at hu
    refine awp_skip ?_
    change Awp _ _ _ _ _
    refine awp_seq ?_
    refine awp_seq ?_
    refine awp_region 4 mixed (by kernel_rfl) ?_
    refine rg_q (q_fieldAddr fld37_2 rfl) ?_
    refine rg_q (q_loadA (ds := [_, _, _, _, _]) sz35 rfl rfl rfl) ?_
    refine rg_q (q_call en74 (.cons rfl .nil) rfl (rcheckGrid_p t.g)) ?_
    refine rg_q (q_a rfl) ?_
    refine rs (awp_region 2 mixed (by kernel_rfl) ?_)
    refine rg_q (q_m rfl) (rg_q (q_neq rfl rfl) ?_)
    refine rn ?_
    change Awp _ _ _ _ _
    refine awp_cond rfl (fun hc10 => ?_) (fun hc10 => ?_)
    ·
     (try simp only [nb, ne_eq] at hc10)
     have h4 : ckG t.g ≠ 0 := hc10
     rw [if_pos h4] at hu
     rw [hu]
     refine awp_seq ?_
     refine awp_region 3 mixed (by kernel_rfl) ?_
     refine rg_q (q_m rfl) (rg_q (q_a rfl) (rg_q (q_a rfl) ?_))
     refine rn ?_
     change Awp _ _ _ _ _
     refine awp_ret ?_
     refine ⟨_, (.cons (.tmp (by exact .d _)) (.cons (.tmp (by exact .d _)) .nil)), ?_⟩
     rfl
    ·
     (try simp only [nb, ne_eq] at hc10)
     have h4 : ¬ ckG t.g ≠ 0 := fun q => q hc10
     rw [if_neg h4] at hu
     obtain ⟨hao, _⟩ := ckArr_ok (Decidable.not_not.1 h1)
     have ht1 := hao.ou.t1
     have ht2 := hao.ou.t2
     obtain ⟨hg, hg1, hg2⟩ := ckG_ok (Decidable.not_not.1 h4)
     have hci := cells_in hg
     have hz : ckT t = (0, whenI (brkB t.g t.ar.ou.t) 22) := hu
     refine awp_skip ?_
     change Awp _ _ _ _ _
     refine awp_seq ?_
     refine awp_seq ?_
     refine awp_region 21 mixed (by kernel_rfl) ?_
     refine rg_q (q_fieldAddr fld37_2 rfl) (rg_q (q_fieldAddr fld35_0 rfl) (rg_q (q_fieldAddr fld33_1 rfl) (rg_q (q_load sz3 rfl rfl) (rg_q (q_lss rfl rfl) (rg_q (q_m rfl) ?_)))))
     refine rg_g rfl rfl (fun hG => (q_fieldAddr fld37_2 rfl)) ?_
     refine rg_g rfl rfl (fun hG => (q_loadA (ds := [_, _, _, _, _]) sz35 rfl rfl rfl)) ?_
     refine rg_g rfl rfl (fun hG => (q_fieldAddr fld37_2 rfl)) ?_
     refine rg_g rfl rfl (fun hG => (q_loadA (ds := [_, _, _, _, _]) sz35 rfl rfl rfl)) ?_
     refine rg_g rfl rfl (fun hG => (q_call en56 (.cons rfl .nil) rfl (rcells_p _ (by assumption)))) ?_
     refine rg_g rfl rfl (fun hG => (q_sub rfl rfl (In64.mk (by (have hg0 := T.bool_inj (a := _) hG.1; (try simp only [nb, ne_eq] at hg0); omega)) (by (have hg0 := T.bool_inj (a := _) hG.1; (try simp only [nb, ne_eq] at hg0); omega))))) ?_
     refine rg_g rfl rfl (fun hG => (q_call en76 (.cons rfl (.cons rfl .nil)) rfl (rspot_p _ _ (by assumption) (by omega) (by omega)))) ?_
     refine rg_g rfl rfl (fun hG => (q_field fd33_1 sz3 rfl rfl)) ?_
     refine rg_g rfl rfl (fun hG => (q_fieldAddr fld37_0 rfl)) ?_
     refine rg_g rfl rfl (fun hG => (q_fieldAddr fld28_1 rfl)) ?_
     refine rg_g rfl rfl (fun hG => (q_fieldAddr fld24_3 rfl)) ?_
     refine rg_g rfl rfl (fun hG => (q_load sz3 rfl rfl)) ?_
     refine rg_g rfl rfl (fun hG => (q_sub rfl rfl (In64.mk (by (have hg0 := T.bool_inj (a := _) hG.1; (try simp only [nb, ne_eq] at hg0); omega)) (by (have hg0 := T.bool_inj (a := _) hG.1; (try simp only [nb, ne_eq] at hg0); omega))))) ?_
     refine rg_g rfl rfl (fun hG => (q_gtr rfl rfl)) ?_
     refine rg_pick rfl rfl rfl rfl rfl rfl ?_
     refine rn ?_
     change Awp _ _ _ _ _
     refine awp_cond rfl (fun hc12 => ?_) (fun hc12 => ?_)
     ·
      (try simp only [nb, ne_eq] at hc12)
      rw [(brk_is hg).2 hc12] at hz
      refine awp_seq ?_
      refine awp_region 2 mixed (by kernel_rfl) ?_
      refine rg_q (q_a rfl) (rg_q (q_a rfl) ?_)
      refine rn ?_
      change Awp _ _ _ _ _
      refine awp_ret ?_
      refine ⟨_, (.cons (.tmp (by exact .d _)) (.cons (.tmp (by exact .d _)) .nil)), ?_⟩
      rw [hz]; rfl
     ·
      (try simp only [nb, ne_eq] at hc12)
      have hb : brkB t.g t.ar.ou.t = false := by
       cases q : brkB t.g t.ar.ou.t with
       | false => rfl
       | true => have := (brk_is hg).1 q; omega
      rw [hb] at hz
      refine awp_skip ?_
      change Awp _ _ _ _ _
      refine awp_seq ?_
      refine awp_region 2 mixed (by kernel_rfl) ?_
      refine rg_q (q_a rfl) (rg_q (q_a rfl) ?_)
      refine rn ?_
      change Awp _ _ _ _ _
      refine awp_ret ?_
      refine ⟨_, (.cons (.tmp (by exact .d _)) (.cons (.tmp (by exact .d _)) .nil)), ?_⟩
      rw [hz]; rfl
set_option maxRecDepth 100000 in
theorem rtaskErr_p (t : Tsk) : PC Tryz.prog 24 [.agg (tskC t)] (.v (.int .i64 ((ckT t).2))) := by
 refine pc_of_awp Tryz.func24 rfl Tryz.ntmps24 (rs := [.tmp 2]) Tryz.results24 (by simp) fun w0 => ?_
 refine awp_seq ?_
 refine awp_region 2 mixed (by kernel_rfl) ?_
 refine rg_q (q_box rfl (by exact .inr ⟨_, rfl⟩)) ?_
 refine rg_q (q_a rfl) ?_
 refine rs (awp_region 7 mixed (by kernel_rfl) ?_)
 refine rg_q (q_loadA sz37 rfl rfl rfl) ?_
 refine rg_q (q_call en22 (.cons rfl .nil) rfl (rcheckTask_p _)) ?_
 refine rg_q (q_move (x := .d (.tup _)) rfl) (rg_q (q_extract rfl rfl) (rg_q (q_extract rfl rfl) (rg_q (q_a rfl) (rg_q (q_a rfl) ?_))))
 refine rs (awp_region 2 mixed (by kernel_rfl) ?_)
 refine rg_q (q_m rfl) (rg_q (q_a rfl) ?_)
 refine rn ?_
 change Awp _ _ _ _ _
 refine awp_ret ?_
 refine ⟨_, (.cons (.tmp (by exact .d _)) .nil), ?_⟩
 rfl
set_option maxRecDepth 100000 in
theorem copyMatrix5_p (ne : Int) (l : List Nat) (hl : l.length ≤ 10000) : PC Tryz.prog 62 [.agg [.v (.int .i64 (ne)), .sl 1 (l.map fC)]] (.agg (mtxC ne l)) := by
 refine pc_of_awp Tryz.func62 rfl Tryz.ntmps62 (rs := [.cell 2 31]) Tryz.results62 (by simp) fun w0 => ?_
 refine awp_seq ?_
 refine awp_region 1 mixed (by kernel_rfl) ?_
 refine rg_q (q_box rfl (by exact .inr ⟨_, rfl⟩)) ?_
 refine rg_nil ?_
 refine aops_alloc zr31 rfl rfl rfl ?_
 refine aops_nil ?_
 change Awp _ _ _ _ _
 refine awp_seq ?_
 refine awp_region 7 mixed (by kernel_rfl) ?_
 refine rg_q (q_fieldAddr fld31_0 rfl) (rg_q (q_load sz3 rfl rfl) ?_)
 refine rg_q (q_empty0 sl29 zr117) ?_
 refine rg_q (q_fieldAddr fld31_1 rfl) (rg_q (q_load sz29 rfl rfl) ?_)
 refine rg_q (q_append0 sl29 zr117 by117 rfl (by decide) rfl rfl rfl (by (try simp only [List.length_map]); omega) (by (try simp only [List.length_map]); omega)) ?_
 refine rg_q (q_build (cs := [_, _]) pl31 zr31 rfl (.cons rfl (by exact .inl rfl) (.cons rfl (by exact .inl rfl) .nil)) ⟨⟨rfl, by decide⟩, ⟨rfl, by decide⟩, trivial⟩ rfl) ?_
 refine rg_nil ?_
 refine aops_store sz31 rfl rfl (by exact .inr ⟨_, rfl⟩) rfl rfl (by decide) rfl ?_
 refine aops_nil ?_
 change Awp _ _ _ _ _
 refine awp_ret ?_
 refine ⟨_, (.cons (.cellA rfl rfl sz31 rfl) .nil), ?_⟩
 rfl
set_option maxRecDepth 100000 in
theorem rcopyT_p (t : Tsk) (h1 : t.ar.el.length ≤ 1000) (h2 : t.bf.length ≤ 10000) : PC Tryz.prog 21 [.agg (tskC t)] (.agg (tskC t)) := by
 refine pc_of_awp Tryz.func21 rfl Tryz.ntmps21 (rs := [.cell 2 37]) Tryz.results21 (by simp) fun w0 => ?_
 refine awp_seq ?_
 refine awp_region 1 mixed (by kernel_rfl) ?_
 refine rg_q (q_box rfl (by exact .inr ⟨_, rfl⟩)) ?_
 refine rg_nil ?_
 refine aops_alloc zr37 rfl rfl rfl ?_
 refine aops_nil ?_
 change Awp _ _ _ _ _
 refine awp_seq ?_
 refine awp_region 9 mixed (by kernel_rfl) ?_
 refine rg_q (q_fieldAddr fld37_0 rfl) ?_
 refine rg_q (q_loadA (ds := [_, _, _, _, _, _, _, _, _, _, _]) sz28 rfl rfl rfl) ?_
 refine rg_q (q_call en79 (.cons rfl .nil) rfl (copyArr_p t.ar h1)) ?_
 refine rg_q (q_fieldAddr fld37_1 rfl) ?_
 refine rg_q (q_loadA (ds := [_, _]) sz31 rfl rfl rfl) ?_
 refine rg_q (q_call en62 (.cons rfl .nil) rfl (copyMatrix5_p t.ne t.bf h2)) ?_
 refine rg_q (q_fieldAddr fld37_2 rfl) ?_
 refine rg_q (q_loadA (ds := [_, _, _, _, _]) sz35 rfl rfl rfl) ?_
 refine rg_q (q_build pl37 zr37 rfl (.cons rfl (by exact .inr ⟨_, rfl⟩) (.cons rfl (by exact .inr ⟨_, rfl⟩) (.cons rfl (by exact .inr ⟨_, rfl⟩) .nil))) ⟨⟨rfl, by decide⟩, ⟨rfl, by decide⟩, ⟨rfl, by decide⟩, trivial⟩ rfl) ?_
 refine rg_nil ?_
 refine aops_store sz37 rfl rfl (by exact .inr ⟨_, rfl⟩) rfl rfl (by decide) rfl ?_
 refine aops_nil ?_
 change Awp _ _ _ _ _
 refine awp_ret ?_
 refine ⟨_, (.cons (.cellA rfl rfl sz37 rfl) .nil), ?_⟩
 rfl

def smlB (g : Grd) : Bool := if (!inR 1 g.co 40 || !inR 1 g.ro 40) = true then true else decide (g.co * g.ro ≤ 12)
def litB (t : Tsk) : Bool := (decide (t.ar.el.length ≤ 2) || (decide (16 < t.ar.el.length) && decide (t.ar.el.length ≤ 18))) && decide (t.bf.length ≤ 260) && smlB t.g
theorem lit_le {t : Tsk} (h : litB t = true) : t.ar.el.length ≤ 18 ∧ t.bf.length ≤ 260 := by
  unfold litB at h
  simp only [Bool.and_eq_true, Bool.or_eq_true, decide_eq_true_eq] at h
  omega
set_option maxRecDepth 100000 in
theorem small5_p (g : Grd) : PC Tryz.prog 40 [.agg (grdC g)] (.v (.bool (smlB g))) := by
 refine pc_of_awp Tryz.func40 rfl Tryz.ntmps40 (rs := [.tmp 2]) Tryz.results40 (by simp) fun w0 => ?_
 refine awp_seq ?_
 refine awp_region 2 mixed (by kernel_rfl) ?_
 refine rg_q (q_box rfl (by exact .inr ⟨_, rfl⟩)) ?_
 refine rg_q (q_a rfl) ?_
 refine rn ?_
 change Awp _ _ _ _ _
 refine awp_seq ?_
 refine awp_seq ?_
 refine awp_region 10 mixed (by kernel_rfl) ?_
 refine rg_q (q_fieldAddr fld35_1 rfl) (rg_q (q_load sz3 rfl rfl) ?_)
 refine rg_q (q_call en31 (.cons rfl (.cons rfl (.cons rfl .nil))) rfl (within4_p _ _ _)) ?_
 refine rg_q (q_not rfl) (rg_q (q_m rfl) ?_)
 refine rg_g rfl rfl (fun hG => (q_fieldAddr fld35_2 rfl)) ?_
 refine rg_g rfl rfl (fun hG => (q_load sz3 rfl rfl)) ?_
 refine rg_g rfl rfl (fun hG => (q_call en31 (.cons rfl (.cons rfl (.cons rfl .nil))) rfl (within4_p _ _ _))) ?_
 refine rg_g rfl rfl (fun hG => (q_not rfl)) ?_
 refine rg_pick rfl rfl rfl rfl rfl rfl ?_
 refine rn ?_
 change Awp _ _ _ _ _
 refine awp_cond rfl (fun hc1 => ?_) (fun hc1 => ?_)
 ·
  (try simp only [nb, ne_eq] at hc1)
  have hz : smlB g = true := by unfold smlB; rw [if_pos (by rcases hc1 with q | q <;> simp [q])]
  refine awp_seq ?_
  refine awp_region 1 mixed (by kernel_rfl) ?_
  refine rg_q (q_a rfl) ?_
  refine rn ?_
  change Awp _ _ _ _ _
  refine awp_ret ?_
  refine ⟨_, (.cons (.tmp (by exact .d _)) .nil), ?_⟩
  rw [hz]; rfl
 ·
  (try simp only [nb, ne_eq] at hc1)
  obtain ⟨q1, q2⟩ := hc1
  have hz : smlB g = decide (g.co * g.ro ≤ 12) := by unfold smlB; rw [if_neg (by rw [q1, q2]; decide)]
  obtain ⟨a1, a2⟩ := inR_iff.1 q1
  obtain ⟨a3, a4⟩ := inR_iff.1 q2
  have hm := mulb (a := g.co) (b := g.ro) (A := 40) (B := 40) (by omega) (by omega) (by omega) (by omega)
  refine awp_skip ?_
  change Awp _ _ _ _ _
  refine awp_seq ?_
  refine awp_region 7 mixed (by kernel_rfl) ?_
  refine rg_q (q_fieldAddr fld35_1 rfl) (rg_q (q_load sz3 rfl rfl) (rg_q (q_fieldAddr fld35_2 rfl) (rg_q (q_load sz3 rfl rfl) ?_)))
  refine rg_q (q_mul rfl rfl (In64.mk (by omega) (by omega))) ?_
  refine rg_q (q_leq rfl rfl) (rg_q (q_a rfl) ?_)
  refine rn ?_
  change Awp _ _ _ _ _
  refine awp_ret ?_
  refine ⟨_, (.cons (.tmp (by exact .d _)) .nil), ?_⟩
  rw [hz]; rfl
set_option maxRecDepth 100000 in
theorem light_p (t : Tsk) : PC Tryz.prog 19 [.agg (tskC t)] (.v (.bool (litB t))) := by
 refine pc_of_awp Tryz.func19 rfl Tryz.ntmps19 (rs := [.tmp 2]) Tryz.results19 (by simp) fun w0 => ?_
 refine awp_seq ?_
 refine awp_region 2 mixed (by kernel_rfl) ?_
 refine rg_q (q_box rfl (by exact .inr ⟨_, rfl⟩)) ?_
 refine rg_q (q_a rfl) ?_
 refine rs (awp_region 32 mixed (by kernel_rfl) ?_)
 refine rg_q (q_fieldAddr fld37_0 rfl) (rg_q (q_fieldAddr fld28_0 rfl) (rg_q (q_load sz22 rfl rfl) ?_))
 refine rg_q (q_len isl22 rfl (by exact len_map _ _)) ?_
 refine rg_q (q_leq rfl rfl) (rg_q (q_m rfl) ?_)
 refine rg_g rfl rfl (fun hG => (q_fieldAddr fld37_0 rfl)) ?_
 refine rg_g rfl rfl (fun hG => (q_fieldAddr fld28_0 rfl)) ?_
 refine rg_g rfl rfl (fun hG => (q_load sz22 rfl rfl)) ?_
 refine rg_g rfl rfl (fun hG => (q_len isl22 rfl (by exact len_map _ _))) ?_
 refine rg_g rfl rfl (fun hG => (q_gtr rfl rfl)) ?_
 refine rg_g rfl rfl (fun hG => (q_m rfl)) ?_
 refine rg_g rfl rfl (fun hG => (q_fieldAddr fld37_0 rfl)) ?_
 refine rg_g rfl rfl (fun hG => (q_fieldAddr fld28_0 rfl)) ?_
 refine rg_g rfl rfl (fun hG => (q_load sz22 rfl rfl)) ?_
 refine rg_g rfl rfl (fun hG => (q_len isl22 rfl (by exact len_map _ _))) ?_
 refine rg_g rfl rfl (fun hG => (q_leq rfl rfl)) ?_
 refine rg_pickg rfl rfl rfl rfl rfl rfl rfl rfl ?_
 refine rg_pick rfl rfl rfl rfl rfl rfl ?_
 refine rg_q (q_m rfl) ?_
 refine rg_g rfl rfl (fun hG => (q_fieldAddr fld37_1 rfl)) ?_
 refine rg_g rfl rfl (fun hG => (q_fieldAddr fld31_1 rfl)) ?_
 refine rg_g rfl rfl (fun hG => (q_load sz29 rfl rfl)) ?_
 refine rg_g rfl rfl (fun hG => (q_len isl29 rfl (by exact len_map _ _))) ?_
 refine rg_g rfl rfl (fun hG => (q_leq rfl rfl)) ?_
 refine rg_pick rfl rfl rfl rfl rfl rfl ?_
 refine rg_q (q_m rfl) ?_
 refine rg_g rfl rfl (fun hG => (q_fieldAddr fld37_2 rfl)) ?_
 refine rg_g rfl rfl (fun hG => (q_loadA (ds := [_, _, _, _, _]) sz35 rfl rfl rfl)) ?_
 refine rg_g rfl rfl (fun hG => (q_call en40 (.cons rfl .nil) rfl (small5_p _))) ?_
 refine rg_pick rfl rfl rfl rfl rfl rfl ?_
 refine rg_q (q_a rfl) ?_
 refine rn ?_
 change Awp _ _ _ _ _
 refine awp_len (t := 5) rfl (fun hl5 => ?_)
 (try simp only [List.length_map] at hl5)
 refine awp_ret ?_
 refine ⟨_, (.cons (.tmp (by exact .d _)) .nil), ?_⟩
 have e1 : decide (t.ar.el.length ≤ 2) = decide ((t.ar.el.length : Int) ≤ 2) := decide_eq_decide.2 (by omega)
 have e2 : decide (16 < t.ar.el.length) = decide (16 < (t.ar.el.length : Int)) := decide_eq_decide.2 (by omega)
 have e3 : decide (t.ar.el.length ≤ 18) = decide ((t.ar.el.length : Int) ≤ 18) := decide_eq_decide.2 (by omega)
 have e4 : decide (t.bf.length ≤ 260) = decide ((t.bf.length : Int) ≤ 260) := decide_eq_decide.2 (by omega)
 unfold litB; rw [e1, e2, e3, e4]; simp only [bif_and, bif_or]; rfl
end Go.Proofs.YtphlaicnmmglhaaGreat.Am.M
-- mini
namespace Go.Proofs.YtphlaicnmmglhaaGreat.Am.M
open Go

theorem chK_at {l : List Nat} {i k : Nat} (hk : k < 64) : (chK l i)[k]? = l[64 * i + k]? := by
  unfold chK
  rw [List.getElem?_drop, List.getElem?_take, if_pos (by omega)]
def off5 (n f r : Int) : Int := (f * n + r) * 64
theorem off5_in {n f r : Int} (hn : n ≤ 16) (f0 : 0 ≤ f) (f1 : f < n) (r0 : 0 ≤ r) (r1 : r < n) : (0 ≤ f * n ∧ f * n ≤ 256) ∧ 0 ≤ off5 n f r ∧ off5 n f r + 64 ≤ n * n * 64 := by
  have h1 := Int.mul_nonneg f0 (show 0 ≤ n by omega)
  have h2 := Int.mul_le_mul_of_nonneg_right (show f ≤ n - 1 by omega) (show 0 ≤ n by omega)
  have h3 : (n - 1) * n = n * n - n := by grind
  have h4 := Int.mul_le_mul_of_nonneg_right hn (show 0 ≤ n by omega)
  unfold off5
  omega
theorem flat5 (V : List Int) : (D.agg (V.map fv)).Flat := .agg _ (fun d hd => by
  obtain ⟨x, _, rfl⟩ := List.mem_map.1 hd
  exact .v _)
theorem fv_at {V : List Int} {k : Nat} {v : Int} (h : V[k]? = some v) : (V.map fv)[0 + (k : Int).toNat * 1]? = some (fv v) := by rw [Int.toNat_natCast, Nat.zero_add, Nat.mul_one, List.getElem?_map, h]; rfl
theorem sAt_at {S : List Int} (hS : S.length = 64) {i : Nat} (hi : i < 64) : S[i]? = some (sAt S i) := by
  unfold sAt
  rw [List.getD_eq_getElem?_getD, List.getElem?_eq_getElem (by omega)]; rfl
set_option maxRecDepth 100000 in
theorem at5_p (ne : Int) (l : List Nat) (p : Int × Int) (hn : ne ≤ 16) (p1 : 0 ≤ p.1 ∧ p.1 < ne) (p2 : 0 ≤ p.2 ∧ p.2 < ne) : PC Tryz.prog 241 [.agg (mtxC ne l), .v (.int .i64 (p.1)), .v (.int .i64 (p.2))] (.v (.int .i64 (off5 ne p.1 p.2))) := by
 obtain ⟨⟨a1, a2⟩, a3, a4⟩ := off5_in hn p1.1 p1.2 p2.1 p2.2
 have hn2 := mulb (a := ne) (b := ne) (A := 16) (B := 16) (by omega) (by omega) (by omega) (by omega)
 refine pc_of_awp Tryz.func241 rfl Tryz.ntmps241 (rs := [.tmp 6]) Tryz.results241 (by simp) fun w0 => ?_
 refine awp_seq ?_
 refine awp_region 2 mixed (by kernel_rfl) ?_
 refine rg_q (q_box rfl (by exact .inr ⟨_, rfl⟩)) ?_
 refine rg_q (q_a rfl) ?_
 refine rs (awp_region 8 mixed (by kernel_rfl) ?_)
 refine rg_q (q_m rfl) (rg_q (q_fieldAddr fld31_0 rfl) (rg_q (q_load sz3 rfl rfl) ?_))
 refine rg_q (q_mul rfl rfl (In64.mk (by omega) (by omega))) ?_
 refine rg_q (q_m rfl) ?_
 refine rg_q (q_add rfl rfl (In64.mk (by omega) (by omega))) ?_
 refine rg_q (q_mul rfl rfl (In64.mk (by omega) (by omega))) ?_
 refine rg_q (q_a rfl) ?_
 refine rn ?_
 change Awp _ _ _ _ _
 refine awp_ret ?_
 refine ⟨_, (.cons (.tmp (by exact .d _)) .nil), ?_⟩
 rfl
set_option maxRecDepth 100000 in
theorem trace5_p (S : List Int) (hS : S.length = 64) : PC Tryz.prog 242 [.sl 1 (S.map iC)] (.agg (S.map fv)) := by
 refine pc_of_awp Tryz.func242 rfl Tryz.ntmps242 (rs := [.cell 2 236]) Tryz.results242 (by simp) fun w0 => ?_
 refine awp_seq ?_
 refine awp_region 0 mixed (by kernel_rfl) ?_
 refine rg_nil ?_
 refine aops_alloc zr236 rfl rfl rfl ?_
 refine aops_nil ?_
 change Awp _ _ _ _ _
 refine awp_seq ?_
 refine awp_region 0 mixed (by kernel_rfl) ?_
 refine rg_nil ?_
 refine aops_alloc zr236 rfl rfl rfl ?_
 refine aops_nil ?_
 change Awp _ _ _ _ _
 refine awp_seq ?_
 refine awp_seq ?_
 refine awp_region 1 mixed (by kernel_rfl) ?_
 refine rg_q (q_a rfl) ?_
 refine rn ?_
 change Awp _ _ _ _ _
 refine awp_block ?_
 refine awp_loopH [4, 5, 6, 7, 8, 9, 10, 11, 12, 13, 14, 15, 16, 17, 18, 19, 20, 21] [3] (α := Nat) (fun k => [(4, T.i (k : Int))]) (fun k => [(3, .box (outT S k))]) (fun k => k ≤ 64) (fun k => 64 - k) 0 (Nat.zero_le _) ?_ ?_
 · exact le_head (ms := [3]) (by repeat (exact Out.refl _)) ⟨(by rfl), trivial⟩ ⟨(by rfl), trivial⟩ rfl rfl rfl rfl
 ·
  intro k hk
  refine awp_seq ?_
  refine awp_seq ?_
  refine awp_region 8 mixed (by kernel_rfl) ?_
  refine rg_q (q_m rfl) (rg_q (q_lss rfl rfl) (rg_q (q_m rfl) ?_))
  refine rg_g rfl rfl (fun hG => (q_m rfl)) ?_
  refine rg_g rfl rfl (fun hG => (q_move (x := .d (.sl _ _)) rfl)) ?_
  refine rg_g rfl rfl (fun hG => (q_len isl77 rfl (by exact len_map _ _))) ?_
  refine rg_g rfl rfl (fun hG => (q_lss rfl rfl)) ?_
  refine rg_pick rfl rfl rfl rfl rfl rfl ?_
  refine rn ?_
  change Awp _ _ _ _ _
  refine awp_cond rfl (fun hc3 => ?_) (fun hc3 => ?_)
  ·
   (try simp only [nb, ne_eq] at hc3)
   have hlt : k < S.length := by omega
   obtain ⟨x, hx⟩ : ∃ x, S[k]? = some x := ⟨_, List.getElem?_eq_getElem hlt⟩
   have hst := outT_set hS hx
   have hol : (outT S k).length = 64 := by unfold outT; rw [List.length_append, List.length_map, List.length_take, List.length_replicate]; omega
   refine awp_skip ?_
   change Awp _ _ _ _ _
   refine awp_seq ?_
   refine awp_block ?_
   refine awp_region 7 mixed (by kernel_rfl) ?_
   refine rg_q (q_m rfl) (rg_q (q_move (x := .d (.sl _ _)) rfl) (rg_q (q_m rfl) ?_))
   refine rg_q (q_indexAddr sl77 rfl rfl (by omega) (map_at (by omega) hx)) ?_
   refine rg_q (q_load sz3 rfl rfl) ?_
   refine rg_q (q_convf int3 flt117 rfl) ?_
   refine rg_q (q_indexAddr_aref ar236 rfl rfl (by omega) (by omega)) ?_
   refine rg_nil ?_
   refine aops_store (cs' := outT S (k + 1)) sz117 rfl rfl (by exact .inl rfl) rfl rfl (by rw [hol]; omega) hst ?_
   refine aops_nil ?_
   change Awp _ _ _ _ _
   refine awp_region 3 mixed (by kernel_rfl) ?_
   refine rg_q (q_m rfl) ?_
   refine rg_q (q_add rfl rfl (In64.mk (by omega) (by omega))) ?_
   refine rg_q (q_a rfl) ?_
   refine rn ?_
   refine ⟨k + 1, by omega, by omega, ?_⟩
   exact le_head (ms := [3]) (by repeat (first | exact Out.head rfl rfl | (refine Out.put ?_ rfl) | (refine Out.site ?_ rfl))) ⟨(by rfl), trivial⟩ ⟨(by rfl), trivial⟩ rfl rfl rfl rfl
  ·
   (try simp only [nb, ne_eq] at hc3)
   have hk64 : k = 64 := by omega
   subst hk64
   rw [outT_all hS]
   refine awp_exit ?_
   change Awp _ _ _ _ _
   refine awp_seq ?_
   refine awp_region 1 mixed (by kernel_rfl) ?_
   refine rg_q (q_load_refA (ds := S.map fv) sz236 rfl rfl (by rw [List.drop_zero]; exact List.take_of_length_le (by rw [List.length_map]; omega)) (by rw [List.length_map]; exact hS)) ?_
   refine rg_nil ?_
   refine aops_store (cs' := S.map fv) sz236 rfl rfl (by exact .inr ⟨_, rfl⟩) (by show (S.map fv).length = 64; rw [List.length_map]; exact hS) rfl (Nat.le_of_ble_eq_true rfl) (setCs_all (by show (S.map fv).length = 64; rw [List.length_map]; exact hS)) ?_
   refine aops_nil ?_
   change Awp _ _ _ _ _
   refine awp_ret ?_
   refine ⟨_, (.cons (.cellA rfl rfl sz236 (by show (S.map fv).length = _; rw [List.length_map]; exact hS)) .nil), ?_⟩
   rfl
set_option maxRecDepth 100000 in
theorem rtraceOf5_p (ne : Int) (l : List Nat) (p : Int × Int) (hn : ne ≤ 16) (p1 : 0 ≤ p.1 ∧ p.1 < ne) (p2 : 0 ≤ p.2 ∧ p.2 < ne) (hw : WhlL l) (hl : (l.length : Int) = ne * ne * 64) : PC Tryz.prog 177 [.agg (mtxC ne l), .agg (shC p)] (.agg (((chK l (p.1 * ne + p.2).toNat).map vI).map fv)) := by
 obtain ⟨⟨a1, a2⟩, a3, a4⟩ := off5_in hn p1.1 p1.2 p2.1 p2.2
 have hn2 := mulb (a := ne) (b := ne) (A := 16) (B := 16) (by omega) (by omega) (by omega) (by omega)
 have ho : off5 ne p.1 p.2 = (p.1 * ne + p.2) * 64 := rfl
 have hBl : l.length ≤ 100000 := by omega
 have hml : (l.map fC).length = l.length := List.length_map _
 have hV : ((chK l (p.1 * ne + p.2).toNat).map vI).length = 64 := by rw [List.length_map]; exact chK_len (m := (ne * ne).toNat) (by omega) (by omega)
 refine pc_of_awpN Tryz.func177 rfl Tryz.ntmps177 (rs := [.cell 4 236]) Tryz.results177 (by simp) fun w0 hmine hrnd hpn => ?_
 refine awp_seq ?_
 refine awp_region 2 mixed (by kernel_rfl) ?_
 refine rg_q (q_box rfl (by exact .inr ⟨_, rfl⟩)) ?_
 refine rg_q (q_box rfl (by exact .inr ⟨_, rfl⟩)) ?_
 refine rg_nil ?_
 refine aops_alloc zr236 rfl rfl rfl ?_
 refine aops_nil ?_
 change Awp _ _ _ _ _
 refine awp_seq ?_
 refine awp_region 1 mixed (by kernel_rfl) ?_
 refine rg_q (q_assign_nil) ?_
 refine rn ?_
 change Awp _ _ _ _ _
 refine Awp.le (le_own (k := 5) (e := 3) (sz := 1) rfl rfl) ?_
 refine awp_seq ?_
 refine awp_seq ?_
 refine awp_region 1 mixed (by kernel_rfl) ?_
 refine rg_q (q_a rfl) ?_
 refine rn ?_
 change Awp _ _ _ _ _
 refine awp_block ?_
 refine awp_loopH [5, 6, 7, 8, 9, 10, 11, 12, 13, 14, 15, 16, 17, 18, 19, 20, 21, 22, 23, 24, 25, 26] [5] (α := Nat) (fun k => [(6, T.i (k : Int)), (5, .rs 5)]) (fun k => [(5, .row 3 1 ((((chK l (p.1 * ne + p.2).toNat).map vI).take k).map iC))]) (fun k => k ≤ 64) (fun k => 64 - k) 0 (Nat.zero_le _) ?_ ?_
 · exact le_head (ms := [5]) (by repeat (exact Out.refl _)) ⟨(by rfl), (by rfl), trivial⟩ ⟨(by rfl), trivial⟩ rfl rfl rfl rfl
 ·
  intro k hk
  refine awp_seq ?_
  refine awp_seq ?_
  refine awp_region 2 mixed (by kernel_rfl) ?_
  refine rg_q (q_m rfl) (rg_q (q_lss rfl rfl) ?_)
  refine rn ?_
  change Awp _ _ _ _ _
  refine awp_cond rfl (fun hc3 => ?_) (fun hc3 => ?_)
  ·
   (try simp only [nb, ne_eq] at hc3)
   have hlt : k < 64 := by omega
   have hin : 64 * (p.1 * ne + p.2).toNat + k < l.length := by omega
   obtain ⟨x, hx⟩ : ∃ x, l[64 * (p.1 * ne + p.2).toNat + k]? = some x := ⟨_, List.getElem?_eq_getElem hin⟩
   have hx1 := hw x (List.mem_of_getElem? hx)
   have hxv : ((chK l (p.1 * ne + p.2).toNat).map vI)[k]? = some (vI x) := vI_at (by rw [chK_at hlt]; exact hx)
   have hcast : ((64 * (p.1 * ne + p.2).toNat + k : Nat) : Int) = off5 ne p.1 p.2 + (k : Int) := by omega
   have hs1 : (((chK l (p.1 * ne + p.2).toNat).map vI).take k).map iC ++ [iC (vI x)] = (((chK l (p.1 * ne + p.2).toNat).map vI).take (k + 1)).map iC := by rw [List.take_succ_eq_append_getElem (by omega), (List.getElem?_eq_some_iff.1 hxv).2, List.map_append]; rfl
   have htl : (((chK l (p.1 * ne + p.2).toNat).map vI).take k).length ≤ 64 := by rw [List.length_take]; omega
   refine awp_skip ?_
   change Awp _ _ _ _ _
   refine awp_seq ?_
   refine awp_block ?_
   refine awp_region 15 mixed (by kernel_rfl) ?_
   refine rg_q (q_move (x := .rs _) rfl) (rg_q (q_fieldAddr fld31_1 rfl) (rg_q (q_load sz29 rfl rfl) ?_))
   refine rg_q (q_loadA (ds := [_, _]) sz31 rfl rfl rfl) ?_
   refine rg_q (q_indexAddr_ar ar63 rfl rfl (by omega) (by omega)) ?_
   refine rg_q (q_load sz3 rfl rfl) ?_
   refine rg_q (q_indexAddr_ar ar63 rfl rfl (by omega) (by omega)) ?_
   refine rg_q (q_load sz3 rfl rfl) ?_
   refine rg_q (q_call en241 (.cons rfl (.cons rfl (.cons rfl .nil))) rfl (at5_p ne l p hn p1 p2)) ?_
   refine rg_q (q_m rfl) ?_
   refine rg_q (q_add rfl rfl (In64.mk (by omega) (by omega))) ?_
   refine rg_q (q_indexAddr sl29 rfl rfl (by omega) (map_at (k := 64 * (p.1 * ne + p.2).toNat + k) (by omega) hx)) ?_
   refine rg_q (q_load sz117 rfl rfl) ?_
   refine rg_q (q_convfi flt117 int3 rfl hx1.int) ?_
   refine rg_q (q_buildSlice sl77 zr3 rfl rfl (by decide) (.cons rfl (by exact .inl rfl) .nil) ⟨rfl, rfl, trivial⟩ rfl (by decide) rfl) ?_
   refine rg_nil ?_
   refine aops_append sl77 zr3 by3 rfl (by decide) rfl rfl rfl rfl (by (try simp only [List.length_map, List.length_append, List.length_cons, List.length_nil]); omega) (by (try simp only [List.length_map, List.length_append, List.length_cons, List.length_nil]); omega) rfl rfl ?_
   refine aops_q rfl (q_assign (x := .rs _) rfl) ?_
   refine aops_nil ?_
   change Awp _ _ _ _ _
   refine awp_region 3 mixed (by kernel_rfl) ?_
   refine rg_q (q_m rfl) ?_
   refine rg_q (q_add rfl rfl (In64.mk (by omega) (by omega))) ?_
   refine rg_q (q_a rfl) ?_
   refine rn ?_
   refine ⟨k + 1, by omega, by omega, ?_⟩
   exact le_head (ms := [5]) (by repeat (first | exact Out.head rfl rfl | (refine Out.put ?_ rfl) | (refine Out.site ?_ rfl) | (refine Out.killS ?_ rfl))) ⟨(by rfl), (by rfl), trivial⟩ ⟨(by (show Site.row _ _ _ = Site.row _ _ _; rw [← hs1]; rfl)), trivial⟩ rfl rfl rfl rfl
  ·
   (try simp only [nb, ne_eq] at hc3)
   have hk64 : k = 64 := by omega
   subst hk64
   rw [List.take_of_length_le (by omega)]
   refine awp_exit ?_
   change Awp _ _ _ _ _
   refine awp_seq ?_
   refine awp_region 2 mixed (by kernel_rfl) ?_
   refine rg_q (q_move (x := .rs _) rfl) ?_
   refine rg_q (q_callF en242 (.cons (by exact .rs rfl) .nil) rfl (trace5_p ((chK l (p.1 * ne + p.2).toNat).map vI) hV) (by exact flat5 ((chK l (p.1 * ne + p.2).toNat).map vI))) ?_
   refine rg_nil ?_
   refine aops_store (cs' := ((chK l (p.1 * ne + p.2).toNat).map vI).map fv) sz236 rfl rfl (by exact .inr ⟨_, rfl⟩) (by show (((chK l (p.1 * ne + p.2).toNat).map vI).map fv).length = 64; rw [List.length_map]; exact hV) rfl (Nat.le_of_ble_eq_true rfl) (setCs_all (by show (((chK l (p.1 * ne + p.2).toNat).map vI).map fv).length = 64; rw [List.length_map]; exact hV)) ?_
   refine aops_nil ?_
   change Awp _ _ _ _ _
   refine awp_ret ?_
   refine ⟨_, (.cons (.cellA rfl rfl sz236 (by show (((chK l (p.1 * ne + p.2).toNat).map vI).map fv).length = _; rw [List.length_map]; exact hV)) .nil), ?_⟩
   rfl
set_option maxRecDepth 100000 in
theorem ints64_p (V : List Int) (hV : V.length = 64) (hb : ∀ v ∈ V, -2047 ≤ v ∧ v ≤ 2047) : PC Tryz.prog 240 [.agg (V.map fv)] (.sl 1 (V.map iC)) := by
 refine pc_of_awpN Tryz.func240 rfl Tryz.ntmps240 (rs := [.tmp 2]) Tryz.results240 (by simp) fun w0 hmine hrnd hpn => ?_
 refine awp_seq ?_
 refine awp_region 2 mixed (by kernel_rfl) ?_
 refine rg_q (q_box rfl (by exact .inr ⟨_, rfl⟩)) ?_
 refine rg_q (q_assign (x := .d (.sl _ _)) rfl) ?_
 refine rs (awp_region 1 mixed (by kernel_rfl) ?_)
 refine rg_q (q_assign_nil) ?_
 refine rn ?_
 change Awp _ _ _ _ _
 refine Awp.le (le_own (k := 3) (e := 3) (sz := 1) rfl rfl) ?_
 refine awp_seq ?_
 refine awp_seq ?_
 refine awp_region 1 mixed (by kernel_rfl) ?_
 refine rg_q (q_a rfl) ?_
 refine rn ?_
 change Awp _ _ _ _ _
 refine awp_block ?_
 refine awp_loopH [3, 4, 5, 6, 7, 8, 9, 10, 11, 12, 13, 14, 15] [3] (α := Nat) (fun k => [(4, T.i (k : Int)), (3, .rs 3)]) (fun k => [(3, .row 3 1 ((V.take k).map iC))]) (fun k => k ≤ 64) (fun k => 64 - k) 0 (Nat.zero_le _) ?_ ?_
 · exact le_head (ms := [3]) (by repeat (exact Out.refl _)) ⟨(by rfl), (by rfl), trivial⟩ ⟨(by rfl), trivial⟩ rfl rfl rfl rfl
 ·
  intro k hk
  refine awp_seq ?_
  refine awp_seq ?_
  refine awp_region 2 mixed (by kernel_rfl) ?_
  refine rg_q (q_m rfl) (rg_q (q_lss rfl rfl) ?_)
  refine rn ?_
  change Awp _ _ _ _ _
  refine awp_cond rfl (fun hc3 => ?_) (fun hc3 => ?_)
  ·
   (try simp only [nb, ne_eq] at hc3)
   have hlt : k < 64 := by omega
   obtain ⟨x, hx⟩ : ∃ x, V[k]? = some x := ⟨_, List.getElem?_eq_getElem (by omega)⟩
   obtain ⟨hx1, hx2⟩ := hb x (List.mem_of_getElem? hx)
   have hld := fv_at hx
   have hs1 : (V.take k).map iC ++ [iC x] = (V.take (k + 1)).map iC := by rw [List.take_succ_eq_append_getElem (by omega), (List.getElem?_eq_some_iff.1 hx).2, List.map_append]; rfl
   have htl : (V.take k).length ≤ 64 := by rw [List.length_take]; omega
   refine awp_skip ?_
   change Awp _ _ _ _ _
   refine awp_seq ?_
   refine awp_block ?_
   refine awp_region 6 mixed (by kernel_rfl) ?_
   refine rg_q (q_move (x := .rs _) rfl) (rg_q (q_m rfl) ?_)
   refine rg_q (q_indexAddr_ar ar236 rfl rfl (by omega) (by omega)) ?_
   refine rg_q (q_load sz117 rfl hld) ?_
   refine rg_q (q_convfi flt117 int3 rfl (f32_int (f32_of (by omega) (by omega)))) ?_
   refine rg_q (q_buildSlice sl77 zr3 rfl rfl (by decide) (.cons rfl (by exact .inl rfl) .nil) ⟨rfl, rfl, trivial⟩ rfl (by decide) rfl) ?_
   refine rg_nil ?_
   refine aops_append sl77 zr3 by3 rfl (by decide) rfl rfl rfl rfl (by (try simp only [List.length_map, List.length_append, List.length_cons, List.length_nil]); omega) (by (try simp only [List.length_map, List.length_append, List.length_cons, List.length_nil]); omega) rfl rfl ?_
   refine aops_q rfl (q_assign (x := .rs _) rfl) ?_
   refine aops_nil ?_
   change Awp _ _ _ _ _
   refine awp_region 3 mixed (by kernel_rfl) ?_
   refine rg_q (q_m rfl) ?_
   refine rg_q (q_add rfl rfl (In64.mk (by omega) (by omega))) ?_
   refine rg_q (q_a rfl) ?_
   refine rn ?_
   refine ⟨k + 1, by omega, by omega, ?_⟩
   exact le_head (ms := [3]) (by repeat (first | exact Out.head rfl rfl | (refine Out.put ?_ rfl) | (refine Out.site ?_ rfl) | (refine Out.killS ?_ rfl))) ⟨(by rfl), (by rfl), trivial⟩ ⟨(by (show Site.row _ _ _ = Site.row _ _ _; rw [← hs1]; rfl)), trivial⟩ rfl rfl rfl rfl
  ·
   (try simp only [nb, ne_eq] at hc3)
   have hk64 : k = 64 := by omega
   subst hk64
   rw [List.take_of_length_le (by omega)]
   refine awp_exit ?_
   change Awp _ _ _ _ _
   refine awp_seq ?_
   refine awp_region 2 mixed (by kernel_rfl) ?_
   refine rg_q (q_move (x := .rs _) rfl) (rg_q (q_assign (x := .rs _) rfl) ?_)
   refine rn ?_
   change Awp _ _ _ _ _
   refine awp_ret ?_
   refine ⟨_, (.cons (.tmp (by exact .rs rfl)) .nil), ?_⟩
   rfl

def prtF (V : List Int) (k : Nat) : List (Int × Int) := (List.range k).map fun i => (reI V i, imI V i)
theorem prtF_succ (V : List Int) (k : Nat) : prtF V (k + 1) = prtF V k ++ [(reI V k, imI V k)] := by unfold prtF; rw [List.range_succ, List.map_append]; rfl
theorem prtF_len (V : List Int) (k : Nat) : (prtF V k).length = k := by unfold prtF; rw [List.length_map, List.length_range]
theorem prtF_at {V : List Int} {n k : Nat} (h : k < n) : (prtF V n)[k]? = some (reI V k, imI V k) := by unfold prtF; rw [List.getElem?_map, List.getElem?_range h]; rfl
set_option maxRecDepth 100000 in
theorem parts5_p (V : List Int) (hV : V.length = 64) (hb : ∀ v ∈ V, -2047 ≤ v ∧ v ≤ 2047) : PC Tryz.prog 176 [.agg (V.map fv)] (.sl 2 ((prtF V 61).map shC)) := by
 refine pc_of_awpN Tryz.func176 rfl Tryz.ntmps176 (rs := [.tmp 2]) Tryz.results176 (by simp) fun w0 hmine hrnd hpn => ?_
 refine awp_seq ?_
 refine awp_region 2 mixed (by kernel_rfl) ?_
 refine rg_q (q_box rfl (by exact .inr ⟨_, rfl⟩)) ?_
 refine rg_q (q_assign (x := .d (.sl _ _)) rfl) ?_
 refine rs (awp_region 3 mixed (by kernel_rfl) ?_)
 refine rg_q (q_loadA (ds := V.map fv) sz236 rfl (by rw [List.drop_zero]; exact List.take_of_length_le (by show (V.map fv).length ≤ 64; rw [List.length_map]; omega)) (by rw [List.length_map]; exact hV)) ?_
 refine rg_q (q_call en240 (.cons rfl .nil) rfl (ints64_p V hV hb)) ?_
 refine rg_q (q_assign (x := .d (.sl _ _)) rfl) ?_
 refine rs (awp_region 1 mixed (by kernel_rfl) ?_)
 refine rg_q (q_assign_nil) ?_
 refine rn ?_
 change Awp _ _ _ _ _
 refine Awp.le (le_own (k := 4) (e := 63) (sz := 2) rfl rfl) ?_
 refine awp_seq ?_
 refine awp_seq ?_
 refine awp_region 1 mixed (by kernel_rfl) ?_
 refine rg_q (q_a rfl) ?_
 refine rn ?_
 change Awp _ _ _ _ _
 refine awp_block ?_
 refine awp_loopH [4, 5, 8, 9, 10, 11, 12, 13, 14, 15, 16, 17, 18, 19, 20, 21, 22, 23, 24, 25, 26, 27, 28, 29, 30, 31, 32, 33, 34, 35, 36] [4] (α := Nat) (fun k => [(5, T.i (k : Int)), (4, .rs 4)]) (fun k => [(4, .row 63 2 ((prtF V k).map shC))]) (fun k => k ≤ 61) (fun k => 61 - k) 0 (Nat.zero_le _) ?_ ?_
 · exact le_head (ms := [4]) (by repeat (exact Out.refl _)) ⟨(by rfl), (by rfl), trivial⟩ ⟨(by rfl), trivial⟩ rfl rfl rfl rfl
 ·
  intro k hk
  refine awp_seq ?_
  refine awp_seq ?_
  refine awp_region 2 mixed (by kernel_rfl) ?_
  refine rg_q (q_m rfl) (rg_q (q_lss rfl rfl) ?_)
  refine rn ?_
  change Awp _ _ _ _ _
  refine awp_cond rfl (fun hc4 => ?_) (fun hc4 => ?_)
  ·
   (try simp only [nb, ne_eq] at hc4)
   have hlt : k < 61 := by omega
   have h0 := sAt_at hV (show k < 64 by omega)
   have h1 := sAt_at hV (show k + 1 < 64 by omega)
   have h2 := sAt_at hV (show k + 2 < 64 by omega)
   have h3 := sAt_at hV (show k + 3 < 64 by omega)
   have b0 := sAt_in hb k
   have b1 := sAt_in hb (k + 1)
   have b2 := sAt_in hb (k + 2)
   have b3 := sAt_in hb (k + 3)
   have hml : (V.map iC).length = V.length := List.length_map _
   have hs1 : (prtF V k).map shC ++ [shC (reI V k, imI V k)] = (prtF V (k + 1)).map shC := by rw [prtF_succ, List.map_append]; rfl
   have htl := prtF_len V k
   refine awp_skip ?_
   change Awp _ _ _ _ _
   refine awp_seq ?_
   refine awp_block ?_
   refine awp_region 24 mixed (by kernel_rfl) ?_
   refine rg_q (q_move (x := .rs _) rfl) (rg_q (q_move (x := .d (.sl _ _)) rfl) (rg_q (q_m rfl) ?_))
   refine rg_q (q_indexAddr sl77 rfl rfl (by omega) (map_at (k := k) (by omega) h0)) ?_
   refine rg_q (q_load sz3 rfl rfl) (rg_q (q_move (x := .d (.sl _ _)) rfl) (rg_q (q_m rfl) ?_))
   refine rg_q (q_add rfl rfl (In64.mk (by omega) (by omega))) ?_
   refine rg_q (q_indexAddr sl77 rfl rfl (by omega) (map_at (k := k + 2) (by omega) h2)) ?_
   refine rg_q (q_load sz3 rfl rfl) ?_
   refine rg_q (q_sub rfl rfl (In64.mk (by omega) (by omega))) ?_
   refine rg_q (q_move (x := .d (.sl _ _)) rfl) (rg_q (q_m rfl) ?_)
   refine rg_q (q_add rfl rfl (In64.mk (by omega) (by omega))) ?_
   refine rg_q (q_indexAddr sl77 rfl rfl (by omega) (map_at (k := k + 1) (by omega) h1)) ?_
   refine rg_q (q_load sz3 rfl rfl) (rg_q (q_move (x := .d (.sl _ _)) rfl) (rg_q (q_m rfl) ?_))
   refine rg_q (q_add rfl rfl (In64.mk (by omega) (by omega))) ?_
   refine rg_q (q_indexAddr sl77 rfl rfl (by omega) (map_at (k := k + 3) (by omega) h3)) ?_
   refine rg_q (q_load sz3 rfl rfl) ?_
   refine rg_q (q_sub rfl rfl (In64.mk (by omega) (by omega))) ?_
   refine rg_q (q_buildA (cs := [_, _]) ar63 zr63 rfl (.cons rfl (by exact .inl rfl) (.cons rfl (by exact .inl rfl) .nil)) ⟨⟨rfl, by decide⟩, ⟨rfl, by decide⟩, trivial⟩ rfl) ?_
   refine rg_q (q_buildSlice sl140 zr63 rfl rfl (by decide) (.cons rfl (by exact .inr ⟨_, rfl⟩) .nil) ⟨rfl, rfl, trivial⟩ rfl (by decide) rfl) ?_
   refine rg_nil ?_
   refine aops_append sl140 zr63 by63 rfl (by decide) rfl rfl rfl rfl (by (try simp only [List.length_map, List.length_append, List.length_cons, List.length_nil]); omega) (by (try simp only [List.length_map, List.length_append, List.length_cons, List.length_nil]); omega) rfl rfl ?_
   refine aops_q rfl (q_assign (x := .rs _) rfl) ?_
   refine aops_nil ?_
   change Awp _ _ _ _ _
   refine awp_region 3 mixed (by kernel_rfl) ?_
   refine rg_q (q_m rfl) ?_
   refine rg_q (q_add rfl rfl (In64.mk (by omega) (by omega))) ?_
   refine rg_q (q_a rfl) ?_
   refine rn ?_
   refine ⟨k + 1, by omega, by omega, ?_⟩
   exact le_head (ms := [4]) (by repeat (first | exact Out.head rfl rfl | (refine Out.put ?_ rfl) | (refine Out.site ?_ rfl) | (refine Out.killS ?_ rfl))) ⟨(by rfl), (by rfl), trivial⟩ ⟨(by (show Site.row _ _ _ = Site.row _ _ _; rw [← hs1]; rfl)), trivial⟩ rfl rfl rfl rfl
  ·
   (try simp only [nb, ne_eq] at hc4)
   have hk64 : k = 61 := by omega
   subst hk64
   refine awp_exit ?_
   change Awp _ _ _ _ _
   refine awp_seq ?_
   refine awp_region 2 mixed (by kernel_rfl) ?_
   refine rg_q (q_move (x := .rs _) rfl) (rg_q (q_assign (x := .rs _) rfl) ?_)
   refine rn ?_
   change Awp _ _ _ _ _
   refine awp_ret ?_
   refine ⟨_, (.cons (.tmp (by exact .rs rfl)) .nil), ?_⟩
   rfl

theorem smpS_len {t : Tsk} (h : TskOk t) {y : Int × Int} (hp : (0 ≤ y.1 ∧ y.1 < t.ne) ∧ 0 ≤ y.2 ∧ y.2 < t.ne) : (smpS t y).length = 64 := by
  obtain ⟨h1, h2, h3⟩ := tsk_len h
  obtain ⟨⟨q1, q2⟩, q3⟩ := pr_idx h (j := y.2.toNat) hp.1.1 hp.1.2 (by omega)
  unfold smpS
  rw [List.length_map]
  exact chK_len h1 (by omega)
theorem smpS_in {t : Tsk} (h : TskOk t) (y : Int × Int) : ∀ v ∈ smpS t y, -2047 ≤ v ∧ v ≤ 2047 := vI_in (chK_wh h.wh _)
set_option maxRecDepth 100000 in
theorem rpartsOf_p (t : Tsk) (y : Int × Int) (h : TskOk t) (hp : (0 ≤ y.1 ∧ y.1 < t.ne) ∧ 0 ≤ y.2 ∧ y.2 < t.ne) : PC Tryz.prog 107 [.agg (tskC t), .agg (shC y)] (.sl 2 ((prtF (smpS t y) 61).map shC)) := by
 refine pc_of_awpN Tryz.func107 rfl Tryz.ntmps107 (rs := [.tmp 4]) Tryz.results107 (by simp) fun w0 hmine hrnd hpn => ?_
 refine awp_seq ?_
 refine awp_region 3 mixed (by kernel_rfl) ?_
 refine rg_q (q_box rfl (by exact .inr ⟨_, rfl⟩)) ?_
 refine rg_q (q_box rfl (by exact .inr ⟨_, rfl⟩)) ?_
 refine rg_q (q_assign (x := .d (.sl _ _)) rfl) ?_
 refine rs (awp_region 6 mixed (by kernel_rfl) ?_)
 refine rg_q (q_fieldAddr fld37_1 rfl) ?_
 refine rg_q (q_loadA (ds := [_, _]) sz31 rfl rfl rfl) ?_
 refine rg_q (q_loadA (ds := [_, _]) sz63 rfl rfl rfl) ?_
 refine rg_q (q_call en177 (.cons rfl (.cons rfl .nil)) rfl (rtraceOf5_p t.ne t.bf y h.n2 hp.1 hp.2 h.wh h.nl)) ?_
 refine rg_q (q_call en176 (.cons rfl .nil) rfl (parts5_p (smpS t y) (smpS_len h hp) (smpS_in h y))) ?_
 refine rg_q (q_assign (x := .d (.sl _ _)) rfl) ?_
 refine rn ?_
 change Awp _ _ _ _ _
 refine awp_ret ?_
 refine ⟨_, (.cons (.tmp (by exact .d _)) .nil), ?_⟩
 rfl

def nuR (t : Tsk) (c : Int) (y : Int × Int) : Int × Int := if inR 0 (smpI t.ar (spI t.g c) y) 60 = true then (smpI t.ar (spI t.g c) y, 0) else (0, 12)
theorem cell_pr {t : Tsk} (h : TskOk t) {c : Int} {pr : Int × Int} (hc : clE t.g c = 0) (hp : (0 ≤ pr.1 ∧ pr.1 < t.ne) ∧ 0 ≤ pr.2 ∧ pr.2 < t.ne) : ArrOk t.ar ∧ ((0 ≤ pr.1 ∧ pr.1 < t.ar.el.length) ∧ 0 ≤ pr.2 ∧ pr.2 < t.ar.el.length) ∧ spotE (spI t.g c) = 0 ∧ plateE (spI t.g c).2 t.ar.ou.t = 0 := by
  obtain ⟨c1, c2⟩ := clE_ok hc
  obtain ⟨i1, i2, i3, i4⟩ := sp_in h c1 c2
  obtain ⟨hao, _⟩ := ckArr_ok h.ck
  have hel := h.el
  exact ⟨hao, by omega, spot_ok.2 ⟨i1, i2⟩, plate_ok.2 ⟨i3, i4⟩⟩
set_option maxRecDepth 100000 in
theorem rnumberAt_p (t : Tsk) (c : Int) (y : Int × Int) (h : TskOk t) (hc : clE t.g c = 0) (hp : (0 ≤ y.1 ∧ y.1 < t.ne) ∧ 0 ≤ y.2 ∧ y.2 < t.ne) : PC Tryz.prog 35 [.agg (tskC t), .v (.int .i64 (c)), .agg (shC y)] (.tup [.v (.int .i64 ((nuR t c y).1)), .v (.int .i64 ((nuR t c y).2))]) := by
 obtain ⟨hg, _, _⟩ := ckG_ok h.gr
 obtain ⟨c1, c2⟩ := clE_ok hc
 have hci := cells_in hg
 obtain ⟨hok, hpk, hs, hpl⟩ := cell_pr h hc hp
 refine pc_of_awpN Tryz.func35 rfl Tryz.ntmps35 (rs := [.tmp 6, .tmp 7]) Tryz.results35 (by simp) fun w0 hmine hrnd hpn => ?_
 refine awp_seq ?_
 refine awp_region 4 mixed (by kernel_rfl) ?_
 refine rg_q (q_box rfl (by exact .inr ⟨_, rfl⟩)) ?_
 refine rg_q (q_box rfl (by exact .inr ⟨_, rfl⟩)) ?_
 refine rg_q (q_a rfl) (rg_q (q_a rfl) ?_)
 refine rs (awp_region 9 mixed (by kernel_rfl) ?_)
 refine rg_q (q_fieldAddr fld37_0 rfl) ?_
 refine rg_q (q_loadA (ds := [_, _, _, _, _, _, _, _, _, _, _]) sz28 rfl rfl rfl) ?_
 refine rg_q (q_fieldAddr fld37_2 rfl) ?_
 refine rg_q (q_loadA (ds := [_, _, _, _, _]) sz35 rfl rfl rfl) ?_
 refine rg_q (q_m rfl) ?_
 refine rg_q (q_call en76 (.cons rfl (.cons rfl .nil)) rfl (rspot_p t.g c hg c1 (by omega))) ?_
 refine rg_q (q_loadA (ds := [_, _]) sz63 rfl rfl rfl) ?_
 refine rg_q (q_call en111 (.cons rfl (.cons rfl (.cons rfl .nil))) rfl (rsampleOf_p t.ar (spI t.g c) y hok hpk hs hpl)) ?_
 refine rg_q (q_a rfl) ?_
 refine rn ?_
 change Awp _ _ _ _ _
 refine awp_seq ?_
 refine awp_seq ?_
 refine awp_region 3 mixed (by kernel_rfl) ?_
 refine rg_q (q_m rfl) ?_
 refine rg_q (q_call en31 (.cons rfl (.cons rfl (.cons rfl .nil))) rfl (within4_p _ _ _)) ?_
 refine rg_q (q_not rfl) ?_
 refine rn ?_
 change Awp _ _ _ _ _
 refine awp_cond rfl (fun hc2 => ?_) (fun hc2 => ?_)
 ·
  (try simp only [nb, ne_eq] at hc2)
  have hz : nuR t c y = (0, 12) := by unfold nuR; rw [if_neg (by rw [hc2]; decide)]
  refine awp_seq ?_
  refine awp_region 2 mixed (by kernel_rfl) ?_
  refine rg_q (q_a rfl) (rg_q (q_a rfl) ?_)
  refine rn ?_
  change Awp _ _ _ _ _
  refine awp_ret ?_
  refine ⟨_, (.cons (.tmp (by exact .d _)) (.cons (.tmp (by exact .d _)) .nil)), ?_⟩
  rw [hz]; rfl
 ·
  (try simp only [nb, ne_eq] at hc2)
  have hz : nuR t c y = (smpI t.ar (spI t.g c) y, 0) := by unfold nuR; rw [if_pos hc2]
  refine awp_skip ?_
  change Awp _ _ _ _ _
  refine awp_seq ?_
  refine awp_region 3 mixed (by kernel_rfl) ?_
  refine rg_q (q_m rfl) (rg_q (q_a rfl) (rg_q (q_a rfl) ?_))
  refine rn ?_
  change Awp _ _ _ _ _
  refine awp_ret ?_
  refine ⟨_, (.cons (.tmp (by exact .d _)) (.cons (.tmp (by exact .d _)) .nil)), ?_⟩
  rw [hz]; rfl
set_option maxRecDepth 100000 in
theorem rall_p (n : Nat) (hn : n ≤ 1000) : PC Tryz.prog 55 [.v (.int .i64 ((n : Int)))] (.sl 1 ((allL n).map iC)) := by
 refine pc_of_awpN Tryz.func55 rfl Tryz.ntmps55 (rs := [.tmp 2]) Tryz.results55 (by simp) fun w0 hmine hrnd hpn => ?_
 refine awp_seq ?_
 refine awp_region 1 mixed (by kernel_rfl) ?_
 refine rg_q (q_assign (x := .d (.sl _ _)) rfl) ?_
 refine rs (awp_region 1 mixed (by kernel_rfl) ?_)
 refine rg_q (q_assign_nil) ?_
 refine rn ?_
 change Awp _ _ _ _ _
 refine Awp.le (le_own (k := 3) (e := 3) (sz := 1) rfl rfl) ?_
 refine awp_seq ?_
 refine awp_seq ?_
 refine awp_region 1 mixed (by kernel_rfl) ?_
 refine rg_q (q_a rfl) ?_
 refine rn ?_
 change Awp _ _ _ _ _
 refine awp_block ?_
 refine awp_loopH [3, 4, 5, 6, 7, 8, 9, 10, 11, 12, 13] [3] (α := Nat) (fun k => [(4, T.i (k : Int)), (3, .rs 3)]) (fun k => [(3, .row 3 1 ((allL k).map iC))]) (fun k => k ≤ n) (fun k => n - k) 0 (Nat.zero_le _) ?_ ?_
 · exact le_head (ms := [3]) (by repeat (exact Out.refl _)) ⟨(by rfl), (by rfl), trivial⟩ ⟨(by rfl), trivial⟩ rfl rfl rfl rfl
 ·
  intro k hk
  have hal := allL_len k
  refine awp_seq ?_
  refine awp_seq ?_
  refine awp_region 3 mixed (by kernel_rfl) ?_
  refine rg_q (q_m rfl) (rg_q (q_m rfl) (rg_q (q_lss rfl rfl) ?_))
  refine rn ?_
  change Awp _ _ _ _ _
  refine awp_cond rfl (fun hc3 => ?_) (fun hc3 => ?_)
  ·
   (try simp only [nb, ne_eq] at hc3)
   have hsk : (allL (k + 1)).map iC = (allL k).map iC ++ [[.v (.int .i64 (k : Int))]] := by rw [allL_succ, List.map_append]; rfl
   refine awp_skip ?_
   change Awp _ _ _ _ _
   refine awp_seq ?_
   refine awp_block ?_
   refine awp_region 3 mixed (by kernel_rfl) ?_
   refine rg_q (q_move (x := .rs _) rfl) (rg_q (q_m rfl) ?_)
   refine rg_q (q_buildSlice sl77 zr3 rfl rfl (by decide) (.cons rfl (by exact .inl rfl) .nil) ⟨rfl, rfl, trivial⟩ rfl (by decide) rfl) ?_
   refine rg_nil ?_
   refine aops_append sl77 zr3 by3 rfl (by decide) rfl rfl rfl rfl (by (try simp only [List.length_map, List.length_append, List.length_cons, List.length_nil]); omega) (by (try simp only [List.length_map, List.length_append, List.length_cons, List.length_nil]); omega) rfl rfl ?_
   refine aops_q rfl (q_assign (x := .rs _) rfl) ?_
   refine aops_nil ?_
   change Awp _ _ _ _ _
   refine awp_region 3 mixed (by kernel_rfl) ?_
   refine rg_q (q_m rfl) ?_
   refine rg_q (q_add rfl rfl (In64.mk (by omega) (by omega))) ?_
   refine rg_q (q_a rfl) ?_
   refine rn ?_
   refine ⟨k + 1, by omega, by omega, ?_⟩
   exact le_head (ms := [3]) (by repeat (first | exact Out.head rfl rfl | (refine Out.put ?_ rfl) | (refine Out.site ?_ rfl) | (refine Out.killS ?_ rfl))) ⟨(by rfl), (by rfl), trivial⟩ ⟨(by ((show Site.row 3 1 _ = Site.row 3 1 _; rw [hsk]; rfl))), trivial⟩ rfl rfl rfl rfl
  ·
   (try simp only [nb, ne_eq] at hc3)
   have hkn : k = n := by omega
   subst hkn
   refine awp_exit ?_
   change Awp _ _ _ _ _
   refine awp_seq ?_
   refine awp_region 2 mixed (by kernel_rfl) ?_
   refine rg_q (q_move (x := .rs _) rfl) (rg_q (q_assign (x := .rs _) rfl) ?_)
   refine rn ?_
   change Awp _ _ _ _ _
   refine awp_ret ?_
   refine ⟨_, (.cons (.tmp (by exact .rs rfl)) .nil), ?_⟩
   rfl

def prB (fs dd : List Int) (y : Int × Int) : Bool := decide (y.1 ∈ fs) && !decide (y.1 ∈ dd) && !decide (y.2 ∈ dd)
def pqD (fs dd : List Int) (n i : Nat) : List (Int × Int) := ((List.range i).flatMap fun u : Nat => pqR (u : Int) n).filter (prB fs dd)
theorem pqD_succ (fs dd : List Int) (n i : Nat) : pqD fs dd n (i + 1) = pqD fs dd n i ++ (pqR (i : Int) n).filter (prB fs dd) := by
  unfold pqD
  rw [List.range_succ, List.flatMap_append, List.filter_append]; simp
theorem prR_succ (fs dd : List Int) (x : Int) (j : Nat) : (pqR x (j + 1)).filter (prB fs dd) = (pqR x j).filter (prB fs dd) ++ (if prB fs dd (x, (j : Int)) = true then [(x, (j : Int))] else []) := by
  rw [pqR_succ, List.filter_append]
  congr 1
  by_cases h : prB fs dd (x, (j : Int)) = true
  · rw [if_pos h]; simp [h]
  · rw [if_neg h]; simp [h]
theorem pqR_len (x : Int) (j : Nat) : (pqR x j).length = j := by unfold pqR; rw [List.length_map, List.length_range]
theorem pqD_len (fs dd : List Int) (n : Nat) : ∀ i, (pqD fs dd n i).length ≤ i * n
  | 0 => Nat.zero_le _
  | i + 1 => by
    have ih := pqD_len fs dd n i
    have h := List.length_filter_le (prB fs dd) (pqR (i : Int) n)
    rw [pqR_len] at h
    rw [pqD_succ, List.length_append, Nat.succ_mul]; omega
theorem pqD_all (n : Nat) : pqD (allL n) [] n n = pqL (allL n) n := by
  unfold pqD pqL
  have e : ((List.range n).flatMap fun u : Nat => pqR (u : Int) n) = (allL n).flatMap fun x => pqR x n := by unfold allL; rw [List.flatMap_map]
  rw [e, List.filter_eq_self]
  intro y hy
  obtain ⟨h1, _⟩ := pqL_in hy
  unfold prB
  simp [h1]
set_option maxRecDepth 100000 in
theorem rpairs_p (n : Nat) (hn : n ≤ 16) (fs dd : List Int) : PC Tryz.prog 135 [.v (.int .i64 ((n : Int))), .sl 1 (fs.map iC), .sl 1 (dd.map iC)] (.sl 2 ((pqD fs dd n n).map shC)) := by
 refine pc_of_awpN Tryz.func135 rfl Tryz.ntmps135 (rs := [.tmp 6]) Tryz.results135 (by simp) fun w0 hmine hrnd hpn => ?_
 refine awp_seq ?_
 refine awp_region 1 mixed (by kernel_rfl) ?_
 refine rg_q (q_assign (x := .d (.sl _ _)) rfl) ?_
 refine rs (awp_region 1 mixed (by kernel_rfl) ?_)
 refine rg_q (q_assign_nil) ?_
 refine rn ?_
 change Awp _ _ _ _ _
 refine Awp.le (le_own (k := 7) (e := 63) (sz := 2) rfl rfl) ?_
 refine awp_seq ?_
 refine awp_seq ?_
 refine awp_region 1 mixed (by kernel_rfl) ?_
 refine rg_q (q_a rfl) ?_
 refine rn ?_
 change Awp _ _ _ _ _
 refine awp_block ?_
 refine awp_loopH [7, 8, 9, 10, 11, 12, 13, 14, 15, 16, 17, 18, 19, 20, 21, 22, 23, 24, 25, 26, 27, 28, 29, 30, 31, 32, 33, 34, 35, 36, 37, 38, 39, 40] [7] (α := Nat) (fun i => [(8, T.i (i : Int)), (7, .rs 7)]) (fun i => [(7, .row 63 2 ((pqD fs dd n i).map shC))]) (fun i => i ≤ n) (fun i => n - i) 0 (Nat.zero_le _) ?_ ?_
 · exact le_head (ms := [7]) (by repeat (exact Out.refl _)) ⟨(by rfl), (by rfl), trivial⟩ ⟨(by rfl), trivial⟩ rfl rfl rfl rfl
 ·
  intro i hi
  refine awp_seq ?_
  refine awp_seq ?_
  refine awp_region 3 mixed (by kernel_rfl) ?_
  refine rg_q (q_m rfl) (rg_q (q_m rfl) (rg_q (q_lss rfl rfl) ?_))
  refine rn ?_
  change Awp _ _ _ _ _
  refine awp_cond rfl (fun hc3 => ?_) (fun hc3 => ?_)
  ·
   (try simp only [nb, ne_eq] at hc3)
   have hlt : i < n := by omega
   refine awp_skip ?_
   change Awp _ _ _ _ _
   refine awp_seq ?_
   refine awp_block ?_
   refine awp_seq ?_
   refine awp_region 1 mixed (by kernel_rfl) ?_
   refine rg_q (q_a rfl) ?_
   refine rn ?_
   change Awp _ _ _ _ _
   refine awp_block ?_
   refine awp_loopH [7, 9, 15, 16, 17, 18, 19, 20, 21, 22, 23, 24, 25, 26, 27, 28, 29, 30, 31, 32, 33, 34, 35, 36, 37, 38, 39, 40] [7] (α := Nat) (fun j => [(9, T.i (j : Int)), (7, .rs 7)]) (fun j => [(7, .row 63 2 ((pqD fs dd n i ++ (pqR (i : Int) j).filter (prB fs dd)).map shC))]) (fun j => j ≤ n) (fun j => n - j) 0 (Nat.zero_le _) ?_ ?_
   · exact le_head (ms := [7]) (by repeat (exact Out.refl _)) ⟨(by rfl), (by rfl), trivial⟩ ⟨(by ((show Site.row _ _ _ = Site.row _ _ _; (simp [pqR]; done)))), trivial⟩ rfl rfl rfl rfl
   ·
    intro j hj
    have hl1 := pqD_len fs dd n i
    have hl2 := List.length_filter_le (prB fs dd) (pqR (i : Int) j)
    rw [pqR_len] at hl2
    have hl3 := Nat.mul_le_mul (show i ≤ 16 by omega) hn
    refine awp_seq ?_
    refine awp_seq ?_
    refine awp_region 3 mixed (by kernel_rfl) ?_
    refine rg_q (q_m rfl) (rg_q (q_m rfl) (rg_q (q_lss rfl rfl) ?_))
    refine rn ?_
    change Awp _ _ _ _ _
    refine awp_cond rfl (fun hc6 => ?_) (fun hc6 => ?_)
    ·
     (try simp only [nb, ne_eq] at hc6)
     have hlj : j < n := by omega
     refine awp_skip ?_
     change Awp _ _ _ _ _
     refine awp_seq ?_
     refine awp_block ?_
     refine awp_seq ?_
     refine awp_region 15 mixed (by kernel_rfl) ?_
     refine rg_q (q_move (x := .d (.sl _ _)) rfl) (rg_q (q_m rfl) ?_)
     refine rg_q (q_call en134 (.cons rfl (.cons rfl .nil)) rfl (has5_p _ _)) ?_
     refine rg_q (q_m rfl) ?_
     refine rg_g rfl rfl (fun hG => (q_move (x := .d (.sl _ _)) rfl)) ?_
     refine rg_g rfl rfl (fun hG => (q_m rfl)) ?_
     refine rg_g rfl rfl (fun hG => (q_call en134 (.cons rfl (.cons rfl .nil)) rfl (has5_p _ _))) ?_
     refine rg_g rfl rfl (fun hG => (q_not rfl)) ?_
     refine rg_pick rfl rfl rfl rfl rfl rfl ?_
     refine rg_q (q_m rfl) ?_
     refine rg_g rfl rfl (fun hG => (q_move (x := .d (.sl _ _)) rfl)) ?_
     refine rg_g rfl rfl (fun hG => (q_m rfl)) ?_
     refine rg_g rfl rfl (fun hG => (q_call en134 (.cons rfl (.cons rfl .nil)) rfl (has5_p _ _))) ?_
     refine rg_g rfl rfl (fun hG => (q_not rfl)) ?_
     refine rg_pick rfl rfl rfl rfl rfl rfl ?_
     refine rn ?_
     change Awp _ _ _ _ _
     refine awp_cond rfl (fun hc8 => ?_) (fun hc8 => ?_)
     ·
      (try simp only [nb, ne_eq] at hc8)
      have hb : prB fs dd ((i : Int), (j : Int)) = true := by unfold prB; simp [hc8]
      have hsk : (pqD fs dd n i ++ (pqR (i : Int) (j + 1)).filter (prB fs dd)).map shC = (pqD fs dd n i ++ (pqR (i : Int) j).filter (prB fs dd)).map shC ++ [shC ((i : Int), (j : Int))] := by rw [prR_succ, if_pos hb, ← List.append_assoc, List.map_append]; rfl
      refine awp_region 5 mixed (by kernel_rfl) ?_
      refine rg_q (q_move (x := .rs _) rfl) (rg_q (q_m rfl) (rg_q (q_m rfl) ?_))
      refine rg_q (q_buildA (cs := [_, _]) ar63 zr63 rfl (.cons rfl (by exact .inl rfl) (.cons rfl (by exact .inl rfl) .nil)) ⟨⟨rfl, by decide⟩, ⟨rfl, by decide⟩, trivial⟩ rfl) ?_
      refine rg_q (q_buildSlice sl140 zr63 rfl rfl (by decide) (.cons rfl (by exact .inr ⟨_, rfl⟩) .nil) ⟨rfl, rfl, trivial⟩ rfl (by decide) rfl) ?_
      refine rg_nil ?_
      refine aops_append sl140 zr63 by63 rfl (by decide) rfl rfl rfl rfl (by (try simp only [List.length_map, List.length_append, List.length_cons, List.length_nil]); omega) (by (try simp only [List.length_map, List.length_append, List.length_cons, List.length_nil]); omega) rfl rfl ?_
      refine aops_q rfl (q_assign (x := .rs _) rfl) ?_
      refine aops_nil ?_
      change Awp _ _ _ _ _
      refine awp_region 3 mixed (by kernel_rfl) ?_
      refine rg_q (q_m rfl) ?_
      refine rg_q (q_add rfl rfl (In64.mk (by omega) (by omega))) ?_
      refine rg_q (q_a rfl) ?_
      refine rn ?_
      refine ⟨j + 1, by omega, by omega, ?_⟩
      exact le_head (ms := [7]) (by repeat (first | exact Out.head rfl rfl | (refine Out.put ?_ rfl) | (refine Out.site ?_ rfl) | (refine Out.killS ?_ rfl))) ⟨(by rfl), (by rfl), trivial⟩ ⟨(by ((show Site.row _ _ _ = Site.row _ _ _; (rw [hsk]; rfl)))), trivial⟩ rfl rfl rfl rfl
     ·
      (try simp only [nb, ne_eq] at hc8)
      have hb : ¬ prB fs dd ((i : Int), (j : Int)) = true := by
       intro q
       unfold prB at q
       simp at q
       simp_all
      have hsk : (pqD fs dd n i ++ (pqR (i : Int) (j + 1)).filter (prB fs dd)).map shC = (pqD fs dd n i ++ (pqR (i : Int) j).filter (prB fs dd)).map shC := by rw [prR_succ, if_neg hb, List.append_nil]
      refine awp_skip ?_
      change Awp _ _ _ _ _
      refine awp_region 3 mixed (by kernel_rfl) ?_
      refine rg_q (q_m rfl) ?_
      refine rg_q (q_add rfl rfl (In64.mk (by omega) (by omega))) ?_
      refine rg_q (q_a rfl) ?_
      refine rn ?_
      refine ⟨j + 1, by omega, by omega, ?_⟩
      exact le_head (ms := [7]) (by repeat (first | exact Out.head rfl rfl | (refine Out.put ?_ rfl))) ⟨(by rfl), (by rfl), trivial⟩ ⟨(by ((show Site.row _ _ _ = Site.row _ _ _; (rw [hsk]; done)))), trivial⟩ rfl rfl rfl rfl
    ·
     (try simp only [nb, ne_eq] at hc6)
     have hjn : j = n := by omega
     subst hjn
     have hsk : (pqD fs dd j (i + 1)).map shC = (pqD fs dd j i ++ (pqR (i : Int) j).filter (prB fs dd)).map shC := by rw [pqD_succ]
     refine awp_exit ?_
     change Awp _ _ _ _ _
     refine awp_region 3 mixed (by kernel_rfl) ?_
     refine rg_q (q_m rfl) ?_
     refine rg_q (q_add rfl rfl (In64.mk (by omega) (by omega))) ?_
     refine rg_q (q_a rfl) ?_
     refine rn ?_
     refine ⟨i + 1, by omega, by omega, ?_⟩
     exact le_head (ms := [7]) (by repeat (first | exact Out.head rfl rfl | (refine Out.put ?_ rfl) | (refine Out.headIn ?_ rfl rfl rfl))) ⟨(by rfl), (by rfl), trivial⟩ ⟨(by ((show Site.row _ _ _ = Site.row _ _ _; (rw [hsk]; done)))), trivial⟩ rfl rfl rfl rfl
  ·
   (try simp only [nb, ne_eq] at hc3)
   have hin : i = n := by omega
   subst hin
   refine awp_exit ?_
   change Awp _ _ _ _ _
   refine awp_seq ?_
   refine awp_region 2 mixed (by kernel_rfl) ?_
   refine rg_q (q_move (x := .rs _) rfl) (rg_q (q_assign (x := .rs _) rfl) ?_)
   refine rn ?_
   change Awp _ _ _ _ _
   refine awp_ret ?_
   refine ⟨_, (.cons (.tmp (by exact .rs rfl)) .nil), ?_⟩
   rfl

theorem pqD_ev {t : Tsk} (h : t.ne.toNat = t.ar.el.length) : pqD (allL t.ar.el.length) [] t.ar.el.length t.ar.el.length = evL t := by
  rw [pqD_all]; unfold evL; rw [h]
set_option maxRecDepth 100000 in
theorem revery_p (t : Tsk) (h : TskOk t) : PC Tryz.prog 100 [.agg (tskC t)] (.sl 2 ((evL t).map shC)) := by
 have hn1 := h.n1
 have hn2 := h.n2
 have hel := h.el
 have hen : t.ne.toNat = t.ar.el.length := by omega
 refine pc_of_awpN Tryz.func100 rfl Tryz.ntmps100 (rs := [.tmp 2]) Tryz.results100 (by simp) fun w0 hmine hrnd hpn => ?_
 refine awp_seq ?_
 refine awp_region 2 mixed (by kernel_rfl) ?_
 refine rg_q (q_box rfl (by exact .inr ⟨_, rfl⟩)) ?_
 refine rg_q (q_assign (x := .d (.sl _ _)) rfl) ?_
 refine rs (awp_region 5 mixed (by kernel_rfl) ?_)
 refine rg_q (q_fieldAddr fld37_0 rfl) (rg_q (q_fieldAddr fld28_0 rfl) (rg_q (q_load sz22 rfl rfl) ?_))
 refine rg_q (q_len isl22 rfl (by exact len_map _ _)) ?_
 refine rg_q (q_a rfl) ?_
 refine rn ?_
 change Awp _ _ _ _ _
 refine awp_len (t := 6) rfl (fun hl6 => ?_)
 (try simp only [List.length_map] at hl6)
 refine awp_seq ?_
 refine awp_region 5 mixed (by kernel_rfl) ?_
 refine rg_q (q_m rfl) (rg_q (q_m rfl) ?_)
 refine rg_q (q_call en55 (.cons rfl .nil) rfl (rall_p t.ar.el.length (by omega))) ?_
 refine rg_q (q_call en135 (.cons rfl (.cons rfl (.cons rfl .nil))) rfl ((by have h := rpairs_p t.ar.el.length (by omega) (allL t.ar.el.length) []; rw [pqD_ev hen] at h; exact h))) ?_
 refine rg_q (q_assign (x := .d (.sl _ _)) rfl) ?_
 refine rn ?_
 change Awp _ _ _ _ _
 refine awp_ret ?_
 refine ⟨_, (.cons (.tmp (by exact .d _)) .nil), ?_⟩
 rfl
theorem vlF_nil (t : Tsk) (c : Int) (s : (Int × Int) × Int) (y : Int × Int) : vlF t c [] s y = if inR 0 (smpI t.ar (spI t.g c) y) 60 = true then ((s.1.1 + reI (smpS t y) (smpI t.ar (spI t.g c) y).toNat, s.1.2 + imI (smpS t y) (smpI t.ar (spI t.g c) y).toNat), s.2 + 1) else s := if_neg (show ¬ (hasI [] y.1 || hasI [] y.2) = true from Bool.false_ne_true)
def PrsOk (t : Tsk) (l : List (Int × Int)) : Prop := (∀ y ∈ l, (0 ≤ y.1 ∧ y.1 < t.ne) ∧ 0 ≤ y.2 ∧ y.2 < t.ne) ∧ l.length ≤ 1600
theorem ev_ok {t : Tsk} (h : TskOk t) : PrsOk t (evL t) := by
  obtain ⟨ha1, ha2⟩ := allL_ok h
  have h1 := h.n1
  have h2 := h.n2
  refine ⟨fun y hy => ?_, ?_⟩
  · obtain ⟨q1, q2, q3⟩ := pqL_in hy
    exact ⟨ha1 _ q1, q2, by omega⟩
  · unfold evL
    rw [pqL_len]
    have := Nat.mul_le_mul ha2 (show t.ne.toNat ≤ 16 by omega)
    omega
set_option maxRecDepth 100000 in
theorem open5_p (t : Tsk) (hw : (ckT t).2 ≠ 0) : PC Tryz.prog 112 [.agg (tskC t)] (.tup [.v (.pointer none), .v (.int .i64 ((ckT t).2))]) := by
 refine pc_of_awpN Tryz.func112 rfl Tryz.ntmps112 (rs := [.tmp 2, .tmp 3]) Tryz.results112 (by simp) fun w0 hmine hrnd hpn => ?_
 refine awp_seq ?_
 refine awp_region 3 mixed (by kernel_rfl) ?_
 refine rg_q (q_box rfl (by exact .inr ⟨_, rfl⟩)) ?_
 refine rg_q (q_a rfl) (rg_q (q_a rfl) ?_)
 refine rn ?_
 change Awp _ _ _ _ _
 refine awp_seq ?_
 refine awp_seq ?_
 refine awp_region 7 mixed (by kernel_rfl) ?_
 refine rg_q (q_loadA sz37 rfl rfl rfl) ?_
 refine rg_q (q_call en20 (.cons rfl .nil) rfl (checkTask5_p t)) ?_
 refine rg_q (q_move (x := .d (.tup _)) rfl) (rg_q (q_extract rfl rfl) (rg_q (q_extract rfl rfl) (rg_q (q_a rfl) (rg_q (q_a rfl) ?_))))
 refine rs (awp_region 2 mixed (by kernel_rfl) ?_)
 refine rg_q (q_m rfl) (rg_q (q_neq rfl rfl) ?_)
 refine rn ?_
 change Awp _ _ _ _ _
 refine awp_cond rfl (fun hc2 => ?_) (fun hc2 => ?_)
 ·
  (try simp only [nb, ne_eq] at hc2)
  refine awp_seq ?_
  refine awp_region 3 mixed (by kernel_rfl) ?_
  refine rg_q (q_m rfl) (rg_q (q_a rfl) (rg_q (q_a rfl) ?_))
  refine rn ?_
  change Awp _ _ _ _ _
  refine awp_ret ?_
  refine ⟨_, (.cons (.tmp (by exact .d _)) (.cons (.tmp (by exact .d _)) .nil)), ?_⟩
  rfl
 ·
  (try simp only [nb, ne_eq] at hc2)
  exact absurd hc2 hw
set_option maxRecDepth 100000 in
theorem openPair5_p (t : Tsk) (c : Int) (pr : Int × Int) (hw : (ckT t).2 ≠ 0) : PC Tryz.prog 108 [.agg (tskC t), .v (.int .i64 (c)), .agg (shC pr)] (.tup [.v (.pointer none), .v (.int .i64 ((ckT t).2))]) := by
 refine pc_of_awpN Tryz.func108 rfl Tryz.ntmps108 (rs := [.tmp 6, .tmp 7]) Tryz.results108 (by simp) fun w0 hmine hrnd hpn => ?_
 refine awp_seq ?_
 refine awp_region 4 mixed (by kernel_rfl) ?_
 refine rg_q (q_box rfl (by exact .inr ⟨_, rfl⟩)) ?_
 refine rg_q (q_box rfl (by exact .inr ⟨_, rfl⟩)) ?_
 refine rg_q (q_a rfl) (rg_q (q_a rfl) ?_)
 refine rs (awp_region 7 mixed (by kernel_rfl) ?_)
 refine rg_q (q_loadA sz37 rfl rfl rfl) ?_
 refine rg_q (q_call en112 (.cons rfl .nil) rfl (open5_p t hw)) ?_
 refine rg_q (q_move (x := .d (.tup _)) rfl) (rg_q (q_extract rfl rfl) (rg_q (q_extract rfl rfl) (rg_q (q_a rfl) (rg_q (q_a rfl) ?_))))
 refine rn ?_
 change Awp _ _ _ _ _
 refine awp_seq ?_
 refine awp_seq ?_
 refine awp_region 2 mixed (by kernel_rfl) ?_
 refine rg_q (q_m rfl) (rg_q (q_neq rfl rfl) ?_)
 refine rn ?_
 change Awp _ _ _ _ _
 refine awp_cond rfl (fun hc2 => ?_) (fun hc2 => ?_)
 ·
  (try simp only [nb, ne_eq] at hc2)
  refine awp_seq ?_
  refine awp_region 3 mixed (by kernel_rfl) ?_
  refine rg_q (q_m rfl) (rg_q (q_a rfl) (rg_q (q_a rfl) ?_))
  refine rn ?_
  change Awp _ _ _ _ _
  refine awp_ret ?_
  refine ⟨_, (.cons (.tmp (by exact .d _)) (.cons (.tmp (by exact .d _)) .nil)), ?_⟩
  rfl
 ·
  (try simp only [nb, ne_eq] at hc2)
  exact absurd hc2 hw
set_option maxRecDepth 100000 in
theorem openCell5_p (t : Tsk) (c : Int) (hw : (ckT t).2 ≠ 0) : PC Tryz.prog 94 [.agg (tskC t), .v (.int .i64 (c))] (.tup [.v (.pointer none), .v (.int .i64 ((ckT t).2))]) := by
 refine pc_of_awpN Tryz.func94 rfl Tryz.ntmps94 (rs := [.tmp 4, .tmp 5]) Tryz.results94 (by simp) fun w0 hmine hrnd hpn => ?_
 refine awp_seq ?_
 refine awp_region 3 mixed (by kernel_rfl) ?_
 refine rg_q (q_box rfl (by exact .inr ⟨_, rfl⟩)) ?_
 refine rg_q (q_a rfl) (rg_q (q_a rfl) ?_)
 refine rs (awp_region 8 mixed (by kernel_rfl) ?_)
 refine rg_q (q_loadA sz37 rfl rfl rfl) ?_
 refine rg_q (q_m rfl) ?_
 refine rg_q (q_buildA (cs := [_, _]) ar63 zr63 rfl .nil trivial rfl) ?_
 refine rg_q (q_call en108 (.cons rfl (.cons rfl (.cons rfl .nil))) rfl (openPair5_p t c (0, 0) hw)) ?_
 refine rg_q (q_extract rfl rfl) (rg_q (q_extract rfl rfl) (rg_q (q_a rfl) (rg_q (q_a rfl) ?_)))
 refine rn ?_
 change Awp _ _ _ _ _
 refine awp_ret ?_
 refine ⟨_, (.cons (.tmp (by exact .d _)) (.cons (.tmp (by exact .d _)) .nil)), ?_⟩
 rfl
set_option maxRecDepth 100000 in
theorem valueAtW_p (t : Tsk) (c : Int) (hw : (ckT t).2 ≠ 0) : PC Tryz.prog 23 [.agg (tskC t), .v (.int .i64 (c))] (.tup [.v (.complex .f64 0 0), .v (.int .i64 (0)), .v (.int .i64 ((ckT t).2))]) := by
 refine pc_of_awpN Tryz.func23 rfl Tryz.ntmps23 (rs := [.tmp 4, .tmp 5, .tmp 6]) Tryz.results23 (by simp) fun w0 hmine hrnd hpn => ?_
 refine awp_seq ?_
 refine awp_region 4 mixed (by kernel_rfl) ?_
 refine rg_q (q_box rfl (by exact .inr ⟨_, rfl⟩)) ?_
 refine rg_q (q_a rfl) (rg_q (q_a rfl) (rg_q (q_a rfl) ?_))
 refine rs (awp_region 8 mixed (by kernel_rfl) ?_)
 refine rg_q (q_loadA sz37 rfl rfl rfl) ?_
 refine rg_q (q_m rfl) ?_
 refine rg_q (q_call en94 (.cons rfl (.cons rfl .nil)) rfl (openCell5_p t c hw)) ?_
 refine rg_q (q_move (x := .d (.tup _)) rfl) (rg_q (q_extract rfl rfl) (rg_q (q_extract rfl rfl) (rg_q (q_a rfl) (rg_q (q_a rfl) ?_))))
 refine rn ?_
 change Awp _ _ _ _ _
 refine awp_seq ?_
 refine awp_seq ?_
 refine awp_region 2 mixed (by kernel_rfl) ?_
 refine rg_q (q_m rfl) (rg_q (q_neq rfl rfl) ?_)
 refine rn ?_
 change Awp _ _ _ _ _
 refine awp_cond rfl (fun hc2 => ?_) (fun hc2 => ?_)
 ·
  (try simp only [nb, ne_eq] at hc2)
  refine awp_seq ?_
  refine awp_region 4 mixed (by kernel_rfl) ?_
  refine rg_q (q_m rfl) (rg_q (q_a rfl) (rg_q (q_a rfl) (rg_q (q_a rfl) ?_)))
  refine rn ?_
  change Awp _ _ _ _ _
  refine awp_ret ?_
  refine ⟨_, (.cons (.tmp (by exact .d _)) (.cons (.tmp (by exact .d _)) (.cons (.tmp (by exact .d _)) .nil))), ?_⟩
  rfl
 ·
  (try simp only [nb, ne_eq] at hc2)
  exact absurd hc2 hw
set_option maxRecDepth 100000 in
theorem valueAtC_p (t : Tsk) (c : Int) (h : TskOk t) (hc : clE t.g c ≠ 0) : PC Tryz.prog 23 [.agg (tskC t), .v (.int .i64 (c))] (.tup [.v (.complex .f64 0 0), .v (.int .i64 (0)), .v (.int .i64 (clE t.g c))]) := by
 refine pc_of_awpN Tryz.func23 rfl Tryz.ntmps23 (rs := [.tmp 4, .tmp 5, .tmp 6]) Tryz.results23 (by simp) fun w0 hmine hrnd hpn => ?_
 refine awp_seq ?_
 refine awp_region 4 mixed (by kernel_rfl) ?_
 refine rg_q (q_box rfl (by exact .inr ⟨_, rfl⟩)) ?_
 refine rg_q (q_a rfl) (rg_q (q_a rfl) (rg_q (q_a rfl) ?_))
 refine rs (awp_region 8 mixed (by kernel_rfl) ?_)
 refine rg_q (q_loadA sz37 rfl rfl rfl) ?_
 refine rg_q (q_m rfl) ?_
 refine rg_q (q_call en94 (.cons rfl (.cons rfl .nil)) rfl (openCell_p t c h)) ?_
 refine rg_q (q_move (x := .d (.tup _)) rfl) (rg_q (q_extract rfl rfl) (rg_q (q_extract rfl rfl) (rg_q (q_assign (x := .d (.pt _ _)) rfl) (rg_q (q_a rfl) ?_))))
 refine rn ?_
 change Awp _ _ _ _ _
 refine awp_seq ?_
 refine awp_seq ?_
 refine awp_region 2 mixed (by kernel_rfl) ?_
 refine rg_q (q_m rfl) (rg_q (q_neq rfl rfl) ?_)
 refine rn ?_
 change Awp _ _ _ _ _
 refine awp_cond rfl (fun hc2 => ?_) (fun hc2 => ?_)
 ·
  (try simp only [nb, ne_eq] at hc2)
  refine awp_seq ?_
  refine awp_region 4 mixed (by kernel_rfl) ?_
  refine rg_q (q_m rfl) (rg_q (q_a rfl) (rg_q (q_a rfl) (rg_q (q_a rfl) ?_)))
  refine rn ?_
  change Awp _ _ _ _ _
  refine awp_ret ?_
  refine ⟨_, (.cons (.tmp (by exact .d _)) (.cons (.tmp (by exact .d _)) (.cons (.tmp (by exact .d _)) .nil))), ?_⟩
  rfl
 ·
  (try simp only [nb, ne_eq] at hc2)
  exact absurd hc2 hc

def tcE (t : Tsk) (c : Int) : Int := if (ckT t).2 ≠ 0 then (ckT t).2 else clE t.g c
theorem tcE_zero {t : Tsk} {c : Int} (h : tcE t c = 0) : TskOk t ∧ clE t.g c = 0 := by
  unfold tcE at h
  by_cases h1 : (ckT t).2 ≠ 0
  · rw [if_pos h1] at h; exact absurd h h1
  · rw [if_neg h1] at h; exact ⟨ckT_ok (Decidable.not_not.1 h1), h⟩
def cvD (z : Nat × Nat) : D := .v (.complex .f64 z.1 z.2)
def czP (x : Int × Int) : Nat × Nat := (FloatKind.f64.nearest x.1, FloatKind.f64.nearest x.2)
def vaR (t : Tsk) (c : Int) : ((Nat × Nat) × Int) × Int := if tcE t c ≠ 0 then (((0, 0), 0), tcE t c) else ((czP (vlI t c).1, (vlI t c).2), 0)
theorem valueAt5_p (t : Tsk) (c : Int) : PC Tryz.prog 23 [.agg (tskC t), .v (.int .i64 c)] (.tup [cvD (vaR t c).1.1, .v (.int .i64 (vaR t c).1.2), .v (.int .i64 (vaR t c).2)]) := by
  by_cases hw : (ckT t).2 ≠ 0
  · have e : tcE t c = (ckT t).2 := by unfold tcE; rw [if_pos hw]
    have hv : vaR t c = (((0, 0), 0), (ckT t).2) := by unfold vaR; rw [e, if_pos hw]
    rw [hv]
    exact valueAtW_p t c hw
  · have h := ckT_ok (Decidable.not_not.1 hw)
    have e : tcE t c = clE t.g c := by unfold tcE; rw [if_neg hw]
    by_cases hc : clE t.g c ≠ 0
    · have hv : vaR t c = (((0, 0), 0), clE t.g c) := by unfold vaR; rw [e, if_pos hc]
      rw [hv]
      exact valueAtC_p t c h hc
    · have hv : vaR t c = ((czP (vlI t c).1, (vlI t c).2), 0) := by unfold vaR; rw [e, if_neg hc]
      rw [hv]
      exact valueAt_p t c h (Decidable.not_not.1 hc)
end Go.Proofs.YtphlaicnmmglhaaGreat.Am.M
-- mini
namespace Go.Proofs.YtphlaicnmmglhaaGreat.Am.M
open Go

end Go.Proofs.YtphlaicnmmglhaaGreat.Am.M
-- mini
namespace Go.Proofs.YtphlaicnmmglhaaGreat.Am.M
open Go

def nmE (t : Tsk) (c : Int) (p : Int × Int) : Int := if (ckT t).2 ≠ 0 then (ckT t).2 else oprE t c p
def naR (t : Tsk) (c : Int) (p : Int × Int) : Int × Int := if nmE t c p ≠ 0 then (0, nmE t c p) else nuR t c p
def nsI (t : Tsk) (c : Int) (p : Int × Int) : (Int × Int) × Int := if (nrI t c p).2 < (nrI t c p).1 then ((0, 0), 12) else (nrI t c p, 0)
def nsR (t : Tsk) (c : Int) (p : Int × Int) : (Int × Int) × Int := if nmE t c p ≠ 0 then ((0, 0), nmE t c p) else nsI t c p
theorem oprE_ok {t : Tsk} {c : Int} {p : Int × Int} (h : oprE t c p = 0) : clE t.g c = 0 ∧ (0 ≤ p.1 ∧ p.1 < t.ne) ∧ 0 ≤ p.2 ∧ p.2 < t.ne := by
  unfold oprE at h
  have h := first_zero.1 h
  simp only [List.mem_cons, List.not_mem_nil, or_false, forall_eq_or_imp, forall_eq] at h
  obtain ⟨h1, h2⟩ := h
  rw [when_zero (by decide), Bool.or_eq_false_iff, Bool.not_eq_false', Bool.not_eq_false'] at h2
  obtain ⟨a1, a2⟩ := inR_iff.1 h2.1
  obtain ⟨b1, b2⟩ := inR_iff.1 h2.2
  exact ⟨h1, ⟨a1, by omega⟩, b1, by omega⟩
theorem oprE_is (t : Tsk) (c : Int) (p : Int × Int) : oprE t c p = if clE t.g c ≠ 0 then clE t.g c else whenI (!inR 0 p.1 (t.ne - 1) || !inR 0 p.2 (t.ne - 1)) 6 := by
  show (if clE t.g c = 0 then (if whenI _ 6 = 0 then 0 else whenI _ 6) else clE t.g c) = _
  by_cases h : clE t.g c = 0
  · rw [if_pos h, if_neg (c := clE t.g c ≠ 0) (fun q => q h)]
    split
    · rename_i q; rw [q]
    · rfl
  · rw [if_neg h, if_pos h]
set_option maxRecDepth 100000 in
theorem numberAtW_p (t : Tsk) (c : Int) (p : Int × Int) (hw : (ckT t).2 ≠ 0) : PC Tryz.prog 32 [.agg (tskC t), .v (.int .i64 (c)), .agg (shC p)] (.tup [.v (.int .i64 (0)), .v (.int .i64 ((ckT t).2))]) := by
 refine pc_of_awpN Tryz.func32 rfl Tryz.ntmps32 (rs := [.tmp 6, .tmp 7]) Tryz.results32 (by simp) fun w0 hmine hrnd hpn => ?_
 refine awp_seq ?_
 refine awp_region 4 mixed (by kernel_rfl) ?_
 refine rg_q (q_box rfl (by exact .inr ⟨_, rfl⟩)) ?_
 refine rg_q (q_box rfl (by exact .inr ⟨_, rfl⟩)) ?_
 refine rg_q (q_a rfl) (rg_q (q_a rfl) ?_)
 refine rs (awp_region 9 mixed (by kernel_rfl) ?_)
 refine rg_q (q_loadA sz37 rfl rfl rfl) ?_
 refine rg_q (q_m rfl) ?_
 refine rg_q (q_loadA (ds := [_, _]) sz63 rfl rfl rfl) ?_
 refine rg_q (q_call en108 (.cons rfl (.cons rfl (.cons rfl .nil))) rfl (openPair5_p t c p hw)) ?_
 refine rg_q (q_move (x := .d (.tup _)) rfl) (rg_q (q_extract rfl rfl) (rg_q (q_extract rfl rfl) (rg_q (q_a rfl) (rg_q (q_a rfl) ?_))))
 refine rn ?_
 change Awp _ _ _ _ _
 refine awp_seq ?_
 refine awp_seq ?_
 refine awp_region 2 mixed (by kernel_rfl) ?_
 refine rg_q (q_m rfl) (rg_q (q_neq rfl rfl) ?_)
 refine rn ?_
 change Awp _ _ _ _ _
 refine awp_cond rfl (fun hc2 => ?_) (fun hc2 => ?_)
 ·
  (try simp only [nb, ne_eq] at hc2)
  refine awp_seq ?_
  refine awp_region 3 mixed (by kernel_rfl) ?_
  refine rg_q (q_m rfl) (rg_q (q_a rfl) (rg_q (q_a rfl) ?_))
  refine rn ?_
  change Awp _ _ _ _ _
  refine awp_ret ?_
  refine ⟨_, (.cons (.tmp (by exact .d _)) (.cons (.tmp (by exact .d _)) .nil)), ?_⟩
  rfl
 ·
  (try simp only [nb, ne_eq] at hc2)
  exact absurd hc2 hw
set_option maxRecDepth 100000 in
theorem numberAtO_p (t : Tsk) (c : Int) (p : Int × Int) (h : TskOk t) (ho : oprE t c p ≠ 0) : PC Tryz.prog 32 [.agg (tskC t), .v (.int .i64 (c)), .agg (shC p)] (.tup [.v (.int .i64 (0)), .v (.int .i64 (oprE t c p))]) := by
 refine pc_of_awpN Tryz.func32 rfl Tryz.ntmps32 (rs := [.tmp 6, .tmp 7]) Tryz.results32 (by simp) fun w0 hmine hrnd hpn => ?_
 refine awp_seq ?_
 refine awp_region 4 mixed (by kernel_rfl) ?_
 refine rg_q (q_box rfl (by exact .inr ⟨_, rfl⟩)) ?_
 refine rg_q (q_box rfl (by exact .inr ⟨_, rfl⟩)) ?_
 refine rg_q (q_a rfl) (rg_q (q_a rfl) ?_)
 refine rs (awp_region 9 mixed (by kernel_rfl) ?_)
 refine rg_q (q_loadA sz37 rfl rfl rfl) ?_
 refine rg_q (q_m rfl) ?_
 refine rg_q (q_loadA (ds := [_, _]) sz63 rfl rfl rfl) ?_
 refine rg_q (q_call en108 (.cons rfl (.cons rfl (.cons rfl .nil))) rfl (openPair_p t c p h)) ?_
 refine rg_q (q_move (x := .d (.tup _)) rfl) (rg_q (q_extract rfl rfl) (rg_q (q_extract rfl rfl) (rg_q (q_assign (x := .d (.pt _ _)) rfl) (rg_q (q_a rfl) ?_))))
 refine rn ?_
 change Awp _ _ _ _ _
 refine awp_seq ?_
 refine awp_seq ?_
 refine awp_region 2 mixed (by kernel_rfl) ?_
 refine rg_q (q_m rfl) (rg_q (q_neq rfl rfl) ?_)
 refine rn ?_
 change Awp _ _ _ _ _
 refine awp_cond rfl (fun hc2 => ?_) (fun hc2 => ?_)
 ·
  (try simp only [nb, ne_eq] at hc2)
  refine awp_seq ?_
  refine awp_region 3 mixed (by kernel_rfl) ?_
  refine rg_q (q_m rfl) (rg_q (q_a rfl) (rg_q (q_a rfl) ?_))
  refine rn ?_
  change Awp _ _ _ _ _
  refine awp_ret ?_
  refine ⟨_, (.cons (.tmp (by exact .d _)) (.cons (.tmp (by exact .d _)) .nil)), ?_⟩
  rfl
 ·
  (try simp only [nb, ne_eq] at hc2)
  exact absurd hc2 ho
set_option maxRecDepth 100000 in
theorem numberAtK_p (t : Tsk) (c : Int) (p : Int × Int) (h : TskOk t) (ho : oprE t c p = 0) : PC Tryz.prog 32 [.agg (tskC t), .v (.int .i64 (c)), .agg (shC p)] (.tup [.v (.int .i64 ((nuR t c p).1)), .v (.int .i64 ((nuR t c p).2))]) := by
 obtain ⟨hc, hp⟩ := oprE_ok ho
 refine pc_of_awpN Tryz.func32 rfl Tryz.ntmps32 (rs := [.tmp 6, .tmp 7]) Tryz.results32 (by simp) fun w0 hmine hrnd hpn => ?_
 refine awp_seq ?_
 refine awp_region 4 mixed (by kernel_rfl) ?_
 refine rg_q (q_box rfl (by exact .inr ⟨_, rfl⟩)) ?_
 refine rg_q (q_box rfl (by exact .inr ⟨_, rfl⟩)) ?_
 refine rg_q (q_a rfl) (rg_q (q_a rfl) ?_)
 refine rs (awp_region 9 mixed (by kernel_rfl) ?_)
 refine rg_q (q_loadA sz37 rfl rfl rfl) ?_
 refine rg_q (q_m rfl) ?_
 refine rg_q (q_loadA (ds := [_, _]) sz63 rfl rfl rfl) ?_
 refine rg_q (q_call en108 (.cons rfl (.cons rfl (.cons rfl .nil))) rfl ((by have q := openPair_p t c p h; rw [ho] at q; exact q))) ?_
 refine rg_q (q_move (x := .d (.tup _)) rfl) (rg_q (q_extract rfl rfl) (rg_q (q_extract rfl rfl) (rg_q (q_assign (x := .d (.pt _ _)) rfl) (rg_q (q_a rfl) ?_))))
 refine rn ?_
 change Awp _ _ _ _ _
 refine awp_seq ?_
 refine awp_seq ?_
 refine awp_region 2 mixed (by kernel_rfl) ?_
 refine rg_q (q_m rfl) (rg_q (q_neq rfl rfl) ?_)
 refine rn ?_
 change Awp _ _ _ _ _
 refine awp_cond rfl (fun hc2 => ?_) (fun hc2 => ?_)
 ·
  simp at hc2
 ·
  (try simp only [nb, ne_eq] at hc2)
  refine awp_skip ?_
  change Awp _ _ _ _ _
  refine awp_seq ?_
  refine awp_region 9 mixed (by kernel_rfl) ?_
  refine rg_q (q_move (x := .d (.pt _ _)) rfl) (rg_q (q_m rfl) ?_)
  refine rg_q (q_loadA (ds := [_, _]) sz63 rfl rfl rfl) ?_
  refine rg_q (q_call en109 (.cons rfl (.cons rfl (.cons rfl .nil))) rfl (number_p t c p h hc hp)) ?_
  refine rg_q (q_move (x := .d (.tup _)) rfl) (rg_q (q_extract rfl rfl) (rg_q (q_extract rfl rfl) (rg_q (q_a rfl) (rg_q (q_a rfl) ?_))))
  refine rn ?_
  change Awp _ _ _ _ _
  refine awp_seq ?_
  refine awp_seq ?_
  refine awp_region 2 mixed (by kernel_rfl) ?_
  refine rg_q (q_m rfl) (rg_q (q_not rfl) ?_)
  refine rn ?_
  change Awp _ _ _ _ _
  refine awp_cond rfl (fun hc5 => ?_) (fun hc5 => ?_)
  ·
   (try simp only [nb, ne_eq] at hc5)
   have hz : nuR t c p = (0, 12) := by unfold nuR; rw [if_neg (by rw [hc5]; decide)]
   refine awp_seq ?_
   refine awp_region 2 mixed (by kernel_rfl) ?_
   refine rg_q (q_a rfl) (rg_q (q_a rfl) ?_)
   refine rn ?_
   change Awp _ _ _ _ _
   refine awp_ret ?_
   refine ⟨_, (.cons (.tmp (by exact .d _)) (.cons (.tmp (by exact .d _)) .nil)), ?_⟩
   rw [hz]; rfl
  ·
   (try simp only [nb, ne_eq] at hc5)
   have hz : nuR t c p = (smpI t.ar (spI t.g c) p, 0) := by unfold nuR; rw [if_pos hc5]
   refine awp_skip ?_
   change Awp _ _ _ _ _
   refine awp_seq ?_
   refine awp_region 3 mixed (by kernel_rfl) ?_
   refine rg_q (q_m rfl) (rg_q (q_a rfl) (rg_q (q_a rfl) ?_))
   refine rn ?_
   change Awp _ _ _ _ _
   refine awp_ret ?_
   refine ⟨_, (.cons (.tmp (by exact .d _)) (.cons (.tmp (by exact .d _)) .nil)), ?_⟩
   rw [hz]; rfl

theorem numberAt5_p (t : Tsk) (c : Int) (p : Int × Int) : PC Tryz.prog 32 [.agg (tskC t), .v (.int .i64 c), .agg (shC p)] (.tup [.v (.int .i64 (naR t c p).1), .v (.int .i64 (naR t c p).2)]) := by
  by_cases hw : (ckT t).2 ≠ 0
  · have e : nmE t c p = (ckT t).2 := by unfold nmE; rw [if_pos hw]
    have hv : naR t c p = (0, (ckT t).2) := by unfold naR; rw [e, if_pos hw]
    rw [hv]
    exact numberAtW_p t c p hw
  · have h := ckT_ok (Decidable.not_not.1 hw)
    have e : nmE t c p = oprE t c p := by unfold nmE; rw [if_neg hw]
    by_cases ho : oprE t c p ≠ 0
    · have hv : naR t c p = (0, oprE t c p) := by unfold naR; rw [e, if_pos ho]
      rw [hv]
      exact numberAtO_p t c p h ho
    · have hv : naR t c p = nuR t c p := by unfold naR; rw [e, if_neg ho]
      rw [hv]
      exact numberAtK_p t c p h (Decidable.not_not.1 ho)
set_option maxRecDepth 100000 in
theorem numbersAtW_p (t : Tsk) (c : Int) (p : Int × Int) (hw : (ckT t).2 ≠ 0) : PC Tryz.prog 33 [.agg (tskC t), .v (.int .i64 (c)), .agg (shC p)] (.tup [.agg (shC (0, 0)), .v (.int .i64 ((ckT t).2))]) := by
 refine pc_of_awpN Tryz.func33 rfl Tryz.ntmps33 (rs := [.cell 6 56, .tmp 7]) Tryz.results33 (by simp) fun w0 hmine hrnd hpn => ?_
 refine awp_seq ?_
 refine awp_region 2 mixed (by kernel_rfl) ?_
 refine rg_q (q_box rfl (by exact .inr ⟨_, rfl⟩)) ?_
 refine rg_q (q_box rfl (by exact .inr ⟨_, rfl⟩)) ?_
 refine rg_nil ?_
 refine aops_alloc zr56 rfl rfl rfl ?_
 refine aops_q rfl (q_a rfl) ?_
 refine aops_nil ?_
 change Awp _ _ _ _ _
 refine awp_seq ?_
 refine awp_region 9 mixed (by kernel_rfl) ?_
 refine rg_q (q_loadA sz37 rfl rfl rfl) ?_
 refine rg_q (q_m rfl) ?_
 refine rg_q (q_loadA (ds := [_, _]) sz63 rfl rfl rfl) ?_
 refine rg_q (q_call en108 (.cons rfl (.cons rfl (.cons rfl .nil))) rfl (openPair5_p t c p hw)) ?_
 refine rg_q (q_move (x := .d (.tup _)) rfl) (rg_q (q_extract rfl rfl) (rg_q (q_extract rfl rfl) (rg_q (q_a rfl) (rg_q (q_a rfl) ?_))))
 refine rn ?_
 change Awp _ _ _ _ _
 refine awp_seq ?_
 refine awp_seq ?_
 refine awp_region 2 mixed (by kernel_rfl) ?_
 refine rg_q (q_m rfl) (rg_q (q_neq rfl rfl) ?_)
 refine rn ?_
 change Awp _ _ _ _ _
 refine awp_cond rfl (fun hc2 => ?_) (fun hc2 => ?_)
 ·
  (try simp only [nb, ne_eq] at hc2)
  refine awp_seq ?_
  refine awp_region 2 mixed (by kernel_rfl) ?_
  refine rg_q (q_build (cs := [_, _]) pl56 zr56 rfl .nil trivial rfl) ?_
  refine rg_q (q_m rfl) ?_
  refine rg_nil ?_
  refine aops_store sz56 rfl rfl (by exact .inr ⟨_, rfl⟩) rfl rfl (by decide) rfl ?_
  refine aops_q rfl (q_a rfl) ?_
  refine aops_nil ?_
  change Awp _ _ _ _ _
  refine awp_ret ?_
  refine ⟨_, (.cons (.cellA rfl rfl sz56 rfl) (.cons (.tmp (by exact .d _)) .nil)), ?_⟩
  rfl
 ·
  (try simp only [nb, ne_eq] at hc2)
  exact absurd hc2 hw
set_option maxRecDepth 100000 in
theorem numbersAtO_p (t : Tsk) (c : Int) (p : Int × Int) (h : TskOk t) (ho : oprE t c p ≠ 0) : PC Tryz.prog 33 [.agg (tskC t), .v (.int .i64 (c)), .agg (shC p)] (.tup [.agg (shC (0, 0)), .v (.int .i64 (oprE t c p))]) := by
 refine pc_of_awpN Tryz.func33 rfl Tryz.ntmps33 (rs := [.cell 6 56, .tmp 7]) Tryz.results33 (by simp) fun w0 hmine hrnd hpn => ?_
 refine awp_seq ?_
 refine awp_region 2 mixed (by kernel_rfl) ?_
 refine rg_q (q_box rfl (by exact .inr ⟨_, rfl⟩)) ?_
 refine rg_q (q_box rfl (by exact .inr ⟨_, rfl⟩)) ?_
 refine rg_nil ?_
 refine aops_alloc zr56 rfl rfl rfl ?_
 refine aops_q rfl (q_a rfl) ?_
 refine aops_nil ?_
 change Awp _ _ _ _ _
 refine awp_seq ?_
 refine awp_region 9 mixed (by kernel_rfl) ?_
 refine rg_q (q_loadA sz37 rfl rfl rfl) ?_
 refine rg_q (q_m rfl) ?_
 refine rg_q (q_loadA (ds := [_, _]) sz63 rfl rfl rfl) ?_
 refine rg_q (q_call en108 (.cons rfl (.cons rfl (.cons rfl .nil))) rfl (openPair_p t c p h)) ?_
 refine rg_q (q_move (x := .d (.tup _)) rfl) (rg_q (q_extract rfl rfl) (rg_q (q_extract rfl rfl) (rg_q (q_assign (x := .d (.pt _ _)) rfl) (rg_q (q_a rfl) ?_))))
 refine rn ?_
 change Awp _ _ _ _ _
 refine awp_seq ?_
 refine awp_seq ?_
 refine awp_region 2 mixed (by kernel_rfl) ?_
 refine rg_q (q_m rfl) (rg_q (q_neq rfl rfl) ?_)
 refine rn ?_
 change Awp _ _ _ _ _
 refine awp_cond rfl (fun hc2 => ?_) (fun hc2 => ?_)
 ·
  (try simp only [nb, ne_eq] at hc2)
  refine awp_seq ?_
  refine awp_region 2 mixed (by kernel_rfl) ?_
  refine rg_q (q_build (cs := [_, _]) pl56 zr56 rfl .nil trivial rfl) ?_
  refine rg_q (q_m rfl) ?_
  refine rg_nil ?_
  refine aops_store sz56 rfl rfl (by exact .inr ⟨_, rfl⟩) rfl rfl (by decide) rfl ?_
  refine aops_q rfl (q_a rfl) ?_
  refine aops_nil ?_
  change Awp _ _ _ _ _
  refine awp_ret ?_
  refine ⟨_, (.cons (.cellA rfl rfl sz56 rfl) (.cons (.tmp (by exact .d _)) .nil)), ?_⟩
  rfl
 ·
  (try simp only [nb, ne_eq] at hc2)
  exact absurd hc2 ho
set_option maxRecDepth 100000 in
theorem numbersAtK_p (t : Tsk) (c : Int) (p : Int × Int) (h : TskOk t) (ho : oprE t c p = 0) : PC Tryz.prog 33 [.agg (tskC t), .v (.int .i64 (c)), .agg (shC p)] (.tup [.agg (shC ((nsI t c p).1)), .v (.int .i64 ((nsI t c p).2))]) := by
 obtain ⟨hc, hp⟩ := oprE_ok ho
 refine pc_of_awpN Tryz.func33 rfl Tryz.ntmps33 (rs := [.cell 6 56, .tmp 7]) Tryz.results33 (by simp) fun w0 hmine hrnd hpn => ?_
 refine awp_seq ?_
 refine awp_region 2 mixed (by kernel_rfl) ?_
 refine rg_q (q_box rfl (by exact .inr ⟨_, rfl⟩)) ?_
 refine rg_q (q_box rfl (by exact .inr ⟨_, rfl⟩)) ?_
 refine rg_nil ?_
 refine aops_alloc zr56 rfl rfl rfl ?_
 refine aops_q rfl (q_a rfl) ?_
 refine aops_nil ?_
 change Awp _ _ _ _ _
 refine awp_seq ?_
 refine awp_region 9 mixed (by kernel_rfl) ?_
 refine rg_q (q_loadA sz37 rfl rfl rfl) ?_
 refine rg_q (q_m rfl) ?_
 refine rg_q (q_loadA (ds := [_, _]) sz63 rfl rfl rfl) ?_
 refine rg_q (q_call en108 (.cons rfl (.cons rfl (.cons rfl .nil))) rfl ((by have q := openPair_p t c p h; rw [ho] at q; exact q))) ?_
 refine rg_q (q_move (x := .d (.tup _)) rfl) (rg_q (q_extract rfl rfl) (rg_q (q_extract rfl rfl) (rg_q (q_assign (x := .d (.pt _ _)) rfl) (rg_q (q_a rfl) ?_))))
 refine rn ?_
 change Awp _ _ _ _ _
 refine awp_seq ?_
 refine awp_seq ?_
 refine awp_region 2 mixed (by kernel_rfl) ?_
 refine rg_q (q_m rfl) (rg_q (q_neq rfl rfl) ?_)
 refine rn ?_
 change Awp _ _ _ _ _
 refine awp_cond rfl (fun hc2 => ?_) (fun hc2 => ?_)
 ·
  simp at hc2
 ·
  (try simp only [nb, ne_eq] at hc2)
  refine awp_skip ?_
  change Awp _ _ _ _ _
  refine awp_seq ?_
  refine awp_region 7 mixed (by kernel_rfl) ?_
  refine rg_q (q_move (x := .d (.pt _ _)) rfl) (rg_q (q_m rfl) ?_)
  refine rg_q (q_loadA (ds := [_, _]) sz63 rfl rfl rfl) ?_
  refine rg_q (q_call en103 (.cons rfl (.cons rfl (.cons rfl .nil))) rfl (numbers_p t c p h hc hp)) ?_
  refine rg_q (q_move (x := .d (.tup _)) rfl) (rg_q (q_extract rfl rfl) (rg_q (q_extract rfl rfl) ?_))
  refine rg_nil ?_
  refine aops_allocD zr56 rfl sz56 rfl rfl (by exact .inr ⟨_, rfl⟩) rfl rfl ?_
  refine aops_q rfl (q_a rfl) ?_
  refine aops_nil ?_
  change Awp _ _ _ _ _
  refine awp_seq ?_
  refine awp_seq ?_
  refine awp_region 5 mixed (by kernel_rfl) ?_
  refine rg_q (q_fieldAddr fld56_0 rfl) (rg_q (q_load sz3 rfl rfl) (rg_q (q_fieldAddr fld56_1 rfl) (rg_q (q_load sz3 rfl rfl) (rg_q (q_gtr rfl rfl) ?_))))
  refine rn ?_
  change Awp _ _ _ _ _
  refine awp_cond rfl (fun hc5 => ?_) (fun hc5 => ?_)
  ·
   (try simp only [nb, ne_eq] at hc5)
   have hz : nsI t c p = ((0, 0), 12) := by unfold nsI; rw [if_pos hc5]
   refine awp_seq ?_
   refine awp_region 1 mixed (by kernel_rfl) ?_
   refine rg_q (q_build (cs := [_, _]) pl56 zr56 rfl .nil trivial rfl) ?_
   refine rg_nil ?_
   refine aops_store sz56 rfl rfl (by exact .inr ⟨_, rfl⟩) rfl rfl (by decide) rfl ?_
   refine aops_q rfl (q_a rfl) ?_
   refine aops_nil ?_
   change Awp _ _ _ _ _
   refine awp_ret ?_
   refine ⟨_, (.cons (.cellA rfl rfl sz56 rfl) (.cons (.tmp (by exact .d _)) .nil)), ?_⟩
   rw [hz]; rfl
  ·
   (try simp only [nb, ne_eq] at hc5)
   have hz : nsI t c p = (nrI t c p, 0) := by unfold nsI; rw [if_neg (by omega)]
   refine awp_skip ?_
   change Awp _ _ _ _ _
   refine awp_seq ?_
   refine awp_region 1 mixed (by kernel_rfl) ?_
   refine rg_q (q_loadA (ds := [_, _]) sz56 rfl rfl rfl) ?_
   refine rg_nil ?_
   refine aops_store sz56 rfl rfl (by exact .inr ⟨_, rfl⟩) rfl rfl (by decide) rfl ?_
   refine aops_q rfl (q_a rfl) ?_
   refine aops_nil ?_
   change Awp _ _ _ _ _
   refine awp_ret ?_
   refine ⟨_, (.cons (.cellA rfl rfl sz56 rfl) (.cons (.tmp (by exact .d _)) .nil)), ?_⟩
   rw [hz]; rfl

theorem numbersAt5_p (t : Tsk) (c : Int) (p : Int × Int) : PC Tryz.prog 33 [.agg (tskC t), .v (.int .i64 c), .agg (shC p)] (.tup [.agg (shC (nsR t c p).1), .v (.int .i64 (nsR t c p).2)]) := by
  by_cases hw : (ckT t).2 ≠ 0
  · have e : nmE t c p = (ckT t).2 := by unfold nmE; rw [if_pos hw]
    have hv : nsR t c p = ((0, 0), (ckT t).2) := by unfold nsR; rw [e, if_pos hw]
    rw [hv]
    exact numbersAtW_p t c p hw
  · have h := ckT_ok (Decidable.not_not.1 hw)
    have e : nmE t c p = oprE t c p := by unfold nmE; rw [if_neg hw]
    by_cases ho : oprE t c p ≠ 0
    · have hv : nsR t c p = ((0, 0), oprE t c p) := by unfold nsR; rw [e, if_pos ho]
      rw [hv]
      exact numbersAtO_p t c p h ho
    · have hv : nsR t c p = nsI t c p := by unfold nsR; rw [e, if_neg ho]
      rw [hv]
      exact numbersAtK_p t c p h (Decidable.not_not.1 ho)
set_option maxRecDepth 100000 in
theorem rcellErr_p (t : Tsk) (c : Int) (p : Int × Int) (h : TskOk t) : PC Tryz.prog 34 [.agg (tskC t), .v (.int .i64 (c)), .agg (shC p)] (.v (.int .i64 (oprE t c p))) := by
 obtain ⟨hg, _, _⟩ := ckG_ok h.gr
 have hel := h.el
 have hn2 := h.n2
 have hz := oprE_is t c p
 have hpe : pairE t.ar.el.length p = whenI (!inR 0 p.1 (t.ne - 1) || !inR 0 p.2 (t.ne - 1)) 6 := by unfold pairE; rw [hel]
 refine pc_of_awpN Tryz.func34 rfl Tryz.ntmps34 (rs := [.tmp 6]) Tryz.results34 (by simp) fun w0 hmine hrnd hpn => ?_
 refine awp_seq ?_
 refine awp_region 3 mixed (by kernel_rfl) ?_
 refine rg_q (q_box rfl (by exact .inr ⟨_, rfl⟩)) ?_
 refine rg_q (q_box rfl (by exact .inr ⟨_, rfl⟩)) ?_
 refine rg_q (q_a rfl) ?_
 refine rn ?_
 change Awp _ _ _ _ _
 refine awp_seq ?_
 refine awp_seq ?_
 refine awp_region 5 mixed (by kernel_rfl) ?_
 refine rg_q (q_fieldAddr fld37_2 rfl) ?_
 refine rg_q (q_loadA (ds := [_, _, _, _, _]) sz35 rfl rfl rfl) ?_
 refine rg_q (q_m rfl) ?_
 refine rg_q (q_call en25 (.cons rfl (.cons rfl .nil)) rfl (risCell_p t.g c hg)) ?_
 refine rg_q (q_not rfl) ?_
 refine rn ?_
 change Awp _ _ _ _ _
 refine awp_cond rfl (fun hc1 => ?_) (fun hc1 => ?_)
 ·
  (try simp only [nb, ne_eq] at hc1)
  have hcl : clE t.g c = 6 := by unfold clE; rw [hc1]; rfl
  rw [hcl, if_pos (by decide)] at hz
  refine awp_seq ?_
  refine awp_region 1 mixed (by kernel_rfl) ?_
  refine rg_q (q_a rfl) ?_
  refine rn ?_
  change Awp _ _ _ _ _
  refine awp_ret ?_
  refine ⟨_, (.cons (.tmp (by exact .d _)) .nil), ?_⟩
  rw [hz]; rfl
 ·
  (try simp only [nb, ne_eq] at hc1)
  have hcl : clE t.g c = 0 := by unfold clE; rw [hc1]; rfl
  rw [hcl, if_neg (fun q => q rfl)] at hz
  refine awp_skip ?_
  change Awp _ _ _ _ _
  refine awp_seq ?_
  refine awp_region 5 mixed (by kernel_rfl) ?_
  refine rg_q (q_fieldAddr fld37_0 rfl) ?_
  refine rg_q (q_loadA (ds := [_, _, _, _, _, _, _, _, _, _, _]) sz28 rfl rfl rfl) ?_
  refine rg_q (q_loadA (ds := [_, _]) sz63 rfl rfl rfl) ?_
  refine rg_q (q_call en110 (.cons rfl (.cons rfl .nil)) rfl (rpairErr_p t.ar p (by omega))) ?_
  refine rg_q (q_a rfl) ?_
  refine rn ?_
  change Awp _ _ _ _ _
  refine awp_ret ?_
  refine ⟨_, (.cons (.tmp (by exact .d _)) .nil), ?_⟩
  rw [hz, hpe]; rfl
set_option maxRecDepth 100000 in
theorem rspan_p (t : Tsk) (c : Int) (y : Int × Int) (h : TskOk t) (hc : clE t.g c = 0) (hp : (0 ≤ y.1 ∧ y.1 < t.ne) ∧ 0 ≤ y.2 ∧ y.2 < t.ne) : PC Tryz.prog 106 [.agg (tskC t), .v (.int .i64 (c)), .agg (shC y)] (.agg (shC (neI t c y))) := by
 obtain ⟨hg, _, _⟩ := ckG_ok h.gr
 obtain ⟨c1, c2⟩ := clE_ok hc
 have hci := cells_in hg
 obtain ⟨hok, hpk, hs, hpl⟩ := cell_pr h hc hp
 obtain ⟨⟨e1, e2⟩, e3, e4⟩ := er_in t.ar (spI t.g c) y
 refine pc_of_awpN Tryz.func106 rfl Tryz.ntmps106 (rs := [.cell 6 56]) Tryz.results106 (by simp) fun w0 hmine hrnd hpn => ?_
 refine awp_seq ?_
 refine awp_region 2 mixed (by kernel_rfl) ?_
 refine rg_q (q_box rfl (by exact .inr ⟨_, rfl⟩)) ?_
 refine rg_q (q_box rfl (by exact .inr ⟨_, rfl⟩)) ?_
 refine rg_nil ?_
 refine aops_alloc zr56 rfl rfl rfl ?_
 refine aops_nil ?_
 change Awp _ _ _ _ _
 refine awp_seq ?_
 refine awp_regionM 10 [none, none, none, none, none, none, none, none, some 7, some 7] mixed (by kernel_rfl) ?_
 refine rgm_q rfl (q_fieldAddr fld37_0 rfl) ?_
 refine rgm_q rfl (q_loadA (ds := [_, _, _, _, _, _, _, _, _, _, _]) sz28 rfl rfl rfl) ?_
 refine rgm_q rfl (q_fieldAddr fld37_2 rfl) ?_
 refine rgm_q rfl (q_loadA (ds := [_, _, _, _, _]) sz35 rfl rfl rfl) ?_
 refine rgm_q rfl (q_m rfl) ?_
 refine rgm_q rfl (q_call en76 (.cons rfl (.cons rfl .nil)) rfl (rspot_p t.g c hg c1 (by omega))) ?_
 refine rgm_q rfl (q_loadA (ds := [_, _]) sz63 rfl rfl rfl) ?_
 refine rgm_q rfl (q_call en174 (.cons rfl (.cons rfl (.cons rfl .nil))) rfl (rechoRange_p t.ar (spI t.g c) y hok hpk hs hpl)) ?_
 refine rgm_m (k := 7) rfl rfl (by rfl) (m_alloc zr56 rfl rfl) ?_
 refine rgm_m (k := 7) rfl rfl (by rfl) (m_store sz56 rfl rfl (by exact .inr ⟨_, rfl⟩) rfl rfl (by decide) rfl) ?_
 refine rgm_nil (aops_nil ?_)
 change Awp _ _ _ _ _
 refine awp_seq ?_
 refine awp_region 13 mixed (by kernel_rfl) ?_
 refine rg_q (q_fieldAddr fld37_0 rfl) (rg_q (q_fieldAddr fld28_3 rfl) ?_)
 refine rg_q (q_loadA (ds := [_, _]) sz26 rfl rfl rfl) ?_
 refine rg_q (q_fieldAddr_ref fld56_0 rfl) (rg_q (q_load_ref sz3 rfl rfl rfl) ?_)
 refine rg_q (q_call en175 (.cons rfl (.cons rfl .nil)) rfl (rnumber_p t.ar.ts (erI t.ar (spI t.g c) y).1 hok.t1 hok.t2 hok.t3 hok.t4 (by omega) (by omega))) ?_
 refine rg_q (q_fieldAddr fld37_0 rfl) (rg_q (q_fieldAddr fld28_3 rfl) ?_)
 refine rg_q (q_loadA (ds := [_, _]) sz26 rfl rfl rfl) ?_
 refine rg_q (q_fieldAddr_ref fld56_1 rfl) (rg_q (q_load_ref sz3 rfl rfl rfl) ?_)
 refine rg_q (q_call en175 (.cons rfl (.cons rfl .nil)) rfl (rnumber_p t.ar.ts (erI t.ar (spI t.g c) y).2 hok.t1 hok.t2 hok.t3 hok.t4 (by omega) (by omega))) ?_
 refine rg_q (q_build (cs := [_, _]) pl56 zr56 rfl (.cons rfl (by exact .inl rfl) (.cons rfl (by exact .inl rfl) .nil)) ⟨⟨rfl, by decide⟩, ⟨rfl, by decide⟩, trivial⟩ rfl) ?_
 refine rg_nil ?_
 refine aops_store sz56 rfl rfl (by exact .inr ⟨_, rfl⟩) rfl rfl (by decide) rfl ?_
 refine aops_nil ?_
 change Awp _ _ _ _ _
 refine awp_ret ?_
 refine ⟨_, (.cons (.cellA rfl rfl sz56 rfl) .nil), ?_⟩
 rfl
set_option maxRecDepth 100000 in
theorem rnumbersAt_p (t : Tsk) (c : Int) (y : Int × Int) (h : TskOk t) (hc : clE t.g c = 0) (hp : (0 ≤ y.1 ∧ y.1 < t.ne) ∧ 0 ≤ y.2 ∧ y.2 < t.ne) : PC Tryz.prog 36 [.agg (tskC t), .v (.int .i64 (c)), .agg (shC y)] (.tup [.agg (shC ((nsI t c y).1)), .v (.int .i64 ((nsI t c y).2))]) := by
 refine pc_of_awpN Tryz.func36 rfl Tryz.ntmps36 (rs := [.cell 6 56, .tmp 7]) Tryz.results36 (by simp) fun w0 hmine hrnd hpn => ?_
 refine awp_seq ?_
 refine awp_region 2 mixed (by kernel_rfl) ?_
 refine rg_q (q_box rfl (by exact .inr ⟨_, rfl⟩)) ?_
 refine rg_q (q_box rfl (by exact .inr ⟨_, rfl⟩)) ?_
 refine rg_nil ?_
 refine aops_alloc zr56 rfl rfl rfl ?_
 refine aops_q rfl (q_a rfl) ?_
 refine aops_nil ?_
 change Awp _ _ _ _ _
 refine awp_seq ?_
 refine awp_region 4 mixed (by kernel_rfl) ?_
 refine rg_q (q_loadA sz37 rfl rfl rfl) ?_
 refine rg_q (q_m rfl) ?_
 refine rg_q (q_loadA (ds := [_, _]) sz63 rfl rfl rfl) ?_
 refine rg_q (q_call en106 (.cons rfl (.cons rfl (.cons rfl .nil))) rfl (rspan_p t c y h hc hp)) ?_
 refine rg_nil ?_
 refine aops_allocD zr56 rfl sz56 rfl rfl (by exact .inr ⟨_, rfl⟩) rfl rfl ?_
 refine aops_nil ?_
 change Awp _ _ _ _ _
 refine awp_seq ?_
 refine awp_region 7 mixed (by kernel_rfl) ?_
 refine rg_q (q_fieldAddr fld56_0 rfl) (rg_q (q_load sz3 rfl rfl) ?_)
 refine rg_q (q_max rfl rfl) ?_
 refine rg_q (q_fieldAddr fld56_1 rfl) (rg_q (q_load sz3 rfl rfl) ?_)
 refine rg_q (q_min rfl rfl) ?_
 refine rg_q (q_build (cs := [_, _]) pl56 zr56 rfl (.cons rfl (by exact .inl rfl) (.cons rfl (by exact .inl rfl) .nil)) ⟨⟨rfl, by decide⟩, ⟨rfl, by decide⟩, trivial⟩ rfl) ?_
 refine rg_nil ?_
 refine aops_allocD zr56 rfl sz56 rfl rfl (by exact .inr ⟨_, rfl⟩) rfl rfl ?_
 refine aops_nil ?_
 change Awp _ _ _ _ _
 refine awp_seq ?_
 refine awp_seq ?_
 refine awp_region 5 mixed (by kernel_rfl) ?_
 refine rg_q (q_fieldAddr fld56_0 rfl) (rg_q (q_load sz3 rfl rfl) (rg_q (q_fieldAddr fld56_1 rfl) (rg_q (q_load sz3 rfl rfl) (rg_q (q_gtr rfl rfl) ?_))))
 refine rn ?_
 change Awp _ _ _ _ _
 refine awp_cond rfl (fun hc3 => ?_) (fun hc3 => ?_)
 ·
  (try simp only [nb, ne_eq] at hc3)
  have hlt : (nrI t c y).2 < (nrI t c y).1 := hc3
  have hz : nsI t c y = ((0, 0), 12) := by unfold nsI; rw [if_pos hlt]
  refine awp_seq ?_
  refine awp_region 1 mixed (by kernel_rfl) ?_
  refine rg_q (q_build (cs := [_, _]) pl56 zr56 rfl .nil trivial rfl) ?_
  refine rg_nil ?_
  refine aops_store sz56 rfl rfl (by exact .inr ⟨_, rfl⟩) rfl rfl (by decide) rfl ?_
  refine aops_q rfl (q_a rfl) ?_
  refine aops_nil ?_
  change Awp _ _ _ _ _
  refine awp_ret ?_
  refine ⟨_, (.cons (.cellA rfl rfl sz56 rfl) (.cons (.tmp (by exact .d _)) .nil)), ?_⟩
  rw [hz]; rfl
 ·
  (try simp only [nb, ne_eq] at hc3)
  have hlt : (nrI t c y).1 ≤ (nrI t c y).2 := hc3
  have hz : nsI t c y = (nrI t c y, 0) := by unfold nsI; rw [if_neg (by omega)]
  refine awp_skip ?_
  change Awp _ _ _ _ _
  refine awp_seq ?_
  refine awp_region 1 mixed (by kernel_rfl) ?_
  refine rg_q (q_loadA (ds := [_, _]) sz56 rfl rfl rfl) ?_
  refine rg_nil ?_
  refine aops_store sz56 rfl rfl (by exact .inr ⟨_, rfl⟩) rfl rfl (by decide) rfl ?_
  refine aops_q rfl (q_a rfl) ?_
  refine aops_nil ?_
  change Awp _ _ _ _ _
  refine awp_ret ?_
  refine ⟨_, (.cons (.cellA rfl rfl sz56 rfl) (.cons (.tmp (by exact .d _)) .nil)), ?_⟩
  rw [hz]; rfl

theorem rnd_mono {m n b : Int} (hb : 1 ≤ b) (h : m ≤ n) : rndI m b ≤ rndI n b := by
  unfold rndI
  exact Int.ediv_le_ediv (by omega) (by omega)
theorem smp_ne {t : Tsk} (h : TskOk t) (c : Int) (y : Int × Int) : (neI t c y).1 ≤ smpI t.ar (spI t.g c) y ∧ smpI t.ar (spI t.g c) y ≤ (neI t c y).2 := by
  obtain ⟨h1, h2⟩ := ech_btw t.ar (spI t.g c) y
  obtain ⟨hao, _⟩ := ckArr_ok h.ck
  have h3 := hao.t3
  exact ⟨rnd_mono h3 (by omega), rnd_mono h3 (by omega)⟩
theorem nu_in {t : Tsk} (h : TskOk t) {c : Int} {y : Int × Int} (hz : (nuR t c y).2 = 0) : nsI t c y = (nrI t c y, 0) ∧ inR (nrI t c y).1 (nuR t c y).1 (nrI t c y).2 = true := by
  obtain ⟨h1, h2⟩ := smp_ne h c y
  unfold nuR at hz ⊢
  by_cases q : inR 0 (smpI t.ar (spI t.g c) y) 60 = true
  · rw [if_pos q]
    obtain ⟨q1, q2⟩ := inR_iff.1 q
    have e : (nrI t c y).1 ≤ smpI t.ar (spI t.g c) y ∧ smpI t.ar (spI t.g c) y ≤ (nrI t c y).2 := by unfold nrI; simp only; omega
    exact ⟨by unfold nsI; rw [if_neg (by omega)], inR_iff.2 e⟩
  · rw [if_neg q] at hz; cases hz
theorem law_nu {t : Tsk} (h : TskOk t) (c : Int) (y : Int × Int) : (decide ((nuR t c y).2 ≠ 0) || (decide ((nsI t c y).2 = 0) && inR (nsI t c y).1.1 (nuR t c y).1 (nsI t c y).1.2)) = true := by
  by_cases hz : (nuR t c y).2 = 0
  · obtain ⟨h1, h2⟩ := nu_in h hz
    rw [h1, h2]; simp
  · simp [hz]
set_option maxHeartbeats 4000000 in
set_option maxRecDepth 100000 in
theorem focusNumbers_p (t : Tsk) (c : Int) (p : Int × Int) : PC Tryz.prog 6 [.agg (tskC t), .v (.int .i64 (c)), .agg (shC p)] (.v (.bool (true))) := by
 refine pc_of_awpN Tryz.func6 rfl Tryz.ntmps6 (rs := [.tmp 6]) Tryz.results6 (by simp) fun w0 hmine hrnd hpn => ?_
 refine awp_seq ?_
 refine awp_region 3 mixed (by kernel_rfl) ?_
 refine rg_q (q_box rfl (by exact .inr ⟨_, rfl⟩)) ?_
 refine rg_q (q_box rfl (by exact .inr ⟨_, rfl⟩)) ?_
 refine rg_q (q_a rfl) ?_
 refine rn ?_
 change Awp _ _ _ _ _
 refine awp_seq ?_
 refine awp_seq ?_
 refine awp_region 2 mixed (by kernel_rfl) ?_
 refine rg_q (q_call en18 .nil rfl (awake5_p)) ?_
 refine rg_q (q_not rfl) ?_
 refine rn ?_
 change Awp _ _ _ _ _
 refine awp_cond rfl (fun hc1 => ?_) (fun hc1 => ?_)
 ·
  simp at hc1
 ·
  (try simp only [nb, ne_eq] at hc1)
  refine awp_skip ?_
  change Awp _ _ _ _ _
  refine awp_seq ?_
  refine awp_seq ?_
  refine awp_region 3 mixed (by kernel_rfl) ?_
  refine rg_q (q_loadA sz37 rfl rfl rfl) ?_
  refine rg_q (q_call en19 (.cons rfl .nil) rfl (light_p _)) ?_
  refine rg_q (q_not rfl) ?_
  refine rn ?_
  change Awp _ _ _ _ _
  refine awp_cond rfl (fun hc3 => ?_) (fun hc3 => ?_)
  ·
   (try simp only [nb, ne_eq] at hc3)
   refine awp_seq ?_
   refine awp_region 1 mixed (by kernel_rfl) ?_
   refine rg_q (q_a rfl) ?_
   refine rn ?_
   change Awp _ _ _ _ _
   refine awp_ret ?_
   refine ⟨_, (.cons (.tmp (by exact .d _)) .nil), ?_⟩
   rfl
  ·
   (try simp only [nb, ne_eq] at hc3)
   obtain ⟨hl1, hl2⟩ := lit_le hc3
   refine awp_skip ?_
   change Awp _ _ _ _ _
   refine awp_seq ?_
   refine awp_region 10 mixed (by kernel_rfl) ?_
   refine rg_q (q_loadA sz37 rfl rfl rfl) ?_
   refine rg_q (q_call en21 (.cons rfl .nil) rfl (rcopyT_p _ (by omega) (by omega))) ?_
   refine rg_q (q_m rfl) ?_
   refine rg_q (q_loadA (ds := [_, _]) sz63 rfl rfl rfl) ?_
   refine rg_q (q_call en32 (.cons rfl (.cons rfl (.cons rfl .nil))) rfl (numberAt5_p _ _ _)) ?_
   refine rg_q (q_move (x := .d (.tup _)) rfl) (rg_q (q_extract rfl rfl) (rg_q (q_extract rfl rfl) (rg_q (q_a rfl) (rg_q (q_a rfl) ?_))))
   refine rn ?_
   change Awp _ _ _ _ _
   refine awp_seq ?_
   refine awp_regionM 11 [none, none, none, none, none, none, none, none, some 9, some 9, none] mixed (by kernel_rfl) ?_
   refine rgm_q rfl (q_loadA sz37 rfl rfl rfl) ?_
   refine rgm_q rfl (q_call en21 (.cons rfl .nil) rfl (rcopyT_p _ (by omega) (by omega))) ?_
   refine rgm_q rfl (q_m rfl) ?_
   refine rgm_q rfl (q_loadA (ds := [_, _]) sz63 rfl rfl rfl) ?_
   refine rgm_q rfl (q_call en33 (.cons rfl (.cons rfl (.cons rfl .nil))) rfl (numbersAt5_p _ _ _)) ?_
   refine rgm_q rfl (q_move (x := .d (.tup _)) rfl) ?_
   refine rgm_q rfl (q_extract rfl rfl) ?_
   refine rgm_q rfl (q_extract rfl rfl) ?_
   refine rgm_m (k := 9) rfl rfl (by rfl) (m_alloc zr56 rfl rfl) ?_
   refine rgm_m (k := 9) rfl rfl (by rfl) (m_store sz56 rfl rfl (by exact .inr ⟨_, rfl⟩) rfl rfl (by decide) rfl) ?_
   refine rgm_q rfl (q_a rfl) ?_
   refine rgm_nil (aops_nil ?_)
   change Awp _ _ _ _ _
   refine awp_seq ?_
   refine awp_region 3 mixed (by kernel_rfl) ?_
   refine rg_q (q_loadA sz37 rfl rfl rfl) ?_
   refine rg_q (q_call en24 (.cons rfl .nil) rfl (rtaskErr_p _)) ?_
   refine rg_q (q_a rfl) ?_
   refine rn ?_
   change Awp _ _ _ _ _
   refine awp_seq ?_
   refine awp_seq ?_
   refine awp_region 2 mixed (by kernel_rfl) ?_
   refine rg_q (q_m rfl) (rg_q (q_eql rfl rfl) ?_)
   refine rn ?_
   change Awp _ _ _ _ _
   refine awp_cond rfl (fun hc8 => ?_) (fun hc8 => ?_)
   ·
    (try simp only [nb, ne_eq] at hc8)
    have hok : TskOk t := ckT_ok hc8
    have hw : nmE t c p = oprE t c p := by unfold nmE; rw [if_neg (fun q => q hc8)]
    refine awp_region 5 mixed (by kernel_rfl) ?_
    refine rg_q (q_loadA sz37 rfl rfl rfl) ?_
    refine rg_q (q_m rfl) ?_
    refine rg_q (q_loadA (ds := [_, _]) sz63 rfl rfl rfl) ?_
    refine rg_q (q_call en34 (.cons rfl (.cons rfl (.cons rfl .nil))) rfl (rcellErr_p _ _ _ (by assumption))) ?_
    refine rg_q (q_a rfl) ?_
    refine rn ?_
    change Awp _ _ _ _ _
    refine awp_seq ?_
    refine awp_seq ?_
    refine awp_region 2 mixed (by kernel_rfl) ?_
    refine rg_q (q_m rfl) (rg_q (q_neq rfl rfl) ?_)
    refine rn ?_
    change Awp _ _ _ _ _
    refine awp_cond rfl (fun hc10 => ?_) (fun hc10 => ?_)
    ·
     (try simp only [nb, ne_eq] at hc10)
     have hz1 : naR t c p = (0, oprE t c p) := by unfold naR; rw [hw, if_pos hc10]
     have hz2 : nsR t c p = ((0, 0), oprE t c p) := by unfold nsR; rw [hw, if_pos hc10]
     refine awp_seq ?_
     refine awp_region 18 mixed (by kernel_rfl) ?_
     refine rg_q (q_m rfl) (rg_q (q_m rfl) (rg_q (q_eql rfl rfl) (rg_q (q_m rfl) ?_)))
     refine rg_g rfl rfl (fun hG => (q_m rfl)) ?_
     refine rg_g rfl rfl (fun hG => (q_m rfl)) ?_
     refine rg_g rfl rfl (fun hG => (q_eql rfl rfl)) ?_
     refine rg_pick rfl rfl rfl rfl rfl rfl ?_
     refine rg_q (q_m rfl) ?_
     refine rg_g rfl rfl (fun hG => (q_m rfl)) ?_
     refine rg_g rfl rfl (fun hG => (q_eql rfl rfl)) ?_
     refine rg_pick rfl rfl rfl rfl rfl rfl ?_
     refine rg_q (q_m rfl) ?_
     refine rg_g rfl rfl (fun hG => (q_load_refA (ds := [_, _]) sz56 rfl rfl rfl rfl)) ?_
     refine rg_g rfl rfl (fun hG => (q_build (cs := [_, _]) pl56 zr56 rfl .nil trivial rfl)) ?_
     refine rg_g rfl rfl (fun hG => (q_eqlI (xs := [_, _]) (ys := [_, _]) eqi56 rfl rfl rfl rfl)) ?_
     refine rg_pick rfl rfl rfl rfl rfl rfl ?_
     refine rg_q (q_a rfl) ?_
     refine rn ?_
     change Awp _ _ _ _ _
     refine awp_ret ?_
     refine ⟨_, (.cons (.tmp (by exact .d _)) .nil), ?_⟩
     rw [hz1, hz2]; simp [retD, shC]
    ·
     (try simp only [nb, ne_eq] at hc10)
     obtain ⟨hcl, hpp⟩ := oprE_ok hc10
     have hz1 : naR t c p = nuR t c p := by unfold naR; rw [hw, if_neg (fun q => q hc10)]
     have hz2 : nsR t c p = nsI t c p := by unfold nsR; rw [hw, if_neg (fun q => q hc10)]
     have hlaw := law_nu hok c p
     refine awp_skip ?_
     change Awp _ _ _ _ _
     refine awp_seq ?_
     refine awp_region 9 mixed (by kernel_rfl) ?_
     refine rg_q (q_loadA sz37 rfl rfl rfl) ?_
     refine rg_q (q_m rfl) ?_
     refine rg_q (q_loadA (ds := [_, _]) sz63 rfl rfl rfl) ?_
     refine rg_q (q_call en35 (.cons rfl (.cons rfl (.cons rfl .nil))) rfl (rnumberAt_p t c p hok hcl hpp)) ?_
     refine rg_q (q_move (x := .d (.tup _)) rfl) (rg_q (q_extract rfl rfl) (rg_q (q_extract rfl rfl) (rg_q (q_a rfl) (rg_q (q_a rfl) ?_))))
     refine rs (awp_region 7 mixed (by kernel_rfl) ?_)
     refine rg_q (q_loadA sz37 rfl rfl rfl) ?_
     refine rg_q (q_m rfl) ?_
     refine rg_q (q_loadA (ds := [_, _]) sz63 rfl rfl rfl) ?_
     refine rg_q (q_call en36 (.cons rfl (.cons rfl (.cons rfl .nil))) rfl (rnumbersAt_p t c p hok hcl hpp)) ?_
     refine rg_q (q_move (x := .d (.tup _)) rfl) (rg_q (q_extract rfl rfl) (rg_q (q_extract rfl rfl) ?_))
     refine rg_nil ?_
     refine aops_allocD zr56 rfl sz56 rfl rfl (by exact .inr ⟨_, rfl⟩) rfl rfl ?_
     refine aops_q rfl (q_a rfl) ?_
     refine aops_nil ?_
     change Awp _ _ _ _ _
     refine awp_seq ?_
     refine awp_region 35 mixed (by kernel_rfl) ?_
     refine rg_q (q_m rfl) (rg_q (q_m rfl) (rg_q (q_eql rfl rfl) (rg_q (q_m rfl) ?_)))
     refine rg_g rfl rfl (fun hG => (q_m rfl)) ?_
     refine rg_g rfl rfl (fun hG => (q_m rfl)) ?_
     refine rg_g rfl rfl (fun hG => (q_eql rfl rfl)) ?_
     refine rg_pick rfl rfl rfl rfl rfl rfl ?_
     refine rg_q (q_m rfl) ?_
     refine rg_g rfl rfl (fun hG => (q_m rfl)) ?_
     refine rg_g rfl rfl (fun hG => (q_m rfl)) ?_
     refine rg_g rfl rfl (fun hG => (q_eql rfl rfl)) ?_
     refine rg_pick rfl rfl rfl rfl rfl rfl ?_
     refine rg_q (q_m rfl) ?_
     refine rg_g rfl rfl (fun hG => (q_load_refA (ds := [_, _]) sz56 rfl rfl rfl rfl)) ?_
     refine rg_g rfl rfl (fun hG => (q_loadA (ds := [_, _]) sz56 rfl rfl rfl)) ?_
     refine rg_g rfl rfl (fun hG => (q_eqlI (xs := [_, _]) (ys := [_, _]) eqi56 rfl rfl rfl rfl)) ?_
     refine rg_pick rfl rfl rfl rfl rfl rfl ?_
     refine rg_q (q_m rfl) ?_
     refine rg_g rfl rfl (fun hG => (q_m rfl)) ?_
     refine rg_g rfl rfl (fun hG => (q_neq rfl rfl)) ?_
     refine rg_g rfl rfl (fun hG => (q_m rfl)) ?_
     refine rg_g rfl rfl (fun hG => (q_m rfl)) ?_
     refine rg_g rfl rfl (fun hG => (q_eql rfl rfl)) ?_
     refine rg_g rfl rfl (fun hG => (q_m rfl)) ?_
     refine rg_g rfl rfl (fun hG => (q_m rfl)) ?_
     refine rg_g rfl rfl (fun hG => (q_fieldAddr_ref fld56_0 rfl)) ?_
     refine rg_g rfl rfl (fun hG => (q_load_ref sz3 rfl rfl rfl)) ?_
     refine rg_g rfl rfl (fun hG => (q_fieldAddr_ref fld56_1 rfl)) ?_
     refine rg_g rfl rfl (fun hG => (q_load_ref sz3 rfl rfl rfl)) ?_
     refine rg_g rfl rfl (fun hG => (q_call en31 (.cons rfl (.cons rfl (.cons rfl .nil))) rfl (within4_p _ _ _))) ?_
     refine rg_pickg rfl rfl rfl rfl rfl rfl rfl rfl ?_
     refine rg_pickg rfl rfl rfl rfl rfl rfl rfl rfl ?_
     refine rg_pick rfl rfl rfl rfl rfl rfl ?_
     refine rg_q (q_a rfl) ?_
     refine rn ?_
     change Awp _ _ _ _ _
     refine awp_ret ?_
     refine ⟨_, (.cons (.tmp (by exact .d _)) .nil), ?_⟩
     rw [hz1, hz2]
     simp only [retD, bif_and, bif_or]
     rw [hlaw]
     simp
   ·
    (try simp only [nb, ne_eq] at hc8)
    have hw : nmE t c p = (ckT t).2 := by unfold nmE; rw [if_pos hc8]
    refine awp_skip ?_
    change Awp _ _ _ _ _
    refine awp_seq ?_
    refine awp_seq ?_
    refine awp_region 2 mixed (by kernel_rfl) ?_
    refine rg_q (q_m rfl) (rg_q (q_neq rfl rfl) ?_)
    refine rn ?_
    change Awp _ _ _ _ _
    refine awp_cond rfl (fun hc10 => ?_) (fun hc10 => ?_)
    ·
     (try simp only [nb, ne_eq] at hc10)
     have hz1 : naR t c p = (0, (ckT t).2) := by unfold naR; rw [hw, if_pos hc8]
     have hz2 : nsR t c p = ((0, 0), (ckT t).2) := by unfold nsR; rw [hw, if_pos hc8]
     refine awp_seq ?_
     refine awp_region 18 mixed (by kernel_rfl) ?_
     refine rg_q (q_m rfl) (rg_q (q_m rfl) (rg_q (q_eql rfl rfl) (rg_q (q_m rfl) ?_)))
     refine rg_g rfl rfl (fun hG => (q_m rfl)) ?_
     refine rg_g rfl rfl (fun hG => (q_m rfl)) ?_
     refine rg_g rfl rfl (fun hG => (q_eql rfl rfl)) ?_
     refine rg_pick rfl rfl rfl rfl rfl rfl ?_
     refine rg_q (q_m rfl) ?_
     refine rg_g rfl rfl (fun hG => (q_m rfl)) ?_
     refine rg_g rfl rfl (fun hG => (q_eql rfl rfl)) ?_
     refine rg_pick rfl rfl rfl rfl rfl rfl ?_
     refine rg_q (q_m rfl) ?_
     refine rg_g rfl rfl (fun hG => (q_load_refA (ds := [_, _]) sz56 rfl rfl rfl rfl)) ?_
     refine rg_g rfl rfl (fun hG => (q_build (cs := [_, _]) pl56 zr56 rfl .nil trivial rfl)) ?_
     refine rg_g rfl rfl (fun hG => (q_eqlI (xs := [_, _]) (ys := [_, _]) eqi56 rfl rfl rfl rfl)) ?_
     refine rg_pick rfl rfl rfl rfl rfl rfl ?_
     refine rg_q (q_a rfl) ?_
     refine rn ?_
     change Awp _ _ _ _ _
     refine awp_ret ?_
     refine ⟨_, (.cons (.tmp (by exact .d _)) .nil), ?_⟩
     rw [hz1, hz2]; simp [retD, shC]
    ·
     (try simp only [nb, ne_eq] at hc10)
     exact absurd hc10 hc8
end Go.Proofs.YtphlaicnmmglhaaGreat.Am.M
-- mini
namespace Go.Proofs.YtphlaicnmmglhaaGreat.Am.M
open Go

end Go.Proofs.YtphlaicnmmglhaaGreat.Am.M
-- mini
namespace Go.Proofs.YtphlaicnmmglhaaGreat.Am.M
open Go
set_option maxRecDepth 100000 in
theorem endsAtW_p (t : Tsk) (c : Int) (hw : (ckT t).2 ≠ 0) : PC Tryz.prog 28 [.agg (tskC t), .v (.int .i64 (c))] (.tup [.agg (rgC ((0, 0), 0, 0)), .v (.int .i64 ((ckT t).2))]) := by
 refine pc_of_awpN Tryz.func28 rfl Tryz.ntmps28 (rs := [.cell 4 57, .tmp 5]) Tryz.results28 (by simp) fun w0 hmine hrnd hpn => ?_
 refine awp_seq ?_
 refine awp_region 2 mixed (by kernel_rfl) ?_
 refine rg_q (q_box rfl (by exact .inr ⟨_, rfl⟩)) ?_
 refine rg_q (q_box rfl (by exact .inl rfl)) ?_
 refine rg_nil ?_
 refine aops_alloc zr57 rfl rfl rfl ?_
 refine aops_q rfl (q_a rfl) ?_
 refine aops_nil ?_
 change Awp _ _ _ _ _
 refine awp_seq ?_
 refine awp_region 6 mixed (by kernel_rfl) ?_
 refine rg_q (q_loadA sz37 rfl rfl rfl) ?_
 refine rg_q (q_load sz3 rfl rfl) ?_
 refine rg_q (q_call en94 (.cons rfl (.cons rfl .nil)) rfl (openCell5_p t c hw)) ?_
 refine rg_q (q_move (x := .d (.tup _)) rfl) (rg_q (q_extract rfl rfl) (rg_q (q_extract rfl rfl) ?_))
 refine rg_nil ?_
 refine aops_alloc zr156 rfl rfl rfl ?_
 refine aops_store sz156 rfl rfl (by exact .inl rfl) rfl rfl (by decide) rfl ?_
 refine aops_q rfl (q_a rfl) ?_
 refine aops_nil ?_
 change Awp _ _ _ _ _
 refine awp_seq ?_
 refine awp_seq ?_
 refine awp_region 2 mixed (by kernel_rfl) ?_
 refine rg_q (q_m rfl) (rg_q (q_neq rfl rfl) ?_)
 refine rn ?_
 change Awp _ _ _ _ _
 refine awp_cond rfl (fun hc2 => ?_) (fun hc2 => ?_)
 ·
  (try simp only [nb, ne_eq] at hc2)
  refine awp_seq ?_
  refine awp_region 2 mixed (by kernel_rfl) ?_
  refine rg_q (q_buildA (cs := [_, _, _, _]) ar57 zr57 rfl .nil trivial rfl) ?_
  refine rg_q (q_m rfl) ?_
  refine rg_nil ?_
  refine aops_store sz57 rfl rfl (by exact .inr ⟨_, rfl⟩) rfl rfl (by decide) rfl ?_
  refine aops_q rfl (q_a rfl) ?_
  refine aops_nil ?_
  change Awp _ _ _ _ _
  refine awp_ret ?_
  refine ⟨_, (.cons (.cellA rfl rfl sz57 rfl) (.cons (.tmp (by exact .d _)) .nil)), ?_⟩
  rfl
 ·
  (try simp only [nb, ne_eq] at hc2)
  exact absurd hc2 hw
set_option maxRecDepth 100000 in
theorem endsAtC_p (t : Tsk) (c : Int) (h : TskOk t) (hc : clE t.g c ≠ 0) : PC Tryz.prog 28 [.agg (tskC t), .v (.int .i64 (c))] (.tup [.agg (rgC ((0, 0), 0, 0)), .v (.int .i64 (clE t.g c))]) := by
 refine pc_of_awpN Tryz.func28 rfl Tryz.ntmps28 (rs := [.cell 4 57, .tmp 5]) Tryz.results28 (by simp) fun w0 hmine hrnd hpn => ?_
 refine awp_seq ?_
 refine awp_region 2 mixed (by kernel_rfl) ?_
 refine rg_q (q_box rfl (by exact .inr ⟨_, rfl⟩)) ?_
 refine rg_q (q_box rfl (by exact .inl rfl)) ?_
 refine rg_nil ?_
 refine aops_alloc zr57 rfl rfl rfl ?_
 refine aops_q rfl (q_a rfl) ?_
 refine aops_nil ?_
 change Awp _ _ _ _ _
 refine awp_seq ?_
 refine awp_region 6 mixed (by kernel_rfl) ?_
 refine rg_q (q_loadA sz37 rfl rfl rfl) ?_
 refine rg_q (q_load sz3 rfl rfl) ?_
 refine rg_q (q_call en94 (.cons rfl (.cons rfl .nil)) rfl (openCell_p t c h)) ?_
 refine rg_q (q_move (x := .d (.tup _)) rfl) (rg_q (q_extract rfl rfl) (rg_q (q_extract rfl rfl) ?_))
 refine rg_nil ?_
 refine aops_alloc zr156 rfl rfl rfl ?_
 refine aops_store sz156 rfl rfl (by exact .inl rfl) rfl rfl (by decide) rfl ?_
 refine aops_q rfl (q_a rfl) ?_
 refine aops_nil ?_
 change Awp _ _ _ _ _
 refine awp_seq ?_
 refine awp_seq ?_
 refine awp_region 2 mixed (by kernel_rfl) ?_
 refine rg_q (q_m rfl) (rg_q (q_neq rfl rfl) ?_)
 refine rn ?_
 change Awp _ _ _ _ _
 refine awp_cond rfl (fun hc2 => ?_) (fun hc2 => ?_)
 ·
  (try simp only [nb, ne_eq] at hc2)
  refine awp_seq ?_
  refine awp_region 2 mixed (by kernel_rfl) ?_
  refine rg_q (q_buildA (cs := [_, _, _, _]) ar57 zr57 rfl .nil trivial rfl) ?_
  refine rg_q (q_m rfl) ?_
  refine rg_nil ?_
  refine aops_store sz57 rfl rfl (by exact .inr ⟨_, rfl⟩) rfl rfl (by decide) rfl ?_
  refine aops_q rfl (q_a rfl) ?_
  refine aops_nil ?_
  change Awp _ _ _ _ _
  refine awp_ret ?_
  refine ⟨_, (.cons (.cellA rfl rfl sz57 rfl) (.cons (.tmp (by exact .d _)) .nil)), ?_⟩
  rfl
 ·
  (try simp only [nb, ne_eq] at hc2)
  exact absurd hc2 hc

def enR (t : Tsk) (c : Int) : RR × Int := if tcE t c ≠ 0 then (((0, 0), 0, 0), tcE t c) else (endI t c, 0)
theorem endsAt5_p (t : Tsk) (c : Int) : PC Tryz.prog 28 [.agg (tskC t), .v (.int .i64 c)] (.tup [.agg (rgC (enR t c).1), .v (.int .i64 (enR t c).2)]) := by
  by_cases hw : (ckT t).2 ≠ 0
  · have e : tcE t c = (ckT t).2 := by unfold tcE; rw [if_pos hw]
    have hv : enR t c = (((0, 0), 0, 0), (ckT t).2) := by unfold enR; rw [e, if_pos hw]
    rw [hv]
    exact endsAtW_p t c hw
  · have h := ckT_ok (Decidable.not_not.1 hw)
    have e : tcE t c = clE t.g c := by unfold tcE; rw [if_neg hw]
    by_cases hc : clE t.g c ≠ 0
    · have hv : enR t c = (((0, 0), 0, 0), clE t.g c) := by unfold enR; rw [e, if_pos hc]
      rw [hv]
      exact endsAtC_p t c h hc
    · have hv : enR t c = (endI t c, 0) := by unfold enR; rw [e, if_neg hc]
      rw [hv]
      exact endsAt_p t c h (Decidable.not_not.1 hc)
def rdV (t : Tsk) (y : Int × Int) (k : Nat) (n : Int) : Int := ptS (reI (smpS t y) n.toNat) (imI (smpS t y) n.toNat) k
def rdK (t : Tsk) (c : Int) (y : Int × Int) (k : Nat) : Nat → Bool × (Int × Int)
  | 0 => (bif decide ((neI t c y).1 < 0) then true else decide (60 < (neI t c y).2), (0, 0))
  | j + 1 => (true, huA (if (rdK t c y k j).1 = true then (rdK t c y k j).2 else (rdV t y k ((nrI t c y).1 + (j : Int)), rdV t y k ((nrI t c y).1 + (j : Int)))) (rdV t y k ((nrI t c y).1 + (j : Int))))
def rdN (t : Tsk) (c : Int) (y : Int × Int) : Nat := ((nrI t c y).2 - (nrI t c y).1 + 1).toNat
theorem nw_is (t : Tsk) (c : Int) (y : Int × Int) : (!nwI t c y) = (bif decide ((neI t c y).1 < 0) then true else decide (60 < (neI t c y).2)) := by
  rw [bif_or]
  unfold nwI nrI
  rw [Bool.eq_iff_iff]
  simp
  omega
theorem owP_two (b : Bool) (o : RR) (re im : Int) (k : Nat) (hk : k < 2) : rgS (owP b o re im 2) k = huA (if b = true then rgS o k else (ptS re im k, ptS re im k)) (ptS re im k) := by
  rcases two k hk with rfl | rfl <;> rfl
theorem rd_ow (t : Tsk) (c : Int) (y : Int × Int) (k : Nat) (hk : k < 2) : ∀ j, (owK t y (nrI t c y).1 (nwI t c y) j).1 = (rdK t c y k j).1 ∧ rgS (owK t y (nrI t c y).1 (nwI t c y) j).2 k = (rdK t c y k j).2
  | 0 => ⟨nw_is t c y, by rcases two k hk with rfl | rfl <;> rfl⟩
  | j + 1 => by
    obtain ⟨h1, h2⟩ := rd_ow t c y k hk j
    refine ⟨rfl, ?_⟩
    show rgS (owP _ _ _ _ 2) k = _
    rw [owP_two _ _ _ _ k hk, h1, h2]; rfl
theorem rd_end (t : Tsk) (c : Int) (y : Int × Int) (k : Nat) (hk : k < 2) : (rdK t c y k (rdN t c y)).2 = rgS (owE t c y) k := (rd_ow t c y k hk (rdN t c y)).2.symm
theorem pt_ld {re im : Int} {k : Nat} (h : k < 2) : ([.v (.int .i64 re), .v (.int .i64 im)] : List D)[0 + ((k : Nat) : Int).toNat * 1]? = some (.v (.int .i64 (ptS re im k))) := by rcases two k h with rfl | rfl <;> rfl
theorem rd_in (t : Tsk) (c : Int) (y : Int × Int) (k : Nat) : ∀ j, (0 < j → (rdK t c y k j).1 = true) ∧ (∀ i, i < j → (rdK t c y k j).2.1 ≤ rdV t y k ((nrI t c y).1 + (i : Int)) ∧ rdV t y k ((nrI t c y).1 + (i : Int)) ≤ (rdK t c y k j).2.2) ∧ ((rdK t c y k 0).1 = true → (rdK t c y k j).1 = true ∧ (rdK t c y k j).2.1 ≤ 0 ∧ 0 ≤ (rdK t c y k j).2.2)
  | 0 => ⟨fun h => absurd h (by omega), fun i hi => absurd hi (by omega), fun h => ⟨h, Int.le_refl _, Int.le_refl _⟩⟩
  | j + 1 => by
    obtain ⟨h0, h1, h2⟩ := rd_in t c y k j
    obtain ⟨v, hv⟩ : ∃ v, v = rdV t y k ((nrI t c y).1 + (j : Int)) := ⟨_, rfl⟩
    have e : rdK t c y k (j + 1) = (true, huA (if (rdK t c y k j).1 = true then (rdK t c y k j).2 else (v, v)) v) := by rw [hv]; rfl
    rw [e]
    refine ⟨fun _ => rfl, fun i hi => ?_, fun h3 => ?_⟩
    · unfold huA
      simp only
      by_cases hij : i = j
      · subst hij; rw [← hv]; omega
      · rw [if_pos (h0 (by omega))]
        have := h1 i (by omega)
        omega
    · obtain ⟨h4, h5, h6⟩ := h2 h3
      rw [if_pos h4]
      refine ⟨rfl, ?_⟩
      unfold huA
      simp only
      omega
theorem own_in {t : Tsk} (h : TskOk t) (c : Int) (y : Int × Int) (k : Nat) (hk : k < 2) : (rgS (owE t c y) k).1 ≤ (if inR 0 (smpI t.ar (spI t.g c) y) 60 = true then rdV t y k (smpI t.ar (spI t.g c) y) else 0) ∧ (if inR 0 (smpI t.ar (spI t.g c) y) 60 = true then rdV t y k (smpI t.ar (spI t.g c) y) else 0) ≤ (rgS (owE t c y) k).2 := by
  obtain ⟨h0, h1, h2⟩ := rd_in t c y k (rdN t c y)
  rw [rd_end t c y k hk] at h1 h2
  obtain ⟨s1, s2⟩ := smp_ne h c y
  obtain ⟨n, hn⟩ : ∃ n, n = smpI t.ar (spI t.g c) y := ⟨_, rfl⟩
  rw [← hn] at s1 s2 ⊢
  by_cases q : inR 0 n 60 = true
  · rw [if_pos q]
    obtain ⟨q1, q2⟩ := inR_iff.1 q
    have e : (nrI t c y).1 ≤ n ∧ n ≤ (nrI t c y).2 := by unfold nrI; simp only; omega
    have := h1 (n - (nrI t c y).1).toNat (by unfold rdN; omega)
    rw [show (nrI t c y).1 + (((n - (nrI t c y).1).toNat : Nat) : Int) = n by omega] at this
    exact this
  · rw [if_neg q]
    have hb : (rdK t c y k 0).1 = true := by
      show (bif decide ((neI t c y).1 < 0) then true else decide (60 < (neI t c y).2)) = true
      rw [bif_or, Bool.or_eq_true, decide_eq_true_eq, decide_eq_true_eq]
      rw [inR_iff] at q
      omega
    exact (h2 hb).2
theorem vl_in {t : Tsk} (h : TskOk t) (c : Int) (l : List (Int × Int)) : ∀ k : Nat, k ≤ l.length → ((enA t c (l.take k)).1.1 ≤ (vlA t c [] (l.take k)).1.1 ∧ (vlA t c [] (l.take k)).1.1 ≤ (enA t c (l.take k)).1.2) ∧ (enA t c (l.take k)).2.1 ≤ (vlA t c [] (l.take k)).1.2 ∧ (vlA t c [] (l.take k)).1.2 ≤ (enA t c (l.take k)).2.2
  | 0, _ => by
    have e1 : vlA t c [] (l.take 0) = ((0, 0), 0) := rfl
    have e2 : enA t c (l.take 0) = ((0, 0), 0, 0) := rfl
    rw [e1, e2]
    decide
  | k + 1, hk => by
    obtain ⟨⟨a1, a2⟩, a3, a4⟩ := vl_in h c l k (by omega)
    have hy : l[k]? = some l[k] := List.getElem?_eq_getElem (by omega)
    obtain ⟨b1, b2⟩ := own_in h c l[k] 0 (by decide)
    obtain ⟨b3, b4⟩ := own_in h c l[k] 1 (by decide)
    rw [vlA_snoc hy, enA_snoc hy, vlF_nil]
    show ((enA t c (l.take k)).1.1 + (rgS (owE t c l[k]) 0).1 ≤ _ ∧ _ ≤ (enA t c (l.take k)).1.2 + (rgS (owE t c l[k]) 0).2) ∧ (enA t c (l.take k)).2.1 + (rgS (owE t c l[k]) 1).1 ≤ _ ∧ _ ≤ (enA t c (l.take k)).2.2 + (rgS (owE t c l[k]) 1).2
    by_cases q : inR 0 (smpI t.ar (spI t.g c) l[k]) 60 = true
    · rw [if_pos q] at b1 b2 b3 b4 ⊢
      change _ ≤ reI (smpS t l[k]) (smpI t.ar (spI t.g c) l[k]).toNat at b1
      change reI (smpS t l[k]) (smpI t.ar (spI t.g c) l[k]).toNat ≤ _ at b2
      change _ ≤ imI (smpS t l[k]) (smpI t.ar (spI t.g c) l[k]).toNat at b3
      change imI (smpS t l[k]) (smpI t.ar (spI t.g c) l[k]).toNat ≤ _ at b4
      simp only
      omega
    · rw [if_neg q] at b1 b2 b3 b4 ⊢
      omega
theorem vl_ends {t : Tsk} (h : TskOk t) (c : Int) : (inR (endI t c).1.1 (vlI t c).1.1 (endI t c).1.2 = true) ∧ inR (endI t c).2.1 (vlI t c).1.2 (endI t c).2.2 = true := by
  have := vl_in h c (evL t) (evL t).length (Nat.le_refl _)
  rw [List.take_length] at this
  exact ⟨inR_iff.2 this.1, inR_iff.2 this.2⟩
theorem f64_int {a : Int} (h1 : -9007199254740000 ≤ a) (h2 : a ≤ 9007199254740000) : floatToIntVal .f64 (FloatKind.f64.nearest a) .i64 = some a := by
  unfold floatToIntVal
  have h : (FloatKind.f64.decode (FloatKind.f64.nearest a)).toInt .zero = some a := toInt_wd fmD (by unfold bgI; omega)
  rw [h]
  exact if_pos (i64_of (by omega))
set_option maxRecDepth 100000 in
theorem fparts_p (a b : Int) (h1 : -9007199254740000 ≤ a) (h2 : a ≤ 9007199254740000) (h3 : -9007199254740000 ≤ b) (h4 : b ≤ 9007199254740000) : PC Tryz.prog 29 [cz a b] (.tup [.v (.int .i64 (a)), .v (.int .i64 (b))]) := by
 refine pc_of_awp Tryz.func29 rfl Tryz.ntmps29 (rs := [.tmp 2, .tmp 3]) Tryz.results29 (by simp) fun w0 => ?_
 refine awp_seq ?_
 refine awp_region 2 mixed (by kernel_rfl) ?_
 refine rg_q (q_a rfl) (rg_q (q_a rfl) ?_)
 refine rs (awp_region 8 mixed (by kernel_rfl) ?_)
 refine rg_q (q_m rfl) ?_
 refine rg_q (q_real rfl) ?_
 refine rg_q (q_convfi flt167 int3 rfl (f64_int h1 h2)) ?_
 refine rg_q (q_m rfl) ?_
 refine rg_q (q_imag rfl) ?_
 refine rg_q (q_convfi flt167 int3 rfl (f64_int h3 h4)) ?_
 refine rg_q (q_a rfl) (rg_q (q_a rfl) ?_)
 refine rn ?_
 change Awp _ _ _ _ _
 refine awp_ret ?_
 refine ⟨_, (.cons (.tmp (by exact .d _)) (.cons (.tmp (by exact .d _)) .nil)), ?_⟩
 rfl
set_option maxHeartbeats 4000000 in
set_option maxRecDepth 100000 in
theorem rendsAt_p (t : Tsk) (c : Int) (h : TskOk t) (hc : clE t.g c = 0) : PC Tryz.prog 30 [.agg (tskC t), .v (.int .i64 (c))] (.agg (rgC (endI t c))) := by
 have hel := (ev_ok h).2
 refine pc_of_awpN Tryz.func30 rfl Tryz.ntmps30 (rs := [.cell 4 57]) Tryz.results30 (by simp) fun w0 hmine hrnd hpn => ?_
 refine awp_seq ?_
 refine awp_region 1 mixed (by kernel_rfl) ?_
 refine rg_q (q_box rfl (by exact .inr ⟨_, rfl⟩)) ?_
 refine rg_nil ?_
 refine aops_alloc zr57 rfl rfl rfl ?_
 refine aops_nil ?_
 change Awp _ _ _ _ _
 refine awp_seq ?_
 refine awp_region 0 mixed (by kernel_rfl) ?_
 refine rg_nil ?_
 refine aops_alloc zr57 rfl rfl rfl ?_
 refine aops_nil ?_
 change Awp _ _ _ _ _
 refine awp_seq ?_
 refine awp_region 3 mixed (by kernel_rfl) ?_
 refine rg_q (q_loadA sz37 rfl rfl rfl) ?_
 refine rg_q (q_call en100 (.cons rfl .nil) rfl (revery_p t h)) ?_
 refine rg_q (q_assign (x := .d (.sl _ _)) rfl) ?_
 refine rn ?_
 change Awp _ _ _ _ _
 refine awp_seq ?_
 refine awp_seq ?_
 refine awp_region 1 mixed (by kernel_rfl) ?_
 refine rg_q (q_a rfl) ?_
 refine rn ?_
 change Awp _ _ _ _ _
 refine awp_block ?_
 refine awp_loopH [7, 8, 9, 10, 11, 12, 13, 14, 17, 18, 19, 20, 21, 22, 23, 24, 25, 26, 27, 28, 29, 30, 31, 32, 33, 34, 35, 36, 37, 38, 39, 40, 41, 42, 43, 44, 45, 46, 47, 48, 49, 50, 51, 52, 53, 54, 55, 56, 57, 58, 59, 60, 61, 62, 63, 64, 65, 66, 67, 68, 69, 70, 71, 72, 73, 74, 75, 76, 77, 78, 79, 80, 81, 82, 83, 84, 85, 86, 87, 88, 89, 90, 91, 92, 93, 94, 95, 96, 97, 98, 99, 100, 101, 102] [5] (α := Nat) (fun i => [(7, T.i (i : Int))]) (fun i => [(5, .box (rgC (enA t c ((evL t).take i))))]) (fun i => i ≤ (evL t).length) (fun i => (evL t).length - i) 0 (Nat.zero_le _) ?_ ?_
 · exact le_head (ms := [5]) (by repeat (exact Out.refl _)) ⟨(by rfl), trivial⟩ ⟨(by rfl), trivial⟩ rfl rfl rfl rfl
 ·
  intro i hi
  refine awp_seq ?_
  refine awp_seq ?_
  refine awp_region 4 mixed (by kernel_rfl) ?_
  refine rg_q (q_m rfl) (rg_q (q_move (x := .d (.sl _ _)) rfl) ?_)
  refine rg_q (q_len isl140 rfl (by exact len_map _ _)) ?_
  refine rg_q (q_lss rfl rfl) ?_
  refine rn ?_
  change Awp _ _ _ _ _
  refine awp_len (t := 18) rfl (fun hl18 => ?_)
  (try simp only [List.length_map] at hl18)
  refine awp_cond rfl (fun hc4 => ?_) (fun hc4 => ?_)
  ·
   (try simp only [nb, ne_eq] at hc4)
   have hlt : i < (evL t).length := by omega
   obtain ⟨y, hy⟩ : ∃ y, (evL t)[i]? = some y := ⟨_, List.getElem?_eq_getElem hlt⟩
   have hp := (ev_ok h).1 y (List.mem_of_getElem? hy)
   have hbd := bd_enA h (c := c) (l := evL t) i (by omega)
   have hst := enA_snoc (t := t) (c := c) hy
   have hnr : 0 ≤ (nrI t c y).1 ∧ (nrI t c y).2 ≤ 60 := by unfold nrI; simp only; omega
   refine awp_skip ?_
   change Awp _ _ _ _ _
   refine awp_seq ?_
   refine awp_block ?_
   refine awp_seq ?_
   refine awp_regionM 9 [none, none, none, none, none, none, none, some 8, some 8] mixed (by kernel_rfl) ?_
   refine rgm_q rfl (q_loadA sz37 rfl rfl rfl) ?_
   refine rgm_q rfl (q_m rfl) ?_
   refine rgm_q rfl (q_move (x := .d (.sl _ _)) rfl) ?_
   refine rgm_q rfl (q_m rfl) ?_
   refine rgm_q rfl (q_indexAddr sl140 rfl rfl (by omega) (map_at (by omega) hy)) ?_
   refine rgm_q rfl (q_loadA (ds := [_, _]) sz63 rfl rfl rfl) ?_
   refine rgm_q rfl (q_call en106 (.cons rfl (.cons rfl (.cons rfl .nil))) rfl (rspan_p t c y h hc hp)) ?_
   refine rgm_m (k := 8) rfl rfl (by rfl) (m_alloc zr56 rfl rfl) ?_
   refine rgm_m (k := 8) rfl rfl (by rfl) (m_store sz56 rfl rfl (by exact .inr ⟨_, rfl⟩) rfl rfl (by decide) rfl) ?_
   refine rgm_nil (aops_nil ?_)
   change Awp _ _ _ _ _
   refine Awp.le (le_freeze 8 8 0 (cs := [.v (.int .i64 (neI t c y).1), .v (.int .i64 (neI t c y).2)]) rfl rfl rfl rfl hmine) ?_
   refine awp_seq ?_
   refine awp_region 7 mixed (by kernel_rfl) ?_
   refine rg_q (q_loadA sz37 rfl rfl rfl) ?_
   refine rg_q (q_move (x := .d (.sl _ _)) rfl) (rg_q (q_m rfl) ?_)
   refine rg_q (q_indexAddr sl140 rfl rfl (by omega) (map_at (by omega) hy)) ?_
   refine rg_q (q_loadA (ds := [_, _]) sz63 rfl rfl rfl) ?_
   refine rg_q (q_call en107 (.cons rfl (.cons rfl .nil)) rfl (rpartsOf_p t y h hp)) ?_
   refine rg_q (q_assign (x := .d (.sl _ _)) rfl) ?_
   refine rs (awp_region 1 mixed (by kernel_rfl) ?_)
   refine rg_q (q_a rfl) ?_
   refine rn ?_
   change Awp _ _ _ _ _
   refine awp_block ?_
   refine awp_loopH [10, 11, 12, 13, 14, 36, 37, 38, 39, 40, 41, 42, 43, 44, 45, 46, 47, 48, 49, 50, 51, 52, 53, 54, 55, 56, 57, 58, 59, 60, 61, 62, 63, 64, 65, 66, 67, 68, 69, 70, 71, 72, 73, 74, 75, 76, 77, 78, 79, 80, 81, 82, 83, 84, 85, 86, 87, 88, 89, 90, 91, 92, 93, 94, 95, 96, 97, 98, 99, 100, 101, 102] [5] (α := Nat) (fun k => [(10, T.i (k : Int))]) (fun k => [(5, .box (rgC (ouP (enA t c ((evL t).take i)) (owE t c y) k)))]) (fun k => k ≤ 2) (fun k => 2 - k) 0 (Nat.zero_le _) ?_ ?_
   · exact le_head (ms := [5]) (by repeat (exact Out.refl _)) ⟨(by rfl), trivial⟩ ⟨(by rfl), trivial⟩ rfl rfl rfl rfl
   ·
    intro k hk
    refine awp_seq ?_
    refine awp_seq ?_
    refine awp_region 2 mixed (by kernel_rfl) ?_
    refine rg_q (q_m rfl) (rg_q (q_lss rfl rfl) ?_)
    refine rn ?_
    change Awp _ _ _ _ _
    refine awp_cond rfl (fun hc9 => ?_) (fun hc9 => ?_)
    ·
     (try simp only [nb, ne_eq] at hc9)
     have hk2 : k < 2 := by omega
     have hre := rd_end t c y k hk2
     refine awp_skip ?_
     change Awp _ _ _ _ _
     refine awp_seq ?_
     refine awp_block ?_
     refine awp_seq ?_
     refine awp_region 11 mixed (by kernel_rfl) ?_
     refine rg_q (q_fieldAddr fld56_0 rfl) (rg_q (q_load sz3 rfl rfl) (rg_q (q_lss rfl rfl) (rg_q (q_m rfl) ?_)))
     refine rg_g rfl rfl (fun hG => (q_fieldAddr fld56_1 rfl)) ?_
     refine rg_g rfl rfl (fun hG => (q_load sz3 rfl rfl)) ?_
     refine rg_g rfl rfl (fun hG => (q_gtr rfl rfl)) ?_
     refine rg_pick rfl rfl rfl rfl rfl rfl ?_
     refine rg_q (q_a rfl) (rg_q (q_a rfl) (rg_q (q_a rfl) ?_))
     refine rn ?_
     change Awp _ _ _ _ _
     refine awp_seq ?_
     refine awp_seq ?_
     refine awp_region 4 mixed (by kernel_rfl) ?_
     refine rg_q (q_fieldAddr fld56_0 rfl) (rg_q (q_load sz3 rfl rfl) ?_)
     refine rg_q (q_max rfl rfl) ?_
     refine rg_q (q_a rfl) ?_
     refine rn ?_
     change Awp _ _ _ _ _
     refine awp_block ?_
     refine awp_loopH [11, 12, 13, 14, 51, 52, 53, 54, 55, 56, 57, 58, 59, 60, 61, 62, 63, 64, 65, 66, 67, 68, 69, 70, 71, 72, 73, 74, 75, 76, 77, 78, 79, 80, 81, 82, 83, 84, 85, 86, 87] [] (α := Nat) (fun j => [(14, T.i ((nrI t c y).1 + (j : Int))), (11, .d (.v (.int .i64 ((rdK t c y k j).2.1)))), (12, .d (.v (.int .i64 ((rdK t c y k j).2.2)))), (13, .d (.v (.bool ((rdK t c y k j).1))))]) (fun j => []) (fun j => j ≤ rdN t c y) (fun j => rdN t c y - j) 0 (Nat.zero_le _) ?_ ?_
     · exact le_head (ms := []) (by repeat (exact Out.refl _)) ⟨(by ((show T.i _ = T.i _; congr 1; unfold nrI; simp only; omega))), (by rfl), (by rfl), (by rfl), trivial⟩ trivial rfl rfl rfl rfl
     ·
      intro j hj
      refine awp_seq ?_
      refine awp_seq ?_
      refine awp_region 5 mixed (by kernel_rfl) ?_
      refine rg_q (q_m rfl) (rg_q (q_fieldAddr fld56_1 rfl) (rg_q (q_load sz3 rfl rfl) ?_))
      refine rg_q (q_min rfl rfl) ?_
      refine rg_q (q_leq rfl rfl) ?_
      refine rn ?_
      change Awp _ _ _ _ _
      refine awp_cond rfl (fun hc13 => ?_) (fun hc13 => ?_)
      ·
       (try simp only [nb, ne_eq] at hc13)
       have hnl : ((nrI t c y).1 + (j : Int)) ≤ (nrI t c y).2 := hc13
       have hlj : j < rdN t c y := by unfold rdN; omega
       have hpt := prtF_at (V := smpS t y) (n := 61) (k := ((nrI t c y).1 + (j : Int)).toNat) (by omega)
       have hsu : rdK t c y k (j + 1) = (true, huA (if (rdK t c y k j).1 = true then (rdK t c y k j).2 else (rdV t y k ((nrI t c y).1 + (j : Int)), rdV t y k ((nrI t c y).1 + (j : Int)))) (rdV t y k ((nrI t c y).1 + (j : Int)))) := rfl
       refine awp_skip ?_
       change Awp _ _ _ _ _
       refine awp_seq ?_
       refine awp_block ?_
       refine awp_seq ?_
       refine awp_seq ?_
       refine awp_region 2 mixed (by kernel_rfl) ?_
       refine rg_q (q_m rfl) (rg_q (q_not rfl) ?_)
       refine rn ?_
       change Awp _ _ _ _ _
       refine awp_cond rfl (fun hc15 => ?_) (fun hc15 => ?_)
       ·
        (try simp only [nb, ne_eq] at hc15)
        rw [if_neg (by rw [hc15]; decide)] at hsu
        refine awp_region 15 mixed (by kernel_rfl) ?_
        refine rg_q (q_move (x := .d (.sl _ _)) rfl) (rg_q (q_m rfl) (rg_q (q_m rfl) ?_))
        refine rg_q (q_indexAddr sl140 rfl rfl (by omega) (map_at (k := ((nrI t c y).1 + (j : Int)).toNat) (by omega) hpt)) ?_
        refine rg_q (q_indexAddr_ar ar63 rfl rfl (by omega) (by omega)) ?_
        refine rg_q (q_load sz3 rfl (pt_ld hk2)) ?_
        refine rg_q (q_move (x := .d (.sl _ _)) rfl) (rg_q (q_m rfl) (rg_q (q_m rfl) ?_))
        refine rg_q (q_indexAddr sl140 rfl rfl (by omega) (map_at (k := ((nrI t c y).1 + (j : Int)).toNat) (by omega) hpt)) ?_
        refine rg_q (q_indexAddr_ar ar63 rfl rfl (by omega) (by omega)) ?_
        refine rg_q (q_load sz3 rfl (pt_ld hk2)) ?_
        refine rg_q (q_a rfl) (rg_q (q_a rfl) (rg_q (q_a rfl) ?_))
        refine rn ?_
        change Awp _ _ _ _ _
        refine awp_region 18 mixed (by kernel_rfl) ?_
        refine rg_q (q_m rfl) (rg_q (q_move (x := .d (.sl _ _)) rfl) (rg_q (q_m rfl) (rg_q (q_m rfl) ?_)))
        refine rg_q (q_indexAddr sl140 rfl rfl (by omega) (map_at (k := ((nrI t c y).1 + (j : Int)).toNat) (by omega) hpt)) ?_
        refine rg_q (q_indexAddr_ar ar63 rfl rfl (by omega) (by omega)) ?_
        refine rg_q (q_load sz3 rfl (pt_ld hk2)) ?_
        refine rg_q (q_min rfl rfl) ?_
        refine rg_q (q_m rfl) (rg_q (q_move (x := .d (.sl _ _)) rfl) (rg_q (q_m rfl) (rg_q (q_m rfl) ?_)))
        refine rg_q (q_indexAddr sl140 rfl rfl (by omega) (map_at (k := ((nrI t c y).1 + (j : Int)).toNat) (by omega) hpt)) ?_
        refine rg_q (q_indexAddr_ar ar63 rfl rfl (by omega) (by omega)) ?_
        refine rg_q (q_load sz3 rfl (pt_ld hk2)) ?_
        refine rg_q (q_max rfl rfl) ?_
        refine rg_q (q_a rfl) (rg_q (q_a rfl) ?_)
        refine rn ?_
        change Awp _ _ _ _ _
        refine awp_region 3 mixed (by kernel_rfl) ?_
        refine rg_q (q_m rfl) ?_
        refine rg_q (q_add rfl rfl (In64.mk (by omega) (by omega))) ?_
        refine rg_q (q_a rfl) ?_
        refine rn ?_
        refine ⟨j + 1, by omega, by omega, ?_⟩
        exact le_head (ms := []) (by repeat (first | exact Out.head rfl rfl | (refine Out.put ?_ rfl))) ⟨(by ((show T.i _ = T.i _; congr 1; omega))), (by ((show T.d _ = T.d _; rw [hsu]; rfl))), (by ((show T.d _ = T.d _; rw [hsu]; rfl))), (by rfl), trivial⟩ trivial rfl rfl rfl rfl
       ·
        (try simp only [nb, ne_eq] at hc15)
        rw [if_pos hc15] at hsu
        refine awp_skip ?_
        change Awp _ _ _ _ _
        refine awp_region 18 mixed (by kernel_rfl) ?_
        refine rg_q (q_m rfl) (rg_q (q_move (x := .d (.sl _ _)) rfl) (rg_q (q_m rfl) (rg_q (q_m rfl) ?_)))
        refine rg_q (q_indexAddr sl140 rfl rfl (by omega) (map_at (k := ((nrI t c y).1 + (j : Int)).toNat) (by omega) hpt)) ?_
        refine rg_q (q_indexAddr_ar ar63 rfl rfl (by omega) (by omega)) ?_
        refine rg_q (q_load sz3 rfl (pt_ld hk2)) ?_
        refine rg_q (q_min rfl rfl) ?_
        refine rg_q (q_m rfl) (rg_q (q_move (x := .d (.sl _ _)) rfl) (rg_q (q_m rfl) (rg_q (q_m rfl) ?_)))
        refine rg_q (q_indexAddr sl140 rfl rfl (by omega) (map_at (k := ((nrI t c y).1 + (j : Int)).toNat) (by omega) hpt)) ?_
        refine rg_q (q_indexAddr_ar ar63 rfl rfl (by omega) (by omega)) ?_
        refine rg_q (q_load sz3 rfl (pt_ld hk2)) ?_
        refine rg_q (q_max rfl rfl) ?_
        refine rg_q (q_a rfl) (rg_q (q_a rfl) ?_)
        refine rn ?_
        change Awp _ _ _ _ _
        refine awp_region 3 mixed (by kernel_rfl) ?_
        refine rg_q (q_m rfl) ?_
        refine rg_q (q_add rfl rfl (In64.mk (by omega) (by omega))) ?_
        refine rg_q (q_a rfl) ?_
        refine rn ?_
        refine ⟨j + 1, by omega, by omega, ?_⟩
        exact le_head (ms := []) (by repeat (first | exact Out.head rfl rfl | (refine Out.put ?_ rfl))) ⟨(by ((show T.i _ = T.i _; congr 1; omega))), (by ((show T.d _ = T.d _; rw [hsu]; rfl))), (by ((show T.d _ = T.d _; rw [hsu]; rfl))), (by ((show T.d _ = T.d _; rw [hsu, hc15]; done))), trivial⟩ trivial rfl rfl rfl rfl
      ·
       (try simp only [nb, ne_eq] at hc13)
       have hnl : (nrI t c y).2 < ((nrI t c y).1 + (j : Int)) := hc13
       have hjn : j = rdN t c y := by unfold rdN at hj ⊢; omega
       have hre2 := hre
       rw [← hjn] at hre2
       rw [hre2]
       obtain ⟨⟨q1, q2⟩, q3, q4⟩ := bd_S hbd k
       obtain ⟨⟨q5, q6⟩, q7, q8⟩ := bd_S (show Bd2 4094 (owE t c y) from bd_owK h y _ _ _) k
       have hsi := ou_S (o := enA t c ((evL t).take i)) (w := owE t c y) hk2
       refine awp_exit ?_
       change Awp _ _ _ _ _
       refine awp_region 15 mixed (by kernel_rfl) ?_
       refine rg_q (q_m rfl) (rg_q (q_m rfl) ?_)
       refine rg_q (q_indexAddr_aref ar57 rfl rfl (by omega) (by omega)) ?_
       refine rg_q (q_fieldAddr_ref fld56_0 rfl) ?_
       refine rg_q (q_load_ref sz3 rfl rfl (rg_ld0 hk2)) ?_
       refine rg_q (q_m rfl) ?_
       refine rg_q (q_add rfl rfl (In64.mk (by rw [hsi]; omega) (by rw [hsi]; omega))) ?_
       refine rg_q (q_m rfl) ?_
       refine rg_q (q_indexAddr_aref ar57 rfl rfl (by omega) (by omega)) ?_
       refine rg_q (q_fieldAddr_ref fld56_1 rfl) ?_
       refine rg_q (q_load_ref sz3 rfl rfl (rg_ld1 hk2)) ?_
       refine rg_q (q_m rfl) ?_
       refine rg_q (q_add rfl rfl (In64.mk (by rw [hsi]; omega) (by rw [hsi]; omega))) ?_
       refine rg_q (q_build (cs := [_, _]) pl56 zr56 rfl (.cons rfl (by exact .inl rfl) (.cons rfl (by exact .inl rfl) .nil)) ⟨⟨rfl, by decide⟩, ⟨rfl, by decide⟩, trivial⟩ rfl) ?_
       refine rg_q (q_indexAddr_aref ar57 rfl rfl (by omega) (by omega)) ?_
       refine rg_nil ?_
       refine aops_store (cs' := _) sz56 rfl rfl (by exact .inr ⟨_, rfl⟩) rfl rfl (rg_ln hk2) (rg_st hk2) ?_
       refine aops_nil ?_
       change Awp _ _ _ _ _
       refine awp_region 3 mixed (by kernel_rfl) ?_
       refine rg_q (q_m rfl) ?_
       refine rg_q (q_add rfl rfl (In64.mk (by omega) (by omega))) ?_
       refine rg_q (q_a rfl) ?_
       refine rn ?_
       refine ⟨k + 1, by omega, by omega, ?_⟩
       exact le_head (ms := [5]) (by repeat (first | exact Out.head rfl rfl | (refine Out.put ?_ rfl) | (refine Out.site ?_ rfl) | (refine Out.headIn ?_ rfl rfl rfl))) ⟨(by rfl), trivial⟩ ⟨(by rfl), trivial⟩ rfl rfl rfl rfl
    ·
     (try simp only [nb, ne_eq] at hc9)
     have hk3 : k = 2 := by omega
     subst hk3
     refine awp_exit ?_
     change Awp _ _ _ _ _
     refine awp_region 3 mixed (by kernel_rfl) ?_
     refine rg_q (q_m rfl) ?_
     refine rg_q (q_add rfl rfl (In64.mk (by omega) (by omega))) ?_
     refine rg_q (q_a rfl) ?_
     refine rn ?_
     refine ⟨i + 1, by omega, by omega, ?_⟩
     exact le_head (ms := [5]) (by repeat (first | exact Out.head rfl rfl | (refine Out.put ?_ rfl) | (refine Out.site ?_ rfl) | (refine Out.headIn ?_ rfl rfl rfl))) ⟨(by rfl), trivial⟩ ⟨(by (show Site.box _ = Site.box _; (rw [hst]; done))), trivial⟩ rfl rfl rfl rfl
  ·
   (try simp only [nb, ne_eq] at hc4)
   have hin : i = (evL t).length := by omega
   subst hin
   rw [List.take_length]
   refine awp_exit ?_
   change Awp _ _ _ _ _
   refine awp_seq ?_
   refine awp_region 1 mixed (by kernel_rfl) ?_
   refine rg_q (q_load_refA (ds := [_, _, _, _]) sz57 rfl rfl rfl rfl) ?_
   refine rg_nil ?_
   refine aops_store sz57 rfl rfl (by exact .inr ⟨_, rfl⟩) rfl rfl (by decide) rfl ?_
   refine aops_nil ?_
   change Awp _ _ _ _ _
   refine awp_ret ?_
   refine ⟨_, (.cons (.cellA rfl rfl sz57 rfl) .nil), ?_⟩
   rfl
set_option maxHeartbeats 4000000 in
set_option maxRecDepth 100000 in
theorem focusEnds_p (t : Tsk) (c : Int) : PC Tryz.prog 5 [.agg (tskC t), .v (.int .i64 (c))] (.v (.bool (true))) := by
  refine pc_of_awpN Tryz.func5 rfl Tryz.ntmps5 (rs := [.tmp 4]) Tryz.results5 (by simp) fun w0 hmine hrnd hpn => ?_
  refine awp_seq ?_
  refine awp_region 2 mixed (by kernel_rfl) ?_
  refine rg_q (q_box rfl (by exact .inr ⟨_, rfl⟩)) ?_
  refine rg_q (q_a rfl) ?_
  refine rn ?_
  change Awp _ _ _ _ _
  refine awp_seq ?_
  refine awp_seq ?_
  refine awp_region 2 mixed (by kernel_rfl) ?_
  refine rg_q (q_call en18 .nil rfl (awake5_p)) ?_
  refine rg_q (q_not rfl) ?_
  refine rn ?_
  change Awp _ _ _ _ _
  refine awp_cond rfl (fun hc1 => ?_) (fun hc1 => ?_)
  ·
    simp at hc1
  ·
    (try simp only [nb, ne_eq] at hc1)
    refine awp_skip ?_
    change Awp _ _ _ _ _
    refine awp_seq ?_
    refine awp_seq ?_
    refine awp_region 3 mixed (by kernel_rfl) ?_
    refine rg_q (q_loadA sz37 rfl rfl rfl) ?_
    refine rg_q (q_call en19 (.cons rfl .nil) rfl (light_p _)) ?_
    refine rg_q (q_not rfl) ?_
    refine rn ?_
    change Awp _ _ _ _ _
    refine awp_cond rfl (fun hc3 => ?_) (fun hc3 => ?_)
    ·
      (try simp only [nb, ne_eq] at hc3)
      refine awp_seq ?_
      refine awp_region 1 mixed (by kernel_rfl) ?_
      refine rg_q (q_a rfl) ?_
      refine rn ?_
      change Awp _ _ _ _ _
      refine awp_ret ?_
      refine ⟨_, (.cons (.tmp (by exact .d _)) .nil), ?_⟩
      rfl
    ·
      (try simp only [nb, ne_eq] at hc3)
      obtain ⟨hl1, hl2⟩ := lit_le hc3
      refine awp_skip ?_
      change Awp _ _ _ _ _
      refine awp_seq ?_
      refine awp_region 7 mixed (by kernel_rfl) ?_
      refine rg_q (q_loadA sz37 rfl rfl rfl) ?_
      refine rg_q (q_call en21 (.cons rfl .nil) rfl (rcopyT_p _ (by omega) (by omega))) ?_
      refine rg_q (q_m rfl) ?_
      refine rg_q (q_call en28 (.cons rfl (.cons rfl .nil)) rfl (endsAt5_p _ _)) ?_
      refine rg_q (q_move (x := .d (.tup _)) rfl) (rg_q (q_extract rfl rfl) (rg_q (q_extract rfl rfl) ?_))
      refine rg_nil ?_
      refine aops_allocD zr57 rfl sz57 rfl rfl (by exact .inr ⟨_, rfl⟩) rfl rfl ?_
      refine aops_q rfl (q_a rfl) ?_
      refine aops_nil ?_
      change Awp _ _ _ _ _
      refine awp_seq ?_
      refine awp_region 11 mixed (by kernel_rfl) ?_
      refine rg_q (q_loadA sz37 rfl rfl rfl) ?_
      refine rg_q (q_call en21 (.cons rfl .nil) rfl (rcopyT_p _ (by omega) (by omega))) ?_
      refine rg_q (q_m rfl) ?_
      refine rg_q (q_call en23 (.cons rfl (.cons rfl .nil)) rfl (valueAt5_p _ _)) ?_
      refine rg_q (q_move (x := .d (.tup _)) rfl) (rg_q (q_extract rfl rfl) (rg_q (q_extract rfl rfl) (rg_q (q_extract rfl rfl) (rg_q (q_a rfl) (rg_q (q_a rfl) ?_)))))
      refine rg_q (q_a rfl) ?_
      refine rs (awp_region 3 mixed (by kernel_rfl) ?_)
      refine rg_q (q_loadA sz37 rfl rfl rfl) ?_
      refine rg_q (q_call en24 (.cons rfl .nil) rfl (rtaskErr_p _)) ?_
      refine rg_q (q_a rfl) ?_
      refine rn ?_
      change Awp _ _ _ _ _
      refine awp_seq ?_
      refine awp_seq ?_
      refine awp_region 9 mixed (by kernel_rfl) ?_
      refine rg_q (q_m rfl) (rg_q (q_eql rfl rfl) (rg_q (q_m rfl) ?_))
      refine rg_g rfl rfl (fun hG => (q_fieldAddr fld37_2 rfl)) ?_
      refine rg_g rfl rfl (fun hG => (q_loadA (ds := [_, _, _, _, _]) sz35 rfl rfl rfl)) ?_
      refine rg_g rfl rfl (fun hG => (q_m rfl)) ?_
      refine rg_g rfl rfl (fun hG => (q_call en25 (.cons rfl (.cons rfl .nil)) rfl (risCell_p t.g c (ckG_ok (ckT_ok (of_decide_eq_true (T.bool_inj (a := _) hG.1))).gr).1))) ?_
      refine rg_g rfl rfl (fun hG => (q_not rfl)) ?_
      refine rg_pick rfl rfl rfl rfl rfl rfl ?_
      refine rn ?_
      change Awp _ _ _ _ _
      refine awp_cond rfl (fun hc8 => ?_) (fun hc8 => ?_)
      ·
        (try simp only [nb, ne_eq] at hc8)
        have hw : tcE t c = 6 := by unfold tcE clE; rw [if_neg (fun q => q hc8.1), hc8.2]; rfl
        have hz : enR t c = (((0, 0), 0, 0), 6) := by unfold enR; rw [hw]; rfl
        refine awp_region 1 mixed (by kernel_rfl) ?_
        refine rg_q (q_a rfl) ?_
        refine rn ?_
        change Awp _ _ _ _ _
        refine awp_seq ?_
        refine awp_seq ?_
        refine awp_region 2 mixed (by kernel_rfl) ?_
        refine rg_q (q_m rfl) (rg_q (q_neq rfl rfl) ?_)
        refine rn ?_
        change Awp _ _ _ _ _
        refine awp_cond rfl (fun hc10 => ?_) (fun hc10 => ?_)
        ·
          (try simp only [nb, ne_eq] at hc10)
          refine awp_seq ?_
          refine awp_region 9 mixed (by kernel_rfl) ?_
          refine rg_q (q_m rfl) (rg_q (q_m rfl) (rg_q (q_eql rfl rfl) (rg_q (q_m rfl) ?_)))
          refine rg_g rfl rfl (fun hG => (q_loadA (ds := [_, _, _, _]) sz57 rfl rfl rfl)) ?_
          refine rg_g rfl rfl (fun hG => (q_buildA (cs := [_, _, _, _]) ar57 zr57 rfl .nil trivial rfl)) ?_
          refine rg_g rfl rfl (fun hG => (q_eqlI (xs := [_, _, _, _]) (ys := [_, _, _, _]) eqi57 rfl rfl rfl rfl)) ?_
          refine rg_pick rfl rfl rfl rfl rfl rfl ?_
          refine rg_q (q_a rfl) ?_
          refine rn ?_
          change Awp _ _ _ _ _
          refine awp_ret ?_
          refine ⟨_, (.cons (.tmp (by exact .d _)) .nil), ?_⟩
          rw [hz]; simp [retD, rgC]
        ·
          simp at hc10
      ·
        (try simp only [nb, ne_eq] at hc8)
        have hw : tcE t c = (ckT t).2 := by
          unfold tcE
          by_cases q : (ckT t).2 = 0
          · rw [if_neg (fun w => w q), q]
            rcases hc8 with w | w
            · exact absurd q w
            · unfold clE; rw [w]; rfl
          · rw [if_pos q]
        refine awp_skip ?_
        change Awp _ _ _ _ _
        refine awp_seq ?_
        refine awp_seq ?_
        refine awp_region 2 mixed (by kernel_rfl) ?_
        refine rg_q (q_m rfl) (rg_q (q_neq rfl rfl) ?_)
        refine rn ?_
        change Awp _ _ _ _ _
        refine awp_cond rfl (fun hc10 => ?_) (fun hc10 => ?_)
        ·
          (try simp only [nb, ne_eq] at hc10)
          have hz : enR t c = (((0, 0), 0, 0), (ckT t).2) := by unfold enR; rw [hw, if_pos hc10]
          refine awp_seq ?_
          refine awp_region 9 mixed (by kernel_rfl) ?_
          refine rg_q (q_m rfl) (rg_q (q_m rfl) (rg_q (q_eql rfl rfl) (rg_q (q_m rfl) ?_)))
          refine rg_g rfl rfl (fun hG => (q_loadA (ds := [_, _, _, _]) sz57 rfl rfl rfl)) ?_
          refine rg_g rfl rfl (fun hG => (q_buildA (cs := [_, _, _, _]) ar57 zr57 rfl .nil trivial rfl)) ?_
          refine rg_g rfl rfl (fun hG => (q_eqlI (xs := [_, _, _, _]) (ys := [_, _, _, _]) eqi57 rfl rfl rfl rfl)) ?_
          refine rg_pick rfl rfl rfl rfl rfl rfl ?_
          refine rg_q (q_a rfl) ?_
          refine rn ?_
          change Awp _ _ _ _ _
          refine awp_ret ?_
          refine ⟨_, (.cons (.tmp (by exact .d _)) .nil), ?_⟩
          rw [hz]; simp [retD, rgC]
        ·
          (try simp only [nb, ne_eq] at hc10)
          have hz : enR t c = (endI t c, 0) := by unfold enR; rw [hw, if_neg (fun q => q hc10)]
          have hz2 : vaR t c = ((czP (vlI t c).1, (vlI t c).2), 0) := by unfold vaR; rw [hw, if_neg (fun q => q hc10)]
          obtain ⟨hok, hcl⟩ := tcE_zero (hw.trans hc10)
          obtain ⟨hv1, hv2⟩ := vl_ends hok c
          have hb := vlA_in hok (c := c) (dd := []) (l := evL t) (evL t).length (Nat.le_refl _)
          rw [List.take_length] at hb
          have hle := (ev_ok hok).2
          obtain ⟨⟨b1, b2⟩, ⟨b3, b4⟩, _⟩ : (-9007199254740000 ≤ (vlI t c).1.1 ∧ (vlI t c).1.1 ≤ 9007199254740000) ∧ (-9007199254740000 ≤ (vlI t c).1.2 ∧ (vlI t c).1.2 ≤ 9007199254740000) ∧ True := by
            have e : vlI t c = vlA t c [] (evL t) := rfl
            rw [e]; exact ⟨by omega, by omega, trivial⟩
          rw [hz, hz2]
          refine awp_skip ?_
          change Awp _ _ _ _ _
          refine awp_seq ?_
          refine awp_region 7 mixed (by kernel_rfl) ?_
          refine rg_q (q_m rfl) ?_
          refine rg_q (q_call en29 (.cons rfl .nil) rfl (fparts_p (vlI t c).1.1 (vlI t c).1.2 (by omega) (by omega) (by omega) (by omega))) ?_
          refine rg_q (q_move (x := .d (.tup _)) rfl) (rg_q (q_extract rfl rfl) (rg_q (q_extract rfl rfl) (rg_q (q_a rfl) (rg_q (q_a rfl) ?_))))
          refine rs (awp_region 34 mixed (by kernel_rfl) ?_)
          refine rg_q (q_m rfl) (rg_q (q_eql rfl rfl) (rg_q (q_m rfl) ?_))
          refine rg_g rfl rfl (fun hG => (q_loadA (ds := [_, _, _, _]) sz57 rfl rfl rfl)) ?_
          refine rg_g rfl rfl (fun hG => (q_loadA sz37 rfl rfl rfl)) ?_
          refine rg_g rfl rfl (fun hG => (q_m rfl)) ?_
          refine rg_g rfl rfl (fun hG => (q_call en30 (.cons rfl (.cons rfl .nil)) rfl (rendsAt_p _ _ (by assumption) (by assumption)))) ?_
          refine rg_g rfl rfl (fun hG => (q_eqlI (xs := [_, _, _, _]) (ys := [_, _, _, _]) eqi57 rfl rfl rfl rfl)) ?_
          refine rg_pick rfl rfl rfl rfl rfl rfl ?_
          refine rg_q (q_m rfl) ?_
          refine rg_g rfl rfl (fun hG => (q_m rfl)) ?_
          refine rg_g rfl rfl (fun hG => (q_eql rfl rfl)) ?_
          refine rg_pick rfl rfl rfl rfl rfl rfl ?_
          refine rg_q (q_m rfl) ?_
          refine rg_g rfl rfl (fun hG => (q_m rfl)) ?_
          refine rg_g rfl rfl (fun hG => (q_indexAddr_ar ar57 rfl rfl (by (have hg0 := T.bool_inj (a := _) hG.1; (try simp only [nb, ne_eq] at hg0); omega)) (by (have hg0 := T.bool_inj (a := _) hG.1; (try simp only [nb, ne_eq] at hg0); omega)))) ?_
          refine rg_g rfl rfl (fun hG => (q_fieldAddr fld56_0 rfl)) ?_
          refine rg_g rfl rfl (fun hG => (q_load sz3 rfl rfl)) ?_
          refine rg_g rfl rfl (fun hG => (q_indexAddr_ar ar57 rfl rfl (by (have hg0 := T.bool_inj (a := _) hG.1; (try simp only [nb, ne_eq] at hg0); omega)) (by (have hg0 := T.bool_inj (a := _) hG.1; (try simp only [nb, ne_eq] at hg0); omega)))) ?_
          refine rg_g rfl rfl (fun hG => (q_fieldAddr fld56_1 rfl)) ?_
          refine rg_g rfl rfl (fun hG => (q_load sz3 rfl rfl)) ?_
          refine rg_g rfl rfl (fun hG => (q_call en31 (.cons rfl (.cons rfl (.cons rfl .nil))) rfl (within4_p _ _ _))) ?_
          refine rg_pick rfl rfl rfl rfl rfl rfl ?_
          refine rg_q (q_m rfl) ?_
          refine rg_g rfl rfl (fun hG => (q_m rfl)) ?_
          refine rg_g rfl rfl (fun hG => (q_indexAddr_ar ar57 rfl rfl (by (have hg0 := T.bool_inj (a := _) hG.1; (try simp only [nb, ne_eq] at hg0); omega)) (by (have hg0 := T.bool_inj (a := _) hG.1; (try simp only [nb, ne_eq] at hg0); omega)))) ?_
          refine rg_g rfl rfl (fun hG => (q_fieldAddr fld56_0 rfl)) ?_
          refine rg_g rfl rfl (fun hG => (q_load sz3 rfl rfl)) ?_
          refine rg_g rfl rfl (fun hG => (q_indexAddr_ar ar57 rfl rfl (by (have hg0 := T.bool_inj (a := _) hG.1; (try simp only [nb, ne_eq] at hg0); omega)) (by (have hg0 := T.bool_inj (a := _) hG.1; (try simp only [nb, ne_eq] at hg0); omega)))) ?_
          refine rg_g rfl rfl (fun hG => (q_fieldAddr fld56_1 rfl)) ?_
          refine rg_g rfl rfl (fun hG => (q_load sz3 rfl rfl)) ?_
          refine rg_g rfl rfl (fun hG => (q_call en31 (.cons rfl (.cons rfl (.cons rfl .nil))) rfl (within4_p _ _ _))) ?_
          refine rg_pick rfl rfl rfl rfl rfl rfl ?_
          refine rg_q (q_a rfl) ?_
          refine rn ?_
          change Awp _ _ _ _ _
          refine awp_ret ?_
          refine ⟨_, (.cons (.tmp (by exact .d _)) .nil), ?_⟩
          simp only [retD, bif_and, bif_or]
          rw [hv1, hv2]
          simp
end Go.Proofs.YtphlaicnmmglhaaGreat.Am.M
