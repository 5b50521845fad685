/- Contracts over the abstract machine: the errors of tasks. Conditions: none. -/
import Derived.Test.YtphlaicnmmglhaaGreatE17
set_option linter.unusedVariables false
set_option linter.unusedSimpArgs false
-- mini
namespace Go.Proofs.YtphlaicnmmglhaaGreat.Am.M
open Go

def ssE : Nat → List Nat → Int × Int
  | _, [] => (0, 0)
  | i, b :: r => if sE b ≠ 0 then ((i : Int), sE b) else ssE (i + 1) r
theorem ssE_at {l : List Nat} {k : Nat} {x : Nat} (hx : l[k]? = some x) : ssE k (l.drop k) = if sE x ≠ 0 then ((k : Int), sE x) else ssE (k + 1) (l.drop (k + 1)) := by
  obtain ⟨hlt, rfl⟩ := List.getElem?_eq_some_iff.1 hx
  rw [List.drop_eq_getElem_cons hlt]; rfl
theorem ssE_ok : ∀ {l : List Nat} {i : Nat}, (ssE i l).2 = 0 → ∀ b ∈ l, sE b = 0
  | [], _, _, p, hp => by cases hp
  | q :: l, i, h, p, hp => by
    unfold ssE at h
    by_cases h1 : sE q ≠ 0
    · rw [if_pos h1] at h; exact absurd h h1
    · rw [if_neg h1] at h
      rcases List.mem_cons.1 hp with rfl | hp
      · exact Decidable.not_not.1 h1
      · exact ssE_ok h p hp
def ckM (ne : Int) (l : List Nat) : Int × Int := if inR 1 ne 16 = true then (if (l.length : Int) ≠ ne * ne * 64 then (0, 10) else ssE 0 l) else (0, 2)
def ckT (t : Tsk) : Int × Int :=
  if (ckArr t.ar).2 ≠ 0 then ckArr t.ar
  else if (ckM t.ne t.bf).2 ≠ 0 then (0, (ckM t.ne t.bf).2)
  else if (t.ar.el.length : Int) ≠ t.ne then (0, 13)
  else if ckG t.g ≠ 0 then (0, ckG t.g)
  else (0, whenI (!inR 1 t.g.fz (t.ar.ou.t - 1) || !inR 1 (spI t.g (t.g.co * t.g.ro - 1)).2 (t.ar.ou.t - 1)) 22)
theorem f32_num {b : Nat} {s : Bool} {m : Nat} {e : Int} (hr : Ieee.single.read b = .number s m e) (h0 : sEM (m * 2 ^ (e + KK).toNat) = 0) : Whl b (sgI s (m * 2 ^ (e + KK).toNat / QQ)) := by
  obtain ⟨M, hM⟩ : ∃ M, m * 2 ^ (e + KK).toNat = M := ⟨_, rfl⟩
  have hn := num_of fmS LS hr
  rw [hM] at hn h0 ⊢
  unfold sEM at h0
  by_cases h1 : 16777216 * QQ ≤ M
  · rw [if_pos h1] at h0; cases h0
  rw [if_neg h1] at h0
  by_cases h2 : M % QQ ≠ 0
  · rw [if_pos h2] at h0; cases h0
  rw [if_neg h2] at h0
  by_cases h3 : 2047 * QQ < M
  · rw [if_pos h3] at h0; cases h0
  have hq : M / QQ ≤ 2047 := Nat.div_le_of_le_mul (by rw [Nat.mul_comm]; omega)
  obtain ⟨h4, h5⟩ := sg_le (s := s) _ h1
  obtain ⟨h6, h7⟩ := (in_M (s := s) 2047).2 hq
  refine ⟨h6, h7, ob_self hn, sub_num hn, (ob_geq hn num_hi).trans h4, (ob_leq hn num_lo).trans h5, int_num (k := .f32) hn (by omega), ?_⟩
  have := neq_back fmS LS hr hM
  rw [decide_eq_true (Decidable.not_not.1 h2)] at this
  exact this
theorem sE_whl {b : Nat} (h : sE b = 0) : Whl b (vI b) := by
  unfold sE at h
  cases hr : Ieee.single.read b with
  | nan s t => rw [hr] at h; cases h
  | infinity s => rw [hr] at h; cases h
  | number s m e =>
    rw [hr] at h
    have := f32_num hr h
    rw [this.v]; exact this
theorem ckM_ok {ne : Int} {l : List Nat} (h : (ckM ne l).2 = 0) : 1 ≤ ne ∧ ne ≤ 16 ∧ (l.length : Int) = ne * ne * 64 ∧ WhlL l := by
  unfold ckM at h
  by_cases h1 : inR 1 ne 16 = true
  · rw [if_pos h1] at h
    by_cases h2 : (l.length : Int) ≠ ne * ne * 64
    · rw [if_pos h2] at h; cases h
    · rw [if_neg h2] at h
      obtain ⟨a, b⟩ := inR_iff.1 h1
      exact ⟨a, b, Decidable.not_not.1 h2, fun x hx => sE_whl (ssE_ok h x hx)⟩
  · rw [if_neg h1] at h; cases h
theorem ckT_ok {t : Tsk} (h : (ckT t).2 = 0) : TskOk t := by
  unfold ckT at h
  by_cases h1 : (ckArr t.ar).2 ≠ 0
  · rw [if_pos h1] at h; exact absurd h h1
  rw [if_neg h1] at h
  by_cases h2 : (ckM t.ne t.bf).2 ≠ 0
  · rw [if_pos h2] at h; exact absurd h h2
  rw [if_neg h2] at h
  by_cases h3 : (t.ar.el.length : Int) ≠ t.ne
  · rw [if_pos h3] at h; cases h
  rw [if_neg h3] at h
  by_cases h4 : ckG t.g ≠ 0
  · rw [if_pos h4] at h; exact absurd h h4
  rw [if_neg h4] at h
  simp only at h
  rw [when_zero (by decide), Bool.or_eq_false_iff, Bool.not_eq_false', Bool.not_eq_false'] at h
  obtain ⟨a1, a2, a3, a4⟩ := ckM_ok (Decidable.not_not.1 h2)
  obtain ⟨b1, b2⟩ := inR_iff.1 h.1
  obtain ⟨b3, b4⟩ := inR_iff.1 h.2
  exact ⟨Decidable.not_not.1 h1, a1, a2, a3, a4, Decidable.not_not.1 h3, Decidable.not_not.1 h4, b1, b2, b3, b4⟩
set_option maxRecDepth 100000 in
theorem tsamples5_p (l : List Nat) : PC Tryz.prog 165 [.sl 1 (l.map fC)] (.tup [.v (.int .i64 ((ssE 0 l).1)), .v (.int .i64 ((ssE 0 l).2))]) := by
 refine pc_of_awp Tryz.func165 rfl Tryz.ntmps165 (rs := [.tmp 2, .tmp 3]) Tryz.results165 (by simp) fun w0 => ?_
 refine awp_seq ?_
 refine awp_region 2 mixed (by kernel_rfl) ?_
 refine rg_q (q_assign (x := .d (.v _)) rfl) (rg_q (q_assign (x := .d (.v _)) rfl) ?_)
 refine rg_nil (aops_nil ?_)
 change Awp _ _ _ _ _
 refine awp_seq ?_
 refine awp_seq ?_
 refine awp_region 3 mixed (by kernel_rfl) ?_
 refine rg_q (q_move (x := .d (.sl _ _)) rfl) ?_
 refine rg_q (q_len isl29 rfl (by exact len_map _ _)) ?_
 refine rg_q (q_move (x := .d (.v _)) rfl) ?_
 refine rg_nil (aops_nil ?_)
 change Awp _ _ _ _ _
 refine awp_len (t := 7) rfl (fun hl7 => ?_)
 (try simp only [List.length_map] at hl7)
 refine awp_block ?_
 refine awp_loopH [2, 3, 4, 5, 6, 9, 10, 11, 12, 13, 14, 15, 16, 17, 18, 19, 20] [] (α := Nat) (fun k => [(9, T.i (k : Int))]) (fun k => []) (fun k => k ≤ l.length ∧ ssE 0 l = ssE k (l.drop k)) (fun k => l.length - k) 0 ⟨Nat.zero_le _, rfl⟩ ?_ ?_
 · exact le_head (ms := []) (by repeat (exact Out.refl _)) ⟨(by rfl), trivial⟩ trivial rfl rfl rfl rfl
 ·
  intro k ⟨hk, hf⟩
  refine awp_seq ?_
  refine awp_region 1 mixed (by kernel_rfl) ?_
  refine rg_q (q_lss rfl rfl) ?_
  refine rg_nil (aops_nil ?_)
  change Awp _ _ _ _ _
  refine awp_seq ?_
  refine awp_cond rfl (fun hc2 => ?_) (fun hc2 => ?_)
  ·
   (try simp only [nb, ne_eq] at hc2)
   have hlt : k < l.length := by omega
   obtain ⟨x, hx⟩ : ∃ x, l[k]? = some x := ⟨_, List.getElem?_eq_getElem hlt⟩
   have hd := ssE_at hx
   refine awp_skip ?_
   change Awp _ _ _ _ _
   refine awp_seq ?_
   refine awp_block ?_
   refine awp_seq ?_
   refine awp_region 5 mixed (by kernel_rfl) ?_
   refine rg_q (q_move (x := .d (.v _)) rfl) ?_
   refine rg_q (q_indexAddr sl29 rfl rfl (by omega) (map_at (by omega) hx)) ?_
   refine rg_q (q_load sz117 rfl rfl) (rg_q (q_assign (x := .d (.v _)) rfl) (rg_q (q_assign (x := .d (.v _)) rfl) ?_))
   refine rg_nil (aops_nil ?_)
   change Awp _ _ _ _ _
   refine awp_seq ?_
   refine awp_region 3 mixed (by kernel_rfl) ?_
   refine rg_q (q_move (x := .d (.v _)) rfl) ?_
   refine rg_q (q_call en234 (.cons rfl .nil) rfl (tsampleErr5_p _)) ?_
   refine rg_q (q_assign (x := .d (.v _)) rfl) ?_
   refine rg_nil (aops_nil ?_)
   change Awp _ _ _ _ _
   refine awp_seq ?_
   refine awp_region 2 mixed (by kernel_rfl) ?_
   refine rg_q (q_move (x := .d (.v _)) rfl) (rg_q (q_neq rfl rfl) ?_)
   refine rg_nil (aops_nil ?_)
   change Awp _ _ _ _ _
   refine awp_cond rfl (fun hc5 => ?_) (fun hc5 => ?_)
   ·
    (try simp only [nb, ne_eq] at hc5)
    have hb : sE x ≠ 0 := hc5
    have hz : ssE 0 l = ((k : Int), sE x) := by rw [hf, hd, if_pos hb]
    rw [hz]
    refine awp_seq ?_
    refine awp_region 4 mixed (by kernel_rfl) ?_
    refine rg_q (q_move (x := .d (.v _)) rfl) (rg_q (q_move (x := .d (.v _)) rfl) (rg_q (q_assign (x := .d (.v _)) rfl) (rg_q (q_assign (x := .d (.v _)) rfl) ?_)))
    refine rg_nil (aops_nil ?_)
    change Awp _ _ _ _ _
    refine awp_ret ?_
    refine ⟨_, (.cons (.tmp (by exact .d _)) (.cons (.tmp (by exact .d _)) .nil)), ?_⟩
    rfl
   ·
    (try simp only [nb, ne_eq] at hc5)
    have hb : sE x = 0 := hc5
    refine awp_skip ?_
    change Awp _ _ _ _ _
    refine awp_region 2 mixed (by kernel_rfl) ?_
    refine rg_q (q_add rfl rfl (In64.mk (by omega) (by omega))) ?_
    refine rg_q (q_move (x := .d (.v _)) rfl) ?_
    refine rg_nil (aops_nil ?_)
    refine ⟨k + 1, ⟨by omega, by rw [hf, hd, if_neg (by rw [hb]; simp)]⟩, by omega, ?_⟩
    exact le_head (ms := []) (by repeat (first | exact Out.head rfl rfl | (refine Out.put ?_ rfl))) ⟨(by rfl), trivial⟩ trivial rfl rfl rfl rfl
  ·
   (try simp only [nb, ne_eq] at hc2)
   have hk0 : ssE 0 l = (0, 0) := by rw [hf, List.drop_of_length_le (by omega)]; rfl
   rw [hk0]
   refine awp_exit ?_
   change Awp _ _ _ _ _
   refine awp_seq ?_
   refine awp_region 2 mixed (by kernel_rfl) ?_
   refine rg_q (q_assign (x := .d (.v _)) rfl) (rg_q (q_assign (x := .d (.v _)) rfl) ?_)
   refine rg_nil (aops_nil ?_)
   change Awp _ _ _ _ _
   refine awp_ret ?_
   refine ⟨_, (.cons (.tmp (by exact .d _)) (.cons (.tmp (by exact .d _)) .nil)), ?_⟩
   rfl
set_option maxRecDepth 100000 in
theorem checkMatrix5_p (ne : Int) (l : List Nat) : PC Tryz.prog 86 [.agg [.v (.int .i64 (ne)), .sl 1 (l.map fC)]] (.tup [.v (.int .i64 ((ckM ne l).1)), .v (.int .i64 ((ckM ne l).2))]) := by
 have hu : ckM ne l = if inR 1 ne 16 = true then (if (l.length : Int) ≠ ne * ne * 64 then (0, 10) else ssE 0 l) else (0, 2) := rfl
 refine pc_of_awp Tryz.func86 rfl Tryz.ntmps86 (rs := [.tmp 2, .tmp 3]) Tryz.results86 (by simp) fun w0 => ?_
 refine awp_seq ?_
 refine awp_region 3 mixed (by kernel_rfl) ?_
 refine rg_q (q_box rfl (by exact .inr ⟨_, rfl⟩)) ?_
 refine rg_q (q_assign (x := .d (.v _)) rfl) (rg_q (q_assign (x := .d (.v _)) rfl) ?_)
 refine rg_nil (aops_nil ?_)
 change Awp _ _ _ _ _
 refine awp_seq ?_
 refine awp_block ?_
 refine awp_seq ?_
 refine awp_region 5 mixed (by kernel_rfl) ?_
 refine rg_q (q_fieldAddr fld31_0 rfl) (rg_q (q_load sz3 rfl rfl) ?_)
 refine rg_q (q_call en155 (.cons rfl (.cons rfl (.cons rfl .nil))) rfl (twithin_p _ _ _)) ?_
 refine rg_q (q_not rfl) (rg_q (q_assign (x := .d (.v _)) rfl) ?_)
 refine rg_nil (aops_nil ?_)
 change Awp _ _ _ _ _
 refine awp_cond rfl (fun hc1 => ?_) (fun hc1 => ?_)
 ·
  (try simp only [nb, ne_eq] at hc1)
  rw [if_neg (by simpa using hc1)] at hu
  rw [hu]
  refine awp_seq ?_
  refine awp_region 2 mixed (by kernel_rfl) ?_
  refine rg_q (q_assign (x := .d (.v _)) rfl) (rg_q (q_assign (x := .d (.v _)) rfl) ?_)
  refine rg_nil (aops_nil ?_)
  change Awp _ _ _ _ _
  refine awp_ret ?_
  refine ⟨_, (.cons (.tmp (by exact .d _)) (.cons (.tmp (by exact .d _)) .nil)), ?_⟩
  rfl
 ·
  (try simp only [nb, ne_eq] at hc1)
  have hr1 : inR 1 ne 16 = true := by simpa using hc1
  rw [if_pos hr1] at hu
  obtain ⟨hn1, hn2⟩ := inR_iff.1 hr1
  have hm := mulb (a := ne) (b := ne) (A := 16) (B := 16) (by omega) (by omega) (by omega) (by omega)
  refine awp_seq ?_
  refine awp_region 11 mixed (by kernel_rfl) ?_
  refine rg_q (q_fieldAddr fld31_1 rfl) (rg_q (q_load sz29 rfl rfl) ?_)
  refine rg_q (q_len isl29 rfl (by exact len_map _ _)) ?_
  refine rg_q (q_fieldAddr fld31_0 rfl) (rg_q (q_load sz3 rfl rfl) (rg_q (q_fieldAddr fld31_0 rfl) (rg_q (q_load sz3 rfl rfl) ?_)))
  refine rg_q (q_mul rfl rfl (In64.mk (by omega) (by omega))) ?_
  refine rg_q (q_mul rfl rfl (In64.mk (by omega) (by omega))) ?_
  refine rg_q (q_neq rfl rfl) (rg_q (q_assign (x := .d (.v _)) rfl) ?_)
  refine rg_nil (aops_nil ?_)
  change Awp _ _ _ _ _
  refine awp_len (t := 11) rfl (fun hl11 => ?_)
  (try simp only [List.length_map] at hl11)
  refine awp_cond rfl (fun hc3 => ?_) (fun hc3 => ?_)
  ·
   (try simp only [nb, ne_eq] at hc3)
   rw [if_pos (by simpa using hc3)] at hu
   rw [hu]
   refine awp_seq ?_
   refine awp_region 2 mixed (by kernel_rfl) ?_
   refine rg_q (q_assign (x := .d (.v _)) rfl) (rg_q (q_assign (x := .d (.v _)) rfl) ?_)
   refine rg_nil (aops_nil ?_)
   change Awp _ _ _ _ _
   refine awp_ret ?_
   refine ⟨_, (.cons (.tmp (by exact .d _)) (.cons (.tmp (by exact .d _)) .nil)), ?_⟩
   rfl
  ·
   (try simp only [nb, ne_eq] at hc3)
   rw [if_neg (by simpa using hc3)] at hu
   rw [hu]
   refine awp_skip ?_
   change Awp _ _ _ _ _
   refine awp_seq ?_
   refine awp_region 7 mixed (by kernel_rfl) ?_
   refine rg_q (q_fieldAddr fld31_1 rfl) (rg_q (q_load sz29 rfl rfl) ?_)
   refine rg_q (q_call en165 (.cons rfl .nil) rfl (tsamples5_p l)) ?_
   refine rg_q (q_extract rfl rfl) (rg_q (q_extract rfl rfl) (rg_q (q_assign (x := .d (.v _)) rfl) (rg_q (q_assign (x := .d (.v _)) rfl) ?_)))
   refine rg_nil (aops_nil ?_)
   change Awp _ _ _ _ _
   refine awp_ret ?_
   refine ⟨_, (.cons (.tmp (by exact .d _)) (.cons (.tmp (by exact .d _)) .nil)), ?_⟩
   rfl
set_option maxRecDepth 100000 in
theorem checkTask5_p (t : Tsk) : PC Tryz.prog 20 [.agg (tskC t)] (.tup [.v (.int .i64 ((ckT t).1)), .v (.int .i64 ((ckT t).2))]) := by
 have hu : ckT t = if (ckArr t.ar).2 ≠ 0 then ckArr t.ar
  else if (ckM t.ne t.bf).2 ≠ 0 then (0, (ckM t.ne t.bf).2)
  else if (t.ar.el.length : Int) ≠ t.ne then (0, 13)
  else if ckG t.g ≠ 0 then (0, ckG t.g)
  else (0, whenI (!inR 1 t.g.fz (t.ar.ou.t - 1) || !inR 1 (spI t.g (t.g.co * t.g.ro - 1)).2 (t.ar.ou.t - 1)) 22) := rfl
 refine pc_of_awpN Tryz.func20 rfl Tryz.ntmps20 (rs := [.tmp 2, .tmp 3]) Tryz.results20 (by simp) fun w0 hmine hrnd hpn => ?_
 refine awp_seq ?_
 refine awp_region 3 mixed (by kernel_rfl) ?_
 refine rg_q (q_box rfl (by exact .inr ⟨_, rfl⟩)) ?_
 refine rg_q (q_assign (x := .d (.v _)) rfl) (rg_q (q_assign (x := .d (.v _)) rfl) ?_)
 refine rg_nil (aops_nil ?_)
 change Awp _ _ _ _ _
 refine awp_seq ?_
 refine awp_seq ?_
 refine awp_region 8 mixed (by kernel_rfl) ?_
 refine rg_q (q_fieldAddr fld37_0 rfl) ?_
 refine rg_q (q_loadA (ds := [_, _, _, _, _, _, _, _, _, _, _]) sz28 rfl rfl rfl) ?_
 refine rg_q (q_call en85 (.cons rfl .nil) rfl (checkArray_p t.ar)) ?_
 refine rg_q (q_move (x := .d (.tup _)) rfl) (rg_q (q_extract rfl rfl) (rg_q (q_extract rfl rfl) (rg_q (q_assign (x := .d (.v _)) rfl) (rg_q (q_assign (x := .d (.v _)) rfl) ?_))))
 refine rg_nil (aops_nil ?_)
 change Awp _ _ _ _ _
 refine awp_seq ?_
 refine awp_region 2 mixed (by kernel_rfl) ?_
 refine rg_q (q_move (x := .d (.v _)) rfl) (rg_q (q_neq rfl rfl) ?_)
 refine rg_nil (aops_nil ?_)
 change Awp _ _ _ _ _
 refine awp_cond rfl (fun hc2 => ?_) (fun hc2 => ?_)
 ·
  (try simp only [nb, ne_eq] at hc2)
  have h1 : (ckArr t.ar).2 ≠ 0 := hc2
  rw [if_pos h1] at hu
  rw [hu]
  refine awp_seq ?_
  refine awp_region 4 mixed (by kernel_rfl) ?_
  refine rg_q (q_move (x := .d (.v _)) rfl) (rg_q (q_move (x := .d (.v _)) rfl) (rg_q (q_assign (x := .d (.v _)) rfl) (rg_q (q_assign (x := .d (.v _)) rfl) ?_)))
  refine rg_nil (aops_nil ?_)
  change Awp _ _ _ _ _
  refine awp_ret ?_
  refine ⟨_, (.cons (.tmp (by exact .d _)) (.cons (.tmp (by exact .d _)) .nil)), ?_⟩
  rfl
 ·
  (try simp only [nb, ne_eq] at hc2)
  have h1 : ¬ (ckArr t.ar).2 ≠ 0 := fun q => q hc2
  rw [if_neg h1] at hu
  refine awp_skip ?_
  change Awp _ _ _ _ _
  refine awp_seq ?_
  refine awp_seq ?_
  refine awp_region 8 mixed (by kernel_rfl) ?_
  refine rg_q (q_fieldAddr fld37_1 rfl) ?_
  refine rg_q (q_loadA (ds := [_, _]) sz31 rfl rfl rfl) ?_
  refine rg_q (q_call en86 (.cons rfl .nil) rfl (checkMatrix5_p t.ne t.bf)) ?_
  refine rg_q (q_move (x := .d (.tup _)) rfl) (rg_q (q_extract rfl rfl) (rg_q (q_extract rfl rfl) (rg_q (q_assign (x := .d (.v _)) rfl) (rg_q (q_assign (x := .d (.v _)) rfl) ?_))))
  refine rg_nil (aops_nil ?_)
  change Awp _ _ _ _ _
  refine awp_seq ?_
  refine awp_region 2 mixed (by kernel_rfl) ?_
  refine rg_q (q_move (x := .d (.v _)) rfl) (rg_q (q_neq rfl rfl) ?_)
  refine rg_nil (aops_nil ?_)
  change Awp _ _ _ _ _
  refine awp_cond rfl (fun hc5 => ?_) (fun hc5 => ?_)
  ·
   (try simp only [nb, ne_eq] at hc5)
   have h2 : (ckM t.ne t.bf).2 ≠ 0 := hc5
   rw [if_pos h2] at hu
   rw [hu]
   refine awp_seq ?_
   refine awp_region 3 mixed (by kernel_rfl) ?_
   refine rg_q (q_move (x := .d (.v _)) rfl) (rg_q (q_assign (x := .d (.v _)) rfl) (rg_q (q_assign (x := .d (.v _)) rfl) ?_))
   refine rg_nil (aops_nil ?_)
   change Awp _ _ _ _ _
   refine awp_ret ?_
   refine ⟨_, (.cons (.tmp (by exact .d _)) (.cons (.tmp (by exact .d _)) .nil)), ?_⟩
   rfl
  ·
   (try simp only [nb, ne_eq] at hc5)
   have h2 : ¬ (ckM t.ne t.bf).2 ≠ 0 := fun q => q hc5
   rw [if_neg h2] at hu
   refine awp_skip ?_
   change Awp _ _ _ _ _
   refine awp_seq ?_
   refine awp_seq ?_
   refine awp_region 8 mixed (by kernel_rfl) ?_
   refine rg_q (q_fieldAddr fld37_0 rfl) (rg_q (q_fieldAddr fld28_0 rfl) (rg_q (q_load sz22 rfl rfl) ?_))
   refine rg_q (q_len isl22 rfl (by exact len_map _ _)) ?_
   refine rg_q (q_fieldAddr fld37_1 rfl) (rg_q (q_fieldAddr fld31_0 rfl) (rg_q (q_load sz3 rfl rfl) (rg_q (q_neq rfl rfl) ?_)))
   refine rg_nil (aops_nil ?_)
   change Awp _ _ _ _ _
   refine awp_len (t := 32) rfl (fun hl32 => ?_)
   (try simp only [List.length_map] at hl32)
   refine awp_cond rfl (fun hc7 => ?_) (fun hc7 => ?_)
   ·
    (try simp only [nb, ne_eq] at hc7)
    have h3 : (t.ar.el.length : Int) ≠ t.ne := by simpa using hc7
    rw [if_pos h3] at hu
    rw [hu]
    refine awp_seq ?_
    refine awp_region 2 mixed (by kernel_rfl) ?_
    refine rg_q (q_assign (x := .d (.v _)) rfl) (rg_q (q_assign (x := .d (.v _)) rfl) ?_)
    refine rg_nil (aops_nil ?_)
    change Awp _ _ _ _ _
    refine awp_ret ?_
    refine ⟨_, (.cons (.tmp (by exact .d _)) (.cons (.tmp (by exact .d _)) .nil)), ?_⟩
    rfl
   ·
    (try simp only [nb, ne_eq] at hc7)
    have h3 : ¬ (t.ar.el.length : Int) ≠ t.ne := by simpa using hc7
    rw [if_neg h3] at hu
    refine awp_skip ?_
    change Awp _ _ _ _ _
    refine awp_seq ?_
    refine awp_seq ?_
    refine awp_region 4 mixed (by kernel_rfl) ?_
    refine rg_q (q_fieldAddr fld37_2 rfl) ?_
    refine rg_q (q_loadA (ds := [_, _, _, _, _]) sz35 rfl rfl rfl) ?_
    refine rg_q (q_call en87 (.cons rfl .nil) rfl (fcheckGrid_p t.g)) ?_
    refine rg_q (q_assign (x := .d (.v _)) rfl) ?_
    refine rg_nil (aops_nil ?_)
    change Awp _ _ _ _ _
    refine awp_seq ?_
    refine awp_region 2 mixed (by kernel_rfl) ?_
    refine rg_q (q_move (x := .d (.v _)) rfl) (rg_q (q_neq rfl rfl) ?_)
    refine rg_nil (aops_nil ?_)
    change Awp _ _ _ _ _
    refine awp_cond rfl (fun hc10 => ?_) (fun hc10 => ?_)
    ·
     (try simp only [nb, ne_eq] at hc10)
     have h4 : ckG t.g ≠ 0 := hc10
     rw [if_pos h4] at hu
     rw [hu]
     refine awp_seq ?_
     refine awp_region 3 mixed (by kernel_rfl) ?_
     refine rg_q (q_move (x := .d (.v _)) rfl) (rg_q (q_assign (x := .d (.v _)) rfl) (rg_q (q_assign (x := .d (.v _)) rfl) ?_))
     refine rg_nil (aops_nil ?_)
     change Awp _ _ _ _ _
     refine awp_ret ?_
     refine ⟨_, (.cons (.tmp (by exact .d _)) (.cons (.tmp (by exact .d _)) .nil)), ?_⟩
     rfl
    ·
     (try simp only [nb, ne_eq] at hc10)
     have h4 : ¬ ckG t.g ≠ 0 := fun q => q hc10
     rw [if_neg h4] at hu
     obtain ⟨hao, _⟩ := ckArr_ok (Decidable.not_not.1 h1)
     have ht1 := hao.ou.t1
     have ht2 := hao.ou.t2
     obtain ⟨hg, hg1, hg2⟩ := ckG_ok (Decidable.not_not.1 h4)
     have hci := cells_in hg
     refine awp_skip ?_
     change Awp _ _ _ _ _
     refine awp_seq ?_
     refine awp_region 3 mixed (by kernel_rfl) ?_
     refine rg_q (q_fieldAddr fld37_2 rfl) ?_
     refine rg_q (q_loadA (ds := [_, _, _, _, _]) sz35 rfl rfl rfl) ?_
     refine rg_q (q_build (cs := [_, _, _, _, _]) pl150 zr150 rfl (.cons rfl (by exact .inr ⟨_, rfl⟩) .nil) ⟨⟨rfl, by decide⟩, trivial⟩ rfl) ?_
     refine rg_nil ?_
     refine aops_allocD zr150 rfl sz150 rfl rfl (by exact .inr ⟨_, rfl⟩) rfl rfl ?_
     refine aops_nil ?_
     change Awp _ _ _ _ _
     refine awp_seq ?_
     refine awp_region 5 mixed (by kernel_rfl) ?_
     refine rg_q (q_fieldAddr fld37_0 rfl) (rg_q (q_fieldAddr fld28_1 rfl) (rg_q (q_fieldAddr fld24_3 rfl) (rg_q (q_load sz3 rfl rfl) (rg_q (q_assign (x := .d (.v _)) rfl) ?_))))
     refine rg_nil (aops_nil ?_)
     change Awp _ _ _ _ _
     refine awp_seq ?_
     refine awp_region 23 mixed (by kernel_rfl) ?_
     refine rg_q (q_fieldAddr fld37_2 rfl) (rg_q (q_fieldAddr fld35_0 rfl) (rg_q (q_fieldAddr fld33_1 rfl) (rg_q (q_load sz3 rfl rfl) (rg_q (q_move (x := .d (.v _)) rfl) ?_))))
     refine rg_q (q_sub rfl rfl (In64.mk (by omega) (by omega))) ?_
     refine rg_q (q_call en89 (.cons rfl (.cons rfl (.cons rfl .nil))) rfl (fwithin_p _ _ _)) ?_
     refine rg_q (q_not rfl) (rg_q (q_move (x := .d (.v _)) rfl) ?_)
     refine rg_g rfl rfl (fun hG => (q_loadA (ds := [_, _, _, _, _]) sz150 rfl rfl rfl)) ?_
     refine rg_g rfl rfl (fun hG => (q_loadA (ds := [_, _, _, _, _]) sz150 rfl rfl rfl)) ?_
     refine rg_g rfl rfl (fun hG => (q_call en91 (.cons rfl .nil) rfl (fcells_p _ (by assumption)))) ?_
     refine rg_g rfl rfl (fun hG => (q_sub rfl rfl (In64.mk (by (have hg0 := T.bool_inj (a := _) hG.1; (try simp only [nb, ne_eq] at hg0); omega)) (by (have hg0 := T.bool_inj (a := _) hG.1; (try simp only [nb, ne_eq] at hg0); omega))))) ?_
     refine rg_g rfl rfl (fun hG => (q_call en90 (.cons rfl (.cons rfl .nil)) rfl (fspot_p _ _ (by assumption) (by omega) (by omega)))) ?_
     refine rg_g rfl rfl (fun hG => (q_field fd33_1 sz3 rfl rfl)) ?_
     refine rg_g rfl rfl (fun hG => (q_move (x := .d (.v _)) rfl)) ?_
     refine rg_g rfl rfl (fun hG => (q_sub rfl rfl (In64.mk (by (have hg0 := T.bool_inj (a := _) hG.1; (try simp only [nb, ne_eq] at hg0); omega)) (by (have hg0 := T.bool_inj (a := _) hG.1; (try simp only [nb, ne_eq] at hg0); omega))))) ?_
     refine rg_g rfl rfl (fun hG => (q_call en89 (.cons rfl (.cons rfl (.cons rfl .nil))) rfl (fwithin_p _ _ _))) ?_
     refine rg_g rfl rfl (fun hG => (q_not rfl)) ?_
     refine rg_pick rfl rfl rfl rfl rfl rfl ?_
     refine rg_q (q_call en88 (.cons rfl (.cons rfl .nil)) rfl (fwhen_p _ _)) ?_
     refine rg_q (q_assign (x := .d (.v _)) rfl) (rg_q (q_assign (x := .d (.v _)) rfl) ?_)
     refine rg_nil (aops_nil ?_)
     change Awp _ _ _ _ _
     refine awp_ret ?_
     refine ⟨_, (.cons (.tmp (by exact .d _)) (.cons (.tmp (by exact .d _)) .nil)), ?_⟩
     rw [hu]; (try simp only [bif_or]); rfl
end Go.Proofs.YtphlaicnmmglhaaGreat.Am.M
