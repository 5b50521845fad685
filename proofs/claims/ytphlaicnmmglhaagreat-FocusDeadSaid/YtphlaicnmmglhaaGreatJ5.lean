/- Contracts over the abstract machine, joined. Conditions: none. -/
import Derived.Test.YtphlaicnmmglhaaGreatJ4
set_option linter.unusedVariables false
set_option linter.unusedSimpArgs false
-- mini
namespace Go.Proofs.YtphlaicnmmglhaaGreat.Am.M
open Go

theorem lt_q {M Q : Nat} (hQ : 0 < Q) (h : 16777216 * Q ≤ M) : 2047 * Q < M := by omega
theorem nan_of {b : Nat} {s : Bool} {t : Nat} (h : Ieee.single.read b = .nan s t) : (FloatKind.f32.decode b).isNaN = true := by
  have e : FloatKind.f32.decode b = Ieee.single.read b := rfl
  rw [e, h]; rfl
set_option maxRecDepth 100000 in
theorem rsampleN_p (b : Nat) (h : (FloatKind.f32.decode b).isNaN = true) : PC Tryz.prog 235 [fd b] (.v (.int .i64 (25))) := by
 refine pc_of_awp Tryz.func235 rfl Tryz.ntmps235 (rs := [.tmp 2]) Tryz.results235 (by simp) fun w0 => ?_
 refine awp_seq ?_
 refine awp_region 1 mixed (by kernel_rfl) ?_
 refine rg_q (q_a rfl) ?_
 refine rn ?_
 change Awp _ _ _ _ _
 refine awp_seq ?_
 refine awp_seq ?_
 refine awp_region 4 mixed (by kernel_rfl) ?_
 refine rg_q (q_m rfl) ?_
 refine rg_q (q_convffN flt117 flt167 (by decide) rfl h) ?_
 refine rg_q (q_call en194 (.cons rfl .nil) rfl (isWholeN_p)) ?_
 refine rg_q (q_not rfl) ?_
 refine rn ?_
 change Awp _ _ _ _ _
 refine awp_cond rfl (fun hc1 => ?_) (fun hc1 => ?_)
 ·
  (try simp only [nb, ne_eq] at hc1)
  refine awp_seq ?_
  refine awp_region 1 mixed (by kernel_rfl) ?_
  refine rg_q (q_a rfl) ?_
  refine rn ?_
  change Awp _ _ _ _ _
  refine awp_ret ?_
  refine ⟨_, (.cons (.tmp (by exact .d _)) .nil), ?_⟩
  rfl
 ·
  simp at hc1
set_option maxRecDepth 100000 in
theorem rsampleB_p (b b' : Nat) (w c1 c2 : Bool) (hc : floatToFloatBits .f32 b .f64 = some b') (hw : whD b' = w) (h1 : ordB .lss (FloatKind.f32.format.order b 3305103360) = c1) (h2 : ordB .gtr (FloatKind.f32.format.order b 1157619712) = c2) : PC Tryz.prog 235 [fd b] (.v (.int .i64 (if w = true then (if (c1 || c2) = true then 2 else 0) else 25))) := by
 refine pc_of_awp Tryz.func235 rfl Tryz.ntmps235 (rs := [.tmp 2]) Tryz.results235 (by simp) fun w0 => ?_
 refine awp_seq ?_
 refine awp_region 1 mixed (by kernel_rfl) ?_
 refine rg_q (q_a rfl) ?_
 refine rn ?_
 change Awp _ _ _ _ _
 refine awp_seq ?_
 refine awp_seq ?_
 refine awp_region 4 mixed (by kernel_rfl) ?_
 refine rg_q (q_m rfl) ?_
 refine rg_q (q_convff flt117 flt167 rfl hc) ?_
 refine rg_q (q_call en194 (.cons rfl .nil) rfl ((by have h := isWhole_p b'; rw [hw] at h; exact h))) ?_
 refine rg_q (q_not rfl) ?_
 refine rn ?_
 change Awp _ _ _ _ _
 refine awp_cond rfl (fun hc1 => ?_) (fun hc1 => ?_)
 ·
  (try simp only [nb, ne_eq] at hc1)
  rw [if_neg (by rw [hc1]; decide)]
  refine awp_seq ?_
  refine awp_region 1 mixed (by kernel_rfl) ?_
  refine rg_q (q_a rfl) ?_
  refine rn ?_
  change Awp _ _ _ _ _
  refine awp_ret ?_
  refine ⟨_, (.cons (.tmp (by exact .d _)) .nil), ?_⟩
  rfl
 ·
  (try simp only [nb, ne_eq] at hc1)
  rw [if_pos hc1]
  refine awp_skip ?_
  change Awp _ _ _ _ _
  refine awp_seq ?_
  refine awp_seq ?_
  refine awp_region 6 mixed (by kernel_rfl) ?_
  refine rg_q (q_m rfl) ?_
  refine rg_q (q_fcmp (by decide) rfl rfl h1) ?_
  refine rg_q (q_m rfl) ?_
  refine rg_g rfl rfl (fun hG => (q_m rfl)) ?_
  refine rg_g rfl rfl (fun hG => (q_fcmp (by decide) rfl rfl h2)) ?_
  refine rg_pick rfl rfl rfl rfl rfl rfl ?_
  refine rn ?_
  change Awp _ _ _ _ _
  refine awp_cond rfl (fun hc3 => ?_) (fun hc3 => ?_)
  ·
   (try simp only [nb, ne_eq] at hc3)
   rw [if_pos (show (c1 || c2) = true by simpa using hc3)]
   refine awp_seq ?_
   refine awp_region 1 mixed (by kernel_rfl) ?_
   refine rg_q (q_a rfl) ?_
   refine rn ?_
   change Awp _ _ _ _ _
   refine awp_ret ?_
   refine ⟨_, (.cons (.tmp (by exact .d _)) .nil), ?_⟩
   rfl
  ·
   (try simp only [nb, ne_eq] at hc3)
   rw [if_neg (show ¬ (c1 || c2) = true by simpa using hc3)]
   refine awp_skip ?_
   change Awp _ _ _ _ _
   refine awp_seq ?_
   refine awp_region 1 mixed (by kernel_rfl) ?_
   refine rg_q (q_a rfl) ?_
   refine rn ?_
   change Awp _ _ _ _ _
   refine awp_ret ?_
   refine ⟨_, (.cons (.tmp (by exact .d _)) .nil), ?_⟩
   rfl

theorem out_M {s : Bool} {M : Nat} (K : Nat) : (decide (sgI s M < sgI true K) || decide (sgI false K < sgI s M)) = decide (K < M) := by
  rw [← Bool.decide_or]
  refine decide_eq_decide.2 ?_
  unfold sgI
  cases s <;> simp <;> omega
theorem rsampleErr5_p (b : Nat) : PC Tryz.prog 235 [fd b] (.v (.int .i64 (sE b))) := by
  cases hr : Ieee.single.read b with
  | nan s t =>
    have e : sE b = 25 := by unfold sE; rw [hr]
    rw [e]
    exact rsampleN_p b (nan_of hr)
  | infinity s =>
    have e : sE b = 25 := by unfold sE; rw [hr]
    rw [e]
    obtain ⟨b', h1, h2⟩ := wide_inf hr
    exact rsampleB_p b b' false _ _ h1 (by unfold whD; rw [h2]) rfl rfl
  | number s m e =>
    obtain ⟨M, hM⟩ : ∃ M, m * 2 ^ (e + KK).toNat = M := ⟨_, rfl⟩
    have hn := num_of fmS LS hr
    rw [hM] at hn
    have e1 : sE b = sEM M := by unfold sE; rw [hr]; simp only [hM]
    rw [e1]
    obtain ⟨b', h1, m', e', h2, h3⟩ := wide_num hr
    have h := rsampleB_p b b' (decide (M % QQ = 0)) _ _ h1 (by unfold whD; rw [h2]; simp only [h3, hM]) (ob_lss hn num_m2047) (ob_gtr hn num_2047)
    rw [out_M] at h
    have e2 : (if decide (M % QQ = 0) = true then (if decide (2047 * QQ < M) = true then (2 : Int) else 0) else 25) = sEM M := by
      unfold sEM
      by_cases h4 : M % QQ = 0
      · rw [if_pos (decide_eq_true h4), if_neg (c := M % QQ ≠ 0) (fun q => q h4)]
        by_cases h5 : 16777216 * QQ ≤ M
        · have h6 : decide (2047 * QQ < M) = true := by
            revert h5
            have hq := QQ_pos
            generalize QQ = q at hq ⊢
            exact fun h5 => decide_eq_true (lt_q hq h5)
          rw [if_pos h5, if_pos (show decide (2047 * QQ < M) = true from h6)]
        · rw [if_neg h5]
          by_cases h6 : 2047 * QQ < M
          · rw [if_pos (decide_eq_true h6), if_pos h6]
          · rw [if_neg (by rw [decide_eq_false h6]; decide), if_neg h6]
      · have h5 : ¬ 16777216 * QQ ≤ M := fun q => h4 (big_whole fmS hr hM (Nat.le_trans (Nat.mul_le_mul_right QQ (show 2 ^ (23 + 1) ≤ 16777216 by decide)) q))
        rw [if_neg (by rw [decide_eq_false h4]; decide), if_neg h5, if_pos (c := M % QQ ≠ 0) h4]
    rw [e2] at h
    exact h
set_option maxRecDepth 100000 in
theorem rsamples5_p (l : List Nat) : PC Tryz.prog 169 [.sl 1 (l.map fC)] (.tup [.v (.int .i64 ((ssE 0 l).1)), .v (.int .i64 ((ssE 0 l).2))]) := by
 refine pc_of_awp Tryz.func169 rfl Tryz.ntmps169 (rs := [.tmp 2, .tmp 3]) Tryz.results169 (by simp) fun w0 => ?_
 refine awp_seq ?_
 refine awp_region 2 mixed (by kernel_rfl) ?_
 refine rg_q (q_a rfl) (rg_q (q_a rfl) ?_)
 refine rn ?_
 change Awp _ _ _ _ _
 refine awp_seq ?_
 refine awp_seq ?_
 refine awp_region 1 mixed (by kernel_rfl) ?_
 refine rg_q (q_a rfl) ?_
 refine rn ?_
 change Awp _ _ _ _ _
 refine awp_block ?_
 refine awp_loopH [2, 3, 4, 5, 6, 7, 8, 9, 10, 11, 12, 13, 14, 15, 16, 17, 18, 19, 20] [] (α := Nat) (fun k => [(4, T.i (k : Int))]) (fun k => []) (fun k => k ≤ l.length ∧ ssE 0 l = ssE k (l.drop k)) (fun k => l.length - k) 0 ⟨Nat.zero_le _, rfl⟩ ?_ ?_
 · exact le_head (ms := []) (by repeat (exact Out.refl _)) ⟨(by rfl), trivial⟩ trivial rfl rfl rfl rfl
 ·
  intro k ⟨hk, hf⟩
  refine awp_seq ?_
  refine awp_seq ?_
  refine awp_region 4 mixed (by kernel_rfl) ?_
  refine rg_q (q_m rfl) (rg_q (q_move (x := .d (.sl _ _)) rfl) ?_)
  refine rg_q (q_len isl29 rfl (by exact len_map _ _)) ?_
  refine rg_q (q_lss rfl rfl) ?_
  refine rn ?_
  change Awp _ _ _ _ _
  refine awp_len (t := 7) rfl (fun hl7 => ?_)
  (try simp only [List.length_map] at hl7)
  refine awp_cond rfl (fun hc2 => ?_) (fun hc2 => ?_)
  ·
   (try simp only [nb, ne_eq] at hc2)
   have hlt : k < l.length := by omega
   obtain ⟨x, hx⟩ : ∃ x, l[k]? = some x := ⟨_, List.getElem?_eq_getElem hlt⟩
   have hd := ssE_at hx
   refine awp_skip ?_
   change Awp _ _ _ _ _
   refine awp_seq ?_
   refine awp_block ?_
   refine awp_seq ?_
   refine awp_region 6 mixed (by kernel_rfl) ?_
   refine rg_q (q_move (x := .d (.sl _ _)) rfl) (rg_q (q_m rfl) ?_)
   refine rg_q (q_indexAddr sl29 rfl rfl (by omega) (map_at (by omega) hx)) ?_
   refine rg_q (q_load sz117 rfl rfl) ?_
   refine rg_q (q_call en235 (.cons rfl .nil) rfl (rsampleErr5_p _)) ?_
   refine rg_q (q_a rfl) ?_
   refine rs (awp_region 2 mixed (by kernel_rfl) ?_)
   refine rg_q (q_m rfl) (rg_q (q_neq rfl rfl) ?_)
   refine rn ?_
   change Awp _ _ _ _ _
   refine awp_cond rfl (fun hc5 => ?_) (fun hc5 => ?_)
   ·
    (try simp only [nb, ne_eq] at hc5)
    have hb : sE x ≠ 0 := hc5
    have hz : ssE 0 l = ((k : Int), sE x) := by rw [hf, hd, if_pos hb]
    rw [hz]
    refine awp_seq ?_
    refine awp_region 4 mixed (by kernel_rfl) ?_
    refine rg_q (q_m rfl) (rg_q (q_m rfl) (rg_q (q_a rfl) (rg_q (q_a rfl) ?_)))
    refine rn ?_
    change Awp _ _ _ _ _
    refine awp_ret ?_
    refine ⟨_, (.cons (.tmp (by exact .d _)) (.cons (.tmp (by exact .d _)) .nil)), ?_⟩
    rfl
   ·
    (try simp only [nb, ne_eq] at hc5)
    have hb : sE x = 0 := hc5
    refine awp_skip ?_
    change Awp _ _ _ _ _
    refine awp_region 3 mixed (by kernel_rfl) ?_
    refine rg_q (q_m rfl) ?_
    refine rg_q (q_add rfl rfl (In64.mk (by omega) (by omega))) ?_
    refine rg_q (q_a rfl) ?_
    refine rn ?_
    refine ⟨k + 1, ⟨by omega, by rw [hf, hd, if_neg (by rw [hb]; simp)]⟩, by omega, ?_⟩
    exact le_head (ms := []) (by repeat (first | exact Out.head rfl rfl | (refine Out.put ?_ rfl))) ⟨(by rfl), trivial⟩ trivial rfl rfl rfl rfl
  ·
   (try simp only [nb, ne_eq] at hc2)
   have hk0 : ssE 0 l = (0, 0) := by rw [hf, List.drop_of_length_le (by omega)]; rfl
   rw [hk0]
   refine awp_exit ?_
   change Awp _ _ _ _ _
   refine awp_seq ?_
   refine awp_region 2 mixed (by kernel_rfl) ?_
   refine rg_q (q_a rfl) (rg_q (q_a rfl) ?_)
   refine rn ?_
   change Awp _ _ _ _ _
   refine awp_ret ?_
   refine ⟨_, (.cons (.tmp (by exact .d _)) (.cons (.tmp (by exact .d _)) .nil)), ?_⟩
   rfl
set_option maxRecDepth 100000 in
theorem rcheckMatrix5_p (ne : Int) (l : List Nat) : PC Tryz.prog 93 [.agg [.v (.int .i64 (ne)), .sl 1 (l.map fC)]] (.tup [.v (.int .i64 ((ckM ne l).1)), .v (.int .i64 ((ckM ne l).2))]) := by
 have hu : ckM ne l = if inR 1 ne 16 = true then (if (l.length : Int) ≠ ne * ne * 64 then (0, 10) else ssE 0 l) else (0, 2) := rfl
 refine pc_of_awp Tryz.func93 rfl Tryz.ntmps93 (rs := [.tmp 2, .tmp 3]) Tryz.results93 (by simp) fun w0 => ?_
 refine awp_seq ?_
 refine awp_region 3 mixed (by kernel_rfl) ?_
 refine rg_q (q_box rfl (by exact .inr ⟨_, rfl⟩)) ?_
 refine rg_q (q_a rfl) (rg_q (q_a rfl) ?_)
 refine rn ?_
 change Awp _ _ _ _ _
 refine awp_seq ?_
 refine awp_seq ?_
 refine awp_region 4 mixed (by kernel_rfl) ?_
 refine rg_q (q_fieldAddr fld31_0 rfl) (rg_q (q_load sz3 rfl rfl) ?_)
 refine rg_q (q_call en31 (.cons rfl (.cons rfl (.cons rfl .nil))) rfl (within4_p _ _ _)) ?_
 refine rg_q (q_not rfl) ?_
 refine rn ?_
 change Awp _ _ _ _ _
 refine awp_cond rfl (fun hc1 => ?_) (fun hc1 => ?_)
 ·
  (try simp only [nb, ne_eq] at hc1)
  rw [if_neg (by simpa using hc1)] at hu
  rw [hu]
  refine awp_seq ?_
  refine awp_region 2 mixed (by kernel_rfl) ?_
  refine rg_q (q_a rfl) (rg_q (q_a rfl) ?_)
  refine rn ?_
  change Awp _ _ _ _ _
  refine awp_ret ?_
  refine ⟨_, (.cons (.tmp (by exact .d _)) (.cons (.tmp (by exact .d _)) .nil)), ?_⟩
  rfl
 ·
  (try simp only [nb, ne_eq] at hc1)
  have hr1 : inR 1 ne 16 = true := by simpa using hc1
  rw [if_pos hr1] at hu
  obtain ⟨hn1, hn2⟩ := inR_iff.1 hr1
  have hm := mulb (a := ne) (b := ne) (A := 16) (B := 16) (by omega) (by omega) (by omega) (by omega)
  refine awp_skip ?_
  change Awp _ _ _ _ _
  refine awp_seq ?_
  refine awp_seq ?_
  refine awp_region 10 mixed (by kernel_rfl) ?_
  refine rg_q (q_fieldAddr fld31_1 rfl) (rg_q (q_load sz29 rfl rfl) ?_)
  refine rg_q (q_len isl29 rfl (by exact len_map _ _)) ?_
  refine rg_q (q_fieldAddr fld31_0 rfl) (rg_q (q_load sz3 rfl rfl) (rg_q (q_fieldAddr fld31_0 rfl) (rg_q (q_load sz3 rfl rfl) ?_)))
  refine rg_q (q_mul rfl rfl (In64.mk (by omega) (by omega))) ?_
  refine rg_q (q_mul rfl rfl (In64.mk (by omega) (by omega))) ?_
  refine rg_q (q_neq rfl rfl) ?_
  refine rn ?_
  change Awp _ _ _ _ _
  refine awp_len (t := 9) rfl (fun hl9 => ?_)
  (try simp only [List.length_map] at hl9)
  refine awp_cond rfl (fun hc3 => ?_) (fun hc3 => ?_)
  ·
   (try simp only [nb, ne_eq] at hc3)
   rw [if_pos (by simpa using hc3)] at hu
   rw [hu]
   refine awp_seq ?_
   refine awp_region 2 mixed (by kernel_rfl) ?_
   refine rg_q (q_a rfl) (rg_q (q_a rfl) ?_)
   refine rn ?_
   change Awp _ _ _ _ _
   refine awp_ret ?_
   refine ⟨_, (.cons (.tmp (by exact .d _)) (.cons (.tmp (by exact .d _)) .nil)), ?_⟩
   rfl
  ·
   (try simp only [nb, ne_eq] at hc3)
   rw [if_neg (by simpa using hc3)] at hu
   rw [hu]
   refine awp_skip ?_
   change Awp _ _ _ _ _
   refine awp_seq ?_
   refine awp_region 7 mixed (by kernel_rfl) ?_
   refine rg_q (q_fieldAddr fld31_1 rfl) (rg_q (q_load sz29 rfl rfl) ?_)
   refine rg_q (q_call en169 (.cons rfl .nil) rfl (rsamples5_p l)) ?_
   refine rg_q (q_extract rfl rfl) (rg_q (q_extract rfl rfl) (rg_q (q_a rfl) (rg_q (q_a rfl) ?_)))
   refine rn ?_
   change Awp _ _ _ _ _
   refine awp_ret ?_
   refine ⟨_, (.cons (.tmp (by exact .d _)) (.cons (.tmp (by exact .d _)) .nil)), ?_⟩
   rfl

def brkB (g : Grd) (th : Int) : Bool := !inR 1 g.fz (th - 1) || !inR 1 (spI g (g.co * g.ro - 1)).2 (th - 1)
theorem brk_is {g : Grd} (hg : GrdOk g) {th : Int} : brkB g th = true ↔ (g.fz < 1 ∨ th - 1 < (spI g (g.co * g.ro - 1)).2) := by
  unfold brkB
  rw [sp_last hg]
  have h1 := hg.r1
  have h2 := hg.s1
  have h3 := Int.mul_nonneg (show 0 ≤ g.ro - 1 by omega) (show 0 ≤ g.st by omega)
  simp only [inR, Bool.or_eq_true, Bool.not_eq_true', Bool.and_eq_false_iff, decide_eq_false_iff_not]
  omega
set_option maxRecDepth 100000 in
theorem rcheckTask_p (t : Tsk) : PC Tryz.prog 22 [.agg (tskC t)] (.tup [.v (.int .i64 ((ckT t).1)), .v (.int .i64 ((ckT t).2))]) := by
 have hu : ckT t = if (ckArr t.ar).2 ≠ 0 then ckArr t.ar
  else if (ckM t.ne t.bf).2 ≠ 0 then (0, (ckM t.ne t.bf).2)
  else if (t.ar.el.length : Int) ≠ t.ne then (0, 13)
  else if ckG t.g ≠ 0 then (0, ckG t.g)
  else (0, whenI (!inR 1 t.g.fz (t.ar.ou.t - 1) || !inR 1 (spI t.g (t.g.co * t.g.ro - 1)).2 (t.ar.ou.t - 1)) 22) := rfl
 refine pc_of_awpN Tryz.func22 rfl Tryz.ntmps22 (rs := [.tmp 2, .tmp 3]) Tryz.results22 (by simp) fun w0 hmine hrnd hpn => ?_
 refine awp_seq ?_
 refine awp_region 3 mixed (by kernel_rfl) ?_
 refine rg_q (q_box rfl (by exact .inr ⟨_, rfl⟩)) ?_
 refine rg_q (q_a rfl) (rg_q (q_a rfl) ?_)
 refine rn ?_
 change Awp _ _ _ _ _
 refine awp_seq ?_
 refine awp_seq ?_
 refine awp_region 8 mixed (by kernel_rfl) ?_
 refine rg_q (q_fieldAddr fld37_0 rfl) ?_
 refine rg_q (q_loadA (ds := [_, _, _, _, _, _, _, _, _, _, _]) sz28 rfl rfl rfl) ?_
 refine rg_q (q_call en92 (.cons rfl .nil) rfl (rcheckArr_p t.ar)) ?_
 refine rg_q (q_move (x := .d (.tup _)) rfl) (rg_q (q_extract rfl rfl) (rg_q (q_extract rfl rfl) (rg_q (q_a rfl) (rg_q (q_a rfl) ?_))))
 refine rs (awp_region 2 mixed (by kernel_rfl) ?_)
 refine rg_q (q_m rfl) (rg_q (q_neq rfl rfl) ?_)
 refine rn ?_
 change Awp _ _ _ _ _
 refine awp_cond rfl (fun hc2 => ?_) (fun hc2 => ?_)
 ·
  (try simp only [nb, ne_eq] at hc2)
  have h1 : (ckArr t.ar).2 ≠ 0 := hc2
  rw [if_pos h1] at hu
  rw [hu]
  refine awp_seq ?_
  refine awp_region 4 mixed (by kernel_rfl) ?_
  refine rg_q (q_m rfl) (rg_q (q_m rfl) (rg_q (q_a rfl) (rg_q (q_a rfl) ?_)))
  refine rn ?_
  change Awp _ _ _ _ _
  refine awp_ret ?_
  refine ⟨_, (.cons (.tmp (by exact .d _)) (.cons (.tmp (by exact .d _)) .nil)), ?_⟩
  rfl
 ·
  (try simp only [nb, ne_eq] at hc2)
  have h1 : ¬ (ckArr t.ar).2 ≠ 0 := fun q => q hc2
  rw [if_neg h1] at hu
  refine awp_skip ?_
  change Awp _ _ _ _ _
  refine awp_seq ?_
  refine awp_seq ?_
  refine awp_region 8 mixed (by kernel_rfl) ?_
  refine rg_q (q_fieldAddr fld37_1 rfl) ?_
  refine rg_q (q_loadA (ds := [_, _]) sz31 rfl rfl rfl) ?_
  refine rg_q (q_call en93 (.cons rfl .nil) rfl (rcheckMatrix5_p t.ne t.bf)) ?_
  refine rg_q (q_move (x := .d (.tup _)) rfl) (rg_q (q_extract rfl rfl) (rg_q (q_extract rfl rfl) (rg_q (q_a rfl) (rg_q (q_a rfl) ?_))))
  refine rs (awp_region 2 mixed (by kernel_rfl) ?_)
  refine rg_q (q_m rfl) (rg_q (q_neq rfl rfl) ?_)
  refine rn ?_
  change Awp _ _ _ _ _
  refine awp_cond rfl (fun hc5 => ?_) (fun hc5 => ?_)
  ·
   (try simp only [nb, ne_eq] at hc5)
   have h2 : (ckM t.ne t.bf).2 ≠ 0 := hc5
   rw [if_pos h2] at hu
   rw [hu]
   refine awp_seq ?_
   refine awp_region 3 mixed (by kernel_rfl) ?_
   refine rg_q (q_m rfl) (rg_q (q_a rfl) (rg_q (q_a rfl) ?_))
   refine rn ?_
   change Awp _ _ _ _ _
   refine awp_ret ?_
   refine ⟨_, (.cons (.tmp (by exact .d _)) (.cons (.tmp (by exact .d _)) .nil)), ?_⟩
   rfl
  ·
   (try simp only [nb, ne_eq] at hc5)
   have h2 : ¬ (ckM t.ne t.bf).2 ≠ 0 := fun q => q hc5
   rw [if_neg h2] at hu
   refine awp_skip ?_
   change Awp _ _ _ _ _
   refine awp_seq ?_
   refine awp_seq ?_
   refine awp_region 8 mixed (by kernel_rfl) ?_
   refine rg_q (q_fieldAddr fld37_1 rfl) (rg_q (q_fieldAddr fld31_0 rfl) (rg_q (q_load sz3 rfl rfl) (rg_q (q_fieldAddr fld37_0 rfl) (rg_q (q_fieldAddr fld28_0 rfl) (rg_q (q_load sz22 rfl rfl) ?_)))))
   refine rg_q (q_len isl22 rfl (by exact len_map _ _)) ?_
   refine rg_q (q_neq rfl rfl) ?_
   refine rn ?_
   change Awp _ _ _ _ _
   refine awp_len (t := 33) rfl (fun hl33 => ?_)
   (try simp only [List.length_map] at hl33)
   refine awp_cond rfl (fun hc7 => ?_) (fun hc7 => ?_)
   ·
    (try simp only [nb, ne_eq] at hc7)
    have h3 : (t.ar.el.length : Int) ≠ t.ne := by omega
    rw [if_pos h3] at hu
    rw [hu]
    refine awp_seq ?_
    refine awp_region 2 mixed (by kernel_rfl) ?_
    refine rg_q (q_a rfl) (rg_q (q_a rfl) ?_)
    refine rn ?_
    change Awp _ _ _ _ _
    refine awp_ret ?_
    refine ⟨_, (.cons (.tmp (by exact .d _)) (.cons (.tmp (by exact .d _)) .nil)), ?_⟩
    rfl
   ·
    (try simp only [nb, ne_eq] at hc7)
    have h3 : ¬ (t.ar.el.length : Int) ≠ t.ne := by omega
    rw [if_neg h3] at hu
    refine awp_skip ?_
    change Awp _ _ _ _ _
    refine awp_seq ?_
    refine awp_seq ?_
    refine awp_region 4 mixed (by kernel_rfl) ?_
    refine rg_q (q_fieldAddr fld37_2 rfl) ?_
    refine rg_q (q_loadA (ds := [_, _, _, _, _]) sz35 rfl rfl rfl) ?_
    refine rg_q (q_call en74 (.cons rfl .nil) rfl (rcheckGrid_p t.g)) ?_
    refine rg_q (q_a rfl) ?_
    refine rs (awp_region 2 mixed (by kernel_rfl) ?_)
    refine rg_q (q_m rfl) (rg_q (q_neq rfl rfl) ?_)
    refine rn ?_
    change Awp _ _ _ _ _
    refine awp_cond rfl (fun hc10 => ?_) (fun hc10 => ?_)
    ·
     (try simp only [nb, ne_eq] at hc10)
     have h4 : ckG t.g ≠ 0 := hc10
     rw [if_pos h4] at hu
     rw [hu]
     refine awp_seq ?_
     refine awp_region 3 mixed (by kernel_rfl) ?_
     refine rg_q (q_m rfl) (rg_q (q_a rfl) (rg_q (q_a rfl) ?_))
     refine rn ?_
     change Awp _ _ _ _ _
     refine awp_ret ?_
     refine ⟨_, (.cons (.tmp (by exact .d _)) (.cons (.tmp (by exact .d _)) .nil)), ?_⟩
     rfl
    ·
     (try simp only [nb, ne_eq] at hc10)
     have h4 : ¬ ckG t.g ≠ 0 := fun q => q hc10
     rw [if_neg h4] at hu
     obtain ⟨hao, _⟩ := ckArr_ok (Decidable.not_not.1 h1)
     have ht1 := hao.ou.t1
     have ht2 := hao.ou.t2
     obtain ⟨hg, hg1, hg2⟩ := ckG_ok (Decidable.not_not.1 h4)
     have hci := cells_in hg
     have hz : ckT t = (0, whenI (brkB t.g t.ar.ou.t) 22) := hu
     refine awp_skip ?_
     change Awp _ _ _ _ _
     refine awp_seq ?_
     refine awp_seq ?_
     refine awp_region 21 mixed (by kernel_rfl) ?_
     refine rg_q (q_fieldAddr fld37_2 rfl) (rg_q (q_fieldAddr fld35_0 rfl) (rg_q (q_fieldAddr fld33_1 rfl) (rg_q (q_load sz3 rfl rfl) (rg_q (q_lss rfl rfl) (rg_q (q_m rfl) ?_)))))
     refine rg_g rfl rfl (fun hG => (q_fieldAddr fld37_2 rfl)) ?_
     refine rg_g rfl rfl (fun hG => (q_loadA (ds := [_, _, _, _, _]) sz35 rfl rfl rfl)) ?_
     refine rg_g rfl rfl (fun hG => (q_fieldAddr fld37_2 rfl)) ?_
     refine rg_g rfl rfl (fun hG => (q_loadA (ds := [_, _, _, _, _]) sz35 rfl rfl rfl)) ?_
     refine rg_g rfl rfl (fun hG => (q_call en56 (.cons rfl .nil) rfl (rcells_p _ (by assumption)))) ?_
     refine rg_g rfl rfl (fun hG => (q_sub rfl rfl (In64.mk (by (have hg0 := T.bool_inj (a := _) hG.1; (try simp only [nb, ne_eq] at hg0); omega)) (by (have hg0 := T.bool_inj (a := _) hG.1; (try simp only [nb, ne_eq] at hg0); omega))))) ?_
     refine rg_g rfl rfl (fun hG => (q_call en76 (.cons rfl (.cons rfl .nil)) rfl (rspot_p _ _ (by assumption) (by omega) (by omega)))) ?_
     refine rg_g rfl rfl (fun hG => (q_field fd33_1 sz3 rfl rfl)) ?_
     refine rg_g rfl rfl (fun hG => (q_fieldAddr fld37_0 rfl)) ?_
     refine rg_g rfl rfl (fun hG => (q_fieldAddr fld28_1 rfl)) ?_
     refine rg_g rfl rfl (fun hG => (q_fieldAddr fld24_3 rfl)) ?_
     refine rg_g rfl rfl (fun hG => (q_load sz3 rfl rfl)) ?_
     refine rg_g rfl rfl (fun hG => (q_sub rfl rfl (In64.mk (by (have hg0 := T.bool_inj (a := _) hG.1; (try simp only [nb, ne_eq] at hg0); omega)) (by (have hg0 := T.bool_inj (a := _) hG.1; (try simp only [nb, ne_eq] at hg0); omega))))) ?_
     refine rg_g rfl rfl (fun hG => (q_gtr rfl rfl)) ?_
     refine rg_pick rfl rfl rfl rfl rfl rfl ?_
     refine rn ?_
     change Awp _ _ _ _ _
     refine awp_cond rfl (fun hc12 => ?_) (fun hc12 => ?_)
     ·
      (try simp only [nb, ne_eq] at hc12)
      rw [(brk_is hg).2 hc12] at hz
      refine awp_seq ?_
      refine awp_region 2 mixed (by kernel_rfl) ?_
      refine rg_q (q_a rfl) (rg_q (q_a rfl) ?_)
      refine rn ?_
      change Awp _ _ _ _ _
      refine awp_ret ?_
      refine ⟨_, (.cons (.tmp (by exact .d _)) (.cons (.tmp (by exact .d _)) .nil)), ?_⟩
      rw [hz]; rfl
     ·
      (try simp only [nb, ne_eq] at hc12)
      have hb : brkB t.g t.ar.ou.t = false := by
       cases q : brkB t.g t.ar.ou.t with
       | false => rfl
       | true => have := (brk_is hg).1 q; omega
      rw [hb] at hz
      refine awp_skip ?_
      change Awp _ _ _ _ _
      refine awp_seq ?_
      refine awp_region 2 mixed (by kernel_rfl) ?_
      refine rg_q (q_a rfl) (rg_q (q_a rfl) ?_)
      refine rn ?_
      change Awp _ _ _ _ _
      refine awp_ret ?_
      refine ⟨_, (.cons (.tmp (by exact .d _)) (.cons (.tmp (by exact .d _)) .nil)), ?_⟩
      rw [hz]; rfl
set_option maxRecDepth 100000 in
theorem rtaskErr_p (t : Tsk) : PC Tryz.prog 24 [.agg (tskC t)] (.v (.int .i64 ((ckT t).2))) := by
 refine pc_of_awp Tryz.func24 rfl Tryz.ntmps24 (rs := [.tmp 2]) Tryz.results24 (by simp) fun w0 => ?_
 refine awp_seq ?_
 refine awp_region 2 mixed (by kernel_rfl) ?_
 refine rg_q (q_box rfl (by exact .inr ⟨_, rfl⟩)) ?_
 refine rg_q (q_a rfl) ?_
 refine rs (awp_region 7 mixed (by kernel_rfl) ?_)
 refine rg_q (q_loadA sz37 rfl rfl rfl) ?_
 refine rg_q (q_call en22 (.cons rfl .nil) rfl (rcheckTask_p _)) ?_
 refine rg_q (q_move (x := .d (.tup _)) rfl) (rg_q (q_extract rfl rfl) (rg_q (q_extract rfl rfl) (rg_q (q_a rfl) (rg_q (q_a rfl) ?_))))
 refine rs (awp_region 2 mixed (by kernel_rfl) ?_)
 refine rg_q (q_m rfl) (rg_q (q_a rfl) ?_)
 refine rn ?_
 change Awp _ _ _ _ _
 refine awp_ret ?_
 refine ⟨_, (.cons (.tmp (by exact .d _)) .nil), ?_⟩
 rfl
set_option maxRecDepth 100000 in
theorem copyMatrix5_p (ne : Int) (l : List Nat) (hl : l.length ≤ 10000) : PC Tryz.prog 62 [.agg [.v (.int .i64 (ne)), .sl 1 (l.map fC)]] (.agg (mtxC ne l)) := by
 refine pc_of_awp Tryz.func62 rfl Tryz.ntmps62 (rs := [.cell 2 31]) Tryz.results62 (by simp) fun w0 => ?_
 refine awp_seq ?_
 refine awp_region 1 mixed (by kernel_rfl) ?_
 refine rg_q (q_box rfl (by exact .inr ⟨_, rfl⟩)) ?_
 refine rg_nil ?_
 refine aops_alloc zr31 rfl rfl rfl ?_
 refine aops_nil ?_
 change Awp _ _ _ _ _
 refine awp_seq ?_
 refine awp_region 7 mixed (by kernel_rfl) ?_
 refine rg_q (q_fieldAddr fld31_0 rfl) (rg_q (q_load sz3 rfl rfl) ?_)
 refine rg_q (q_empty0 sl29 zr117) ?_
 refine rg_q (q_fieldAddr fld31_1 rfl) (rg_q (q_load sz29 rfl rfl) ?_)
 refine rg_q (q_append0 sl29 zr117 by117 rfl (by decide) rfl rfl rfl (by (try simp only [List.length_map]); omega) (by (try simp only [List.length_map]); omega)) ?_
 refine rg_q (q_build (cs := [_, _]) pl31 zr31 rfl (.cons rfl (by exact .inl rfl) (.cons rfl (by exact .inl rfl) .nil)) ⟨⟨rfl, by decide⟩, ⟨rfl, by decide⟩, trivial⟩ rfl) ?_
 refine rg_nil ?_
 refine aops_store sz31 rfl rfl (by exact .inr ⟨_, rfl⟩) rfl rfl (by decide) rfl ?_
 refine aops_nil ?_
 change Awp _ _ _ _ _
 refine awp_ret ?_
 refine ⟨_, (.cons (.cellA rfl rfl sz31 rfl) .nil), ?_⟩
 rfl
set_option maxRecDepth 100000 in
theorem rcopyT_p (t : Tsk) (h1 : t.ar.el.length ≤ 1000) (h2 : t.bf.length ≤ 10000) : PC Tryz.prog 21 [.agg (tskC t)] (.agg (tskC t)) := by
 refine pc_of_awp Tryz.func21 rfl Tryz.ntmps21 (rs := [.cell 2 37]) Tryz.results21 (by simp) fun w0 => ?_
 refine awp_seq ?_
 refine awp_region 1 mixed (by kernel_rfl) ?_
 refine rg_q (q_box rfl (by exact .inr ⟨_, rfl⟩)) ?_
 refine rg_nil ?_
 refine aops_alloc zr37 rfl rfl rfl ?_
 refine aops_nil ?_
 change Awp _ _ _ _ _
 refine awp_seq ?_
 refine awp_region 9 mixed (by kernel_rfl) ?_
 refine rg_q (q_fieldAddr fld37_0 rfl) ?_
 refine rg_q (q_loadA (ds := [_, _, _, _, _, _, _, _, _, _, _]) sz28 rfl rfl rfl) ?_
 refine rg_q (q_call en79 (.cons rfl .nil) rfl (copyArr_p t.ar h1)) ?_
 refine rg_q (q_fieldAddr fld37_1 rfl) ?_
 refine rg_q (q_loadA (ds := [_, _]) sz31 rfl rfl rfl) ?_
 refine rg_q (q_call en62 (.cons rfl .nil) rfl (copyMatrix5_p t.ne t.bf h2)) ?_
 refine rg_q (q_fieldAddr fld37_2 rfl) ?_
 refine rg_q (q_loadA (ds := [_, _, _, _, _]) sz35 rfl rfl rfl) ?_
 refine rg_q (q_build pl37 zr37 rfl (.cons rfl (by exact .inr ⟨_, rfl⟩) (.cons rfl (by exact .inr ⟨_, rfl⟩) (.cons rfl (by exact .inr ⟨_, rfl⟩) .nil))) ⟨⟨rfl, by decide⟩, ⟨rfl, by decide⟩, ⟨rfl, by decide⟩, trivial⟩ rfl) ?_
 refine rg_nil ?_
 refine aops_store sz37 rfl rfl (by exact .inr ⟨_, rfl⟩) rfl rfl (by decide) rfl ?_
 refine aops_nil ?_
 change Awp _ _ _ _ _
 refine awp_ret ?_
 refine ⟨_, (.cons (.cellA rfl rfl sz37 rfl) .nil), ?_⟩
 rfl

def smlB (g : Grd) : Bool := if (!inR 1 g.co 40 || !inR 1 g.ro 40) = true then true else decide (g.co * g.ro ≤ 12)
def litB (t : Tsk) : Bool := (decide (t.ar.el.length ≤ 2) || (decide (16 < t.ar.el.length) && decide (t.ar.el.length ≤ 18))) && decide (t.bf.length ≤ 260) && smlB t.g
theorem lit_le {t : Tsk} (h : litB t = true) : t.ar.el.length ≤ 18 ∧ t.bf.length ≤ 260 := by
  unfold litB at h
  simp only [Bool.and_eq_true, Bool.or_eq_true, decide_eq_true_eq] at h
  omega
set_option maxRecDepth 100000 in
theorem small5_p (g : Grd) : PC Tryz.prog 40 [.agg (grdC g)] (.v (.bool (smlB g))) := by
 refine pc_of_awp Tryz.func40 rfl Tryz.ntmps40 (rs := [.tmp 2]) Tryz.results40 (by simp) fun w0 => ?_
 refine awp_seq ?_
 refine awp_region 2 mixed (by kernel_rfl) ?_
 refine rg_q (q_box rfl (by exact .inr ⟨_, rfl⟩)) ?_
 refine rg_q (q_a rfl) ?_
 refine rn ?_
 change Awp _ _ _ _ _
 refine awp_seq ?_
 refine awp_seq ?_
 refine awp_region 10 mixed (by kernel_rfl) ?_
 refine rg_q (q_fieldAddr fld35_1 rfl) (rg_q (q_load sz3 rfl rfl) ?_)
 refine rg_q (q_call en31 (.cons rfl (.cons rfl (.cons rfl .nil))) rfl (within4_p _ _ _)) ?_
 refine rg_q (q_not rfl) (rg_q (q_m rfl) ?_)
 refine rg_g rfl rfl (fun hG => (q_fieldAddr fld35_2 rfl)) ?_
 refine rg_g rfl rfl (fun hG => (q_load sz3 rfl rfl)) ?_
 refine rg_g rfl rfl (fun hG => (q_call en31 (.cons rfl (.cons rfl (.cons rfl .nil))) rfl (within4_p _ _ _))) ?_
 refine rg_g rfl rfl (fun hG => (q_not rfl)) ?_
 refine rg_pick rfl rfl rfl rfl rfl rfl ?_
 refine rn ?_
 change Awp _ _ _ _ _
 refine awp_cond rfl (fun hc1 => ?_) (fun hc1 => ?_)
 ·
  (try simp only [nb, ne_eq] at hc1)
  have hz : smlB g = true := by unfold smlB; rw [if_pos (by rcases hc1 with q | q <;> simp [q])]
  refine awp_seq ?_
  refine awp_region 1 mixed (by kernel_rfl) ?_
  refine rg_q (q_a rfl) ?_
  refine rn ?_
  change Awp _ _ _ _ _
  refine awp_ret ?_
  refine ⟨_, (.cons (.tmp (by exact .d _)) .nil), ?_⟩
  rw [hz]; rfl
 ·
  (try simp only [nb, ne_eq] at hc1)
  obtain ⟨q1, q2⟩ := hc1
  have hz : smlB g = decide (g.co * g.ro ≤ 12) := by unfold smlB; rw [if_neg (by rw [q1, q2]; decide)]
  obtain ⟨a1, a2⟩ := inR_iff.1 q1
  obtain ⟨a3, a4⟩ := inR_iff.1 q2
  have hm := mulb (a := g.co) (b := g.ro) (A := 40) (B := 40) (by omega) (by omega) (by omega) (by omega)
  refine awp_skip ?_
  change Awp _ _ _ _ _
  refine awp_seq ?_
  refine awp_region 7 mixed (by kernel_rfl) ?_
  refine rg_q (q_fieldAddr fld35_1 rfl) (rg_q (q_load sz3 rfl rfl) (rg_q (q_fieldAddr fld35_2 rfl) (rg_q (q_load sz3 rfl rfl) ?_)))
  refine rg_q (q_mul rfl rfl (In64.mk (by omega) (by omega))) ?_
  refine rg_q (q_leq rfl rfl) (rg_q (q_a rfl) ?_)
  refine rn ?_
  change Awp _ _ _ _ _
  refine awp_ret ?_
  refine ⟨_, (.cons (.tmp (by exact .d _)) .nil), ?_⟩
  rw [hz]; rfl
set_option maxRecDepth 100000 in
theorem light_p (t : Tsk) : PC Tryz.prog 19 [.agg (tskC t)] (.v (.bool (litB t))) := by
 refine pc_of_awp Tryz.func19 rfl Tryz.ntmps19 (rs := [.tmp 2]) Tryz.results19 (by simp) fun w0 => ?_
 refine awp_seq ?_
 refine awp_region 2 mixed (by kernel_rfl) ?_
 refine rg_q (q_box rfl (by exact .inr ⟨_, rfl⟩)) ?_
 refine rg_q (q_a rfl) ?_
 refine rs (awp_region 32 mixed (by kernel_rfl) ?_)
 refine rg_q (q_fieldAddr fld37_0 rfl) (rg_q (q_fieldAddr fld28_0 rfl) (rg_q (q_load sz22 rfl rfl) ?_))
 refine rg_q (q_len isl22 rfl (by exact len_map _ _)) ?_
 refine rg_q (q_leq rfl rfl) (rg_q (q_m rfl) ?_)
 refine rg_g rfl rfl (fun hG => (q_fieldAddr fld37_0 rfl)) ?_
 refine rg_g rfl rfl (fun hG => (q_fieldAddr fld28_0 rfl)) ?_
 refine rg_g rfl rfl (fun hG => (q_load sz22 rfl rfl)) ?_
 refine rg_g rfl rfl (fun hG => (q_len isl22 rfl (by exact len_map _ _))) ?_
 refine rg_g rfl rfl (fun hG => (q_gtr rfl rfl)) ?_
 refine rg_g rfl rfl (fun hG => (q_m rfl)) ?_
 refine rg_g rfl rfl (fun hG => (q_fieldAddr fld37_0 rfl)) ?_
 refine rg_g rfl rfl (fun hG => (q_fieldAddr fld28_0 rfl)) ?_
 refine rg_g rfl rfl (fun hG => (q_load sz22 rfl rfl)) ?_
 refine rg_g rfl rfl (fun hG => (q_len isl22 rfl (by exact len_map _ _))) ?_
 refine rg_g rfl rfl (fun hG => (q_leq rfl rfl)) ?_
 refine rg_pickg rfl rfl rfl rfl rfl rfl rfl rfl ?_
 refine rg_pick rfl rfl rfl rfl rfl rfl ?_
 refine rg_q (q_m rfl) ?_
 refine rg_g rfl rfl (fun hG => (q_fieldAddr fld37_1 rfl)) ?_
 refine rg_g rfl rfl (fun hG => (q_fieldAddr fld31_1 rfl)) ?_
 refine rg_g rfl rfl (fun hG => (q_load sz29 rfl rfl)) ?_
 refine rg_g rfl rfl (fun hG => (q_len isl29 rfl (by exact len_map _ _))) ?_
 refine rg_g rfl rfl (fun hG => (q_leq rfl rfl)) ?_
 refine rg_pick rfl rfl rfl rfl rfl rfl ?_
 refine rg_q (q_m rfl) ?_
 refine rg_g rfl rfl (fun hG => (q_fieldAddr fld37_2 rfl)) ?_
 refine rg_g rfl rfl (fun hG => (q_loadA (ds := [_, _, _, _, _]) sz35 rfl rfl rfl)) ?_
 refine rg_g rfl rfl (fun hG => (q_call en40 (.cons rfl .nil) rfl (small5_p _))) ?_
 refine rg_pick rfl rfl rfl rfl rfl rfl ?_
 refine rg_q (q_a rfl) ?_
 refine rn ?_
 change Awp _ _ _ _ _
 refine awp_len (t := 5) rfl (fun hl5 => ?_)
 (try simp only [List.length_map] at hl5)
 refine awp_ret ?_
 refine ⟨_, (.cons (.tmp (by exact .d _)) .nil), ?_⟩
 have e1 : decide (t.ar.el.length ≤ 2) = decide ((t.ar.el.length : Int) ≤ 2) := decide_eq_decide.2 (by omega)
 have e2 : decide (16 < t.ar.el.length) = decide (16 < (t.ar.el.length : Int)) := decide_eq_decide.2 (by omega)
 have e3 : decide (t.ar.el.length ≤ 18) = decide ((t.ar.el.length : Int) ≤ 18) := decide_eq_decide.2 (by omega)
 have e4 : decide (t.bf.length ≤ 260) = decide ((t.bf.length : Int) ≤ 260) := decide_eq_decide.2 (by omega)
 unfold litB; rw [e1, e2, e3, e4]; simp only [bif_and, bif_or]; rfl
end Go.Proofs.YtphlaicnmmglhaaGreat.Am.M
-- mini
namespace Go.Proofs.YtphlaicnmmglhaaGreat.Am.M
open Go

theorem chK_at {l : List Nat} {i k : Nat} (hk : k < 64) : (chK l i)[k]? = l[64 * i + k]? := by
  unfold chK
  rw [List.getElem?_drop, List.getElem?_take, if_pos (by omega)]
def off5 (n f r : Int) : Int := (f * n + r) * 64
theorem off5_in {n f r : Int} (hn : n ≤ 16) (f0 : 0 ≤ f) (f1 : f < n) (r0 : 0 ≤ r) (r1 : r < n) : (0 ≤ f * n ∧ f * n ≤ 256) ∧ 0 ≤ off5 n f r ∧ off5 n f r + 64 ≤ n * n * 64 := by
  have h1 := Int.mul_nonneg f0 (show 0 ≤ n by omega)
  have h2 := Int.mul_le_mul_of_nonneg_right (show f ≤ n - 1 by omega) (show 0 ≤ n by omega)
  have h3 : (n - 1) * n = n * n - n := by grind
  have h4 := Int.mul_le_mul_of_nonneg_right hn (show 0 ≤ n by omega)
  unfold off5
  omega
theorem flat5 (V : List Int) : (D.agg (V.map fv)).Flat := .agg _ (fun d hd => by
  obtain ⟨x, _, rfl⟩ := List.mem_map.1 hd
  exact .v _)
theorem fv_at {V : List Int} {k : Nat} {v : Int} (h : V[k]? = some v) : (V.map fv)[0 + (k : Int).toNat * 1]? = some (fv v) := by rw [Int.toNat_natCast, Nat.zero_add, Nat.mul_one, List.getElem?_map, h]; rfl
theorem sAt_at {S : List Int} (hS : S.length = 64) {i : Nat} (hi : i < 64) : S[i]? = some (sAt S i) := by
  unfold sAt
  rw [List.getD_eq_getElem?_getD, List.getElem?_eq_getElem (by omega)]; rfl
set_option maxRecDepth 100000 in
theorem at5_p (ne : Int) (l : List Nat) (p : Int × Int) (hn : ne ≤ 16) (p1 : 0 ≤ p.1 ∧ p.1 < ne) (p2 : 0 ≤ p.2 ∧ p.2 < ne) : PC Tryz.prog 241 [.agg (mtxC ne l), .v (.int .i64 (p.1)), .v (.int .i64 (p.2))] (.v (.int .i64 (off5 ne p.1 p.2))) := by
 obtain ⟨⟨a1, a2⟩, a3, a4⟩ := off5_in hn p1.1 p1.2 p2.1 p2.2
 have hn2 := mulb (a := ne) (b := ne) (A := 16) (B := 16) (by omega) (by omega) (by omega) (by omega)
 refine pc_of_awp Tryz.func241 rfl Tryz.ntmps241 (rs := [.tmp 6]) Tryz.results241 (by simp) fun w0 => ?_
 refine awp_seq ?_
 refine awp_region 2 mixed (by kernel_rfl) ?_
 refine rg_q (q_box rfl (by exact .inr ⟨_, rfl⟩)) ?_
 refine rg_q (q_a rfl) ?_
 refine rs (awp_region 8 mixed (by kernel_rfl) ?_)
 refine rg_q (q_m rfl) (rg_q (q_fieldAddr fld31_0 rfl) (rg_q (q_load sz3 rfl rfl) ?_))
 refine rg_q (q_mul rfl rfl (In64.mk (by omega) (by omega))) ?_
 refine rg_q (q_m rfl) ?_
 refine rg_q (q_add rfl rfl (In64.mk (by omega) (by omega))) ?_
 refine rg_q (q_mul rfl rfl (In64.mk (by omega) (by omega))) ?_
 refine rg_q (q_a rfl) ?_
 refine rn ?_
 change Awp _ _ _ _ _
 refine awp_ret ?_
 refine ⟨_, (.cons (.tmp (by exact .d _)) .nil), ?_⟩
 rfl
set_option maxRecDepth 100000 in
theorem trace5_p (S : List Int) (hS : S.length = 64) : PC Tryz.prog 242 [.sl 1 (S.map iC)] (.agg (S.map fv)) := by
 refine pc_of_awp Tryz.func242 rfl Tryz.ntmps242 (rs := [.cell 2 236]) Tryz.results242 (by simp) fun w0 => ?_
 refine awp_seq ?_
 refine awp_region 0 mixed (by kernel_rfl) ?_
 refine rg_nil ?_
 refine aops_alloc zr236 rfl rfl rfl ?_
 refine aops_nil ?_
 change Awp _ _ _ _ _
 refine awp_seq ?_
 refine awp_region 0 mixed (by kernel_rfl) ?_
 refine rg_nil ?_
 refine aops_alloc zr236 rfl rfl rfl ?_
 refine aops_nil ?_
 change Awp _ _ _ _ _
 refine awp_seq ?_
 refine awp_seq ?_
 refine awp_region 1 mixed (by kernel_rfl) ?_
 refine rg_q (q_a rfl) ?_
 refine rn ?_
 change Awp _ _ _ _ _
 refine awp_block ?_
 refine awp_loopH [4, 5, 6, 7, 8, 9, 10, 11, 12, 13, 14, 15, 16, 17, 18, 19, 20, 21] [3] (α := Nat) (fun k => [(4, T.i (k : Int))]) (fun k => [(3, .box (outT S k))]) (fun k => k ≤ 64) (fun k => 64 - k) 0 (Nat.zero_le _) ?_ ?_
 · exact le_head (ms := [3]) (by repeat (exact Out.refl _)) ⟨(by rfl), trivial⟩ ⟨(by rfl), trivial⟩ rfl rfl rfl rfl
 ·
  intro k hk
  refine awp_seq ?_
  refine awp_seq ?_
  refine awp_region 8 mixed (by kernel_rfl) ?_
  refine rg_q (q_m rfl) (rg_q (q_lss rfl rfl) (rg_q (q_m rfl) ?_))
  refine rg_g rfl rfl (fun hG => (q_m rfl)) ?_
  refine rg_g rfl rfl (fun hG => (q_move (x := .d (.sl _ _)) rfl)) ?_
  refine rg_g rfl rfl (fun hG => (q_len isl77 rfl (by exact len_map _ _))) ?_
  refine rg_g rfl rfl (fun hG => (q_lss rfl rfl)) ?_
  refine rg_pick rfl rfl rfl rfl rfl rfl ?_
  refine rn ?_
  change Awp _ _ _ _ _
  refine awp_cond rfl (fun hc3 => ?_) (fun hc3 => ?_)
  ·
   (try simp only [nb, ne_eq] at hc3)
   have hlt : k < S.length := by omega
   obtain ⟨x, hx⟩ : ∃ x, S[k]? = some x := ⟨_, List.getElem?_eq_getElem hlt⟩
   have hst := outT_set hS hx
   have hol : (outT S k).length = 64 := by unfold outT; rw [List.length_append, List.length_map, List.length_take, List.length_replicate]; omega
   refine awp_skip ?_
   change Awp _ _ _ _ _
   refine awp_seq ?_
   refine awp_block ?_
   refine awp_region 7 mixed (by kernel_rfl) ?_
   refine rg_q (q_m rfl) (rg_q (q_move (x := .d (.sl _ _)) rfl) (rg_q (q_m rfl) ?_))
   refine rg_q (q_indexAddr sl77 rfl rfl (by omega) (map_at (by omega) hx)) ?_
   refine rg_q (q_load sz3 rfl rfl) ?_
   refine rg_q (q_convf int3 flt117 rfl) ?_
   refine rg_q (q_indexAddr_aref ar236 rfl rfl (by omega) (by omega)) ?_
   refine rg_nil ?_
   refine aops_store (cs' := outT S (k + 1)) sz117 rfl rfl (by exact .inl rfl) rfl rfl (by rw [hol]; omega) hst ?_
   refine aops_nil ?_
   change Awp _ _ _ _ _
   refine awp_region 3 mixed (by kernel_rfl) ?_
   refine rg_q (q_m rfl) ?_
   refine rg_q (q_add rfl rfl (In64.mk (by omega) (by omega))) ?_
   refine rg_q (q_a rfl) ?_
   refine rn ?_
   refine ⟨k + 1, by omega, by omega, ?_⟩
   exact le_head (ms := [3]) (by repeat (first | exact Out.head rfl rfl | (refine Out.put ?_ rfl) | (refine Out.site ?_ rfl))) ⟨(by rfl), trivial⟩ ⟨(by rfl), trivial⟩ rfl rfl rfl rfl
  ·
   (try simp only [nb, ne_eq] at hc3)
   have hk64 : k = 64 := by omega
   subst hk64
   rw [outT_all hS]
   refine awp_exit ?_
   change Awp _ _ _ _ _
   refine awp_seq ?_
   refine awp_region 1 mixed (by kernel_rfl) ?_
   refine rg_q (q_load_refA (ds := S.map fv) sz236 rfl rfl (by rw [List.drop_zero]; exact List.take_of_length_le (by rw [List.length_map]; omega)) (by rw [List.length_map]; exact hS)) ?_
   refine rg_nil ?_
   refine aops_store (cs' := S.map fv) sz236 rfl rfl (by exact .inr ⟨_, rfl⟩) (by show (S.map fv).length = 64; rw [List.length_map]; exact hS) rfl (Nat.le_of_ble_eq_true rfl) (setCs_all (by show (S.map fv).length = 64; rw [List.length_map]; exact hS)) ?_
   refine aops_nil ?_
   change Awp _ _ _ _ _
   refine awp_ret ?_
   refine ⟨_, (.cons (.cellA rfl rfl sz236 (by show (S.map fv).length = _; rw [List.length_map]; exact hS)) .nil), ?_⟩
   rfl
set_option maxRecDepth 100000 in
theorem rtraceOf5_p (ne : Int) (l : List Nat) (p : Int × Int) (hn : ne ≤ 16) (p1 : 0 ≤ p.1 ∧ p.1 < ne) (p2 : 0 ≤ p.2 ∧ p.2 < ne) (hw : WhlL l) (hl : (l.length : Int) = ne * ne * 64) : PC Tryz.prog 177 [.agg (mtxC ne l), .agg (shC p)] (.agg (((chK l (p.1 * ne + p.2).toNat).map vI).map fv)) := by
 obtain ⟨⟨a1, a2⟩, a3, a4⟩ := off5_in hn p1.1 p1.2 p2.1 p2.2
 have hn2 := mulb (a := ne) (b := ne) (A := 16) (B := 16) (by omega) (by omega) (by omega) (by omega)
 have ho : off5 ne p.1 p.2 = (p.1 * ne + p.2) * 64 := rfl
 have hBl : l.length ≤ 100000 := by omega
 have hml : (l.map fC).length = l.length := List.length_map _
 have hV : ((chK l (p.1 * ne + p.2).toNat).map vI).length = 64 := by rw [List.length_map]; exact chK_len (m := (ne * ne).toNat) (by omega) (by omega)
 refine pc_of_awpN Tryz.func177 rfl Tryz.ntmps177 (rs := [.cell 4 236]) Tryz.results177 (by simp) fun w0 hmine hrnd hpn => ?_
 refine awp_seq ?_
 refine awp_region 2 mixed (by kernel_rfl) ?_
 refine rg_q (q_box rfl (by exact .inr ⟨_, rfl⟩)) ?_
 refine rg_q (q_box rfl (by exact .inr ⟨_, rfl⟩)) ?_
 refine rg_nil ?_
 refine aops_alloc zr236 rfl rfl rfl ?_
 refine aops_nil ?_
 change Awp _ _ _ _ _
 refine awp_seq ?_
 refine awp_region 1 mixed (by kernel_rfl) ?_
 refine rg_q (q_assign_nil) ?_
 refine rn ?_
 change Awp _ _ _ _ _
 refine Awp.le (le_own (k := 5) (e := 3) (sz := 1) rfl rfl) ?_
 refine awp_seq ?_
 refine awp_seq ?_
 refine awp_region 1 mixed (by kernel_rfl) ?_
 refine rg_q (q_a rfl) ?_
 refine rn ?_
 change Awp _ _ _ _ _
 refine awp_block ?_
 refine awp_loopH [5, 6, 7, 8, 9, 10, 11, 12, 13, 14, 15, 16, 17, 18, 19, 20, 21, 22, 23, 24, 25, 26] [5] (α := Nat) (fun k => [(6, T.i (k : Int)), (5, .rs 5)]) (fun k => [(5, .row 3 1 ((((chK l (p.1 * ne + p.2).toNat).map vI).take k).map iC))]) (fun k => k ≤ 64) (fun k => 64 - k) 0 (Nat.zero_le _) ?_ ?_
 · exact le_head (ms := [5]) (by repeat (exact Out.refl _)) ⟨(by rfl), (by rfl), trivial⟩ ⟨(by rfl), trivial⟩ rfl rfl rfl rfl
 ·
  intro k hk
  refine awp_seq ?_
  refine awp_seq ?_
  refine awp_region 2 mixed (by kernel_rfl) ?_
  refine rg_q (q_m rfl) (rg_q (q_lss rfl rfl) ?_)
  refine rn ?_
  change Awp _ _ _ _ _
  refine awp_cond rfl (fun hc3 => ?_) (fun hc3 => ?_)
  ·
   (try simp only [nb, ne_eq] at hc3)
   have hlt : k < 64 := by omega
   have hin : 64 * (p.1 * ne + p.2).toNat + k < l.length := by omega
   obtain ⟨x, hx⟩ : ∃ x, l[64 * (p.1 * ne + p.2).toNat + k]? = some x := ⟨_, List.getElem?_eq_getElem hin⟩
   have hx1 := hw x (List.mem_of_getElem? hx)
   have hxv : ((chK l (p.1 * ne + p.2).toNat).map vI)[k]? = some (vI x) := vI_at (by rw [chK_at hlt]; exact hx)
   have hcast : ((64 * (p.1 * ne + p.2).toNat + k : Nat) : Int) = off5 ne p.1 p.2 + (k : Int) := by omega
   have hs1 : (((chK l (p.1 * ne + p.2).toNat).map vI).take k).map iC ++ [iC (vI x)] = (((chK l (p.1 * ne + p.2).toNat).map vI).take (k + 1)).map iC := by rw [List.take_succ_eq_append_getElem (by omega), (List.getElem?_eq_some_iff.1 hxv).2, List.map_append]; rfl
   have htl : (((chK l (p.1 * ne + p.2).toNat).map vI).take k).length ≤ 64 := by rw [List.length_take]; omega
   refine awp_skip ?_
   change Awp _ _ _ _ _
   refine awp_seq ?_
   refine awp_block ?_
   refine awp_region 15 mixed (by kernel_rfl) ?_
   refine rg_q (q_move (x := .rs _) rfl) (rg_q (q_fieldAddr fld31_1 rfl) (rg_q (q_load sz29 rfl rfl) ?_))
   refine rg_q (q_loadA (ds := [_, _]) sz31 rfl rfl rfl) ?_
   refine rg_q (q_indexAddr_ar ar63 rfl rfl (by omega) (by omega)) ?_
   refine rg_q (q_load sz3 rfl rfl) ?_
   refine rg_q (q_indexAddr_ar ar63 rfl rfl (by omega) (by omega)) ?_
   refine rg_q (q_load sz3 rfl rfl) ?_
   refine rg_q (q_call en241 (.cons rfl (.cons rfl (.cons rfl .nil))) rfl (at5_p ne l p hn p1 p2)) ?_
   refine rg_q (q_m rfl) ?_
   refine rg_q (q_add rfl rfl (In64.mk (by omega) (by omega))) ?_
   refine rg_q (q_indexAddr sl29 rfl rfl (by omega) (map_at (k := 64 * (p.1 * ne + p.2).toNat + k) (by omega) hx)) ?_
   refine rg_q (q_load sz117 rfl rfl) ?_
   refine rg_q (q_convfi flt117 int3 rfl hx1.int) ?_
   refine rg_q (q_buildSlice sl77 zr3 rfl rfl (by decide) (.cons rfl (by exact .inl rfl) .nil) ⟨rfl, rfl, trivial⟩ rfl (by decide) rfl) ?_
   refine rg_nil ?_
   refine aops_append sl77 zr3 by3 rfl (by decide) rfl rfl rfl rfl (by (try simp only [List.length_map, List.length_append, List.length_cons, List.length_nil]); omega) (by (try simp only [List.length_map, List.length_append, List.length_cons, List.length_nil]); omega) rfl rfl ?_
   refine aops_q rfl (q_assign (x := .rs _) rfl) ?_
   refine aops_nil ?_
   change Awp _ _ _ _ _
   refine awp_region 3 mixed (by kernel_rfl) ?_
   refine rg_q (q_m rfl) ?_
   refine rg_q (q_add rfl rfl (In64.mk (by omega) (by omega))) ?_
   refine rg_q (q_a rfl) ?_
   refine rn ?_
   refine ⟨k + 1, by omega, by omega, ?_⟩
   exact le_head (ms := [5]) (by repeat (first | exact Out.head rfl rfl | (refine Out.put ?_ rfl) | (refine Out.site ?_ rfl) | (refine Out.killS ?_ rfl))) ⟨(by rfl), (by rfl), trivial⟩ ⟨(by (show Site.row _ _ _ = Site.row _ _ _; rw [← hs1]; rfl)), trivial⟩ rfl rfl rfl rfl
  ·
   (try simp only [nb, ne_eq] at hc3)
   have hk64 : k = 64 := by omega
   subst hk64
   rw [List.take_of_length_le (by omega)]
   refine awp_exit ?_
   change Awp _ _ _ _ _
   refine awp_seq ?_
   refine awp_region 2 mixed (by kernel_rfl) ?_
   refine rg_q (q_move (x := .rs _) rfl) ?_
   refine rg_q (q_callF en242 (.cons (by exact .rs rfl) .nil) rfl (trace5_p ((chK l (p.1 * ne + p.2).toNat).map vI) hV) (by exact flat5 ((chK l (p.1 * ne + p.2).toNat).map vI))) ?_
   refine rg_nil ?_
   refine aops_store (cs' := ((chK l (p.1 * ne + p.2).toNat).map vI).map fv) sz236 rfl rfl (by exact .inr ⟨_, rfl⟩) (by show (((chK l (p.1 * ne + p.2).toNat).map vI).map fv).length = 64; rw [List.length_map]; exact hV) rfl (Nat.le_of_ble_eq_true rfl) (setCs_all (by show (((chK l (p.1 * ne + p.2).toNat).map vI).map fv).length = 64; rw [List.length_map]; exact hV)) ?_
   refine aops_nil ?_
   change Awp _ _ _ _ _
   refine awp_ret ?_
   refine ⟨_, (.cons (.cellA rfl rfl sz236 (by show (((chK l (p.1 * ne + p.2).toNat).map vI).map fv).length = _; rw [List.length_map]; exact hV)) .nil), ?_⟩
   rfl
set_option maxRecDepth 100000 in
theorem ints64_p (V : List Int) (hV : V.length = 64) (hb : ∀ v ∈ V, -2047 ≤ v ∧ v ≤ 2047) : PC Tryz.prog 240 [.agg (V.map fv)] (.sl 1 (V.map iC)) := by
 refine pc_of_awpN Tryz.func240 rfl Tryz.ntmps240 (rs := [.tmp 2]) Tryz.results240 (by simp) fun w0 hmine hrnd hpn => ?_
 refine awp_seq ?_
 refine awp_region 2 mixed (by kernel_rfl) ?_
 refine rg_q (q_box rfl (by exact .inr ⟨_, rfl⟩)) ?_
 refine rg_q (q_assign (x := .d (.sl _ _)) rfl) ?_
 refine rs (awp_region 1 mixed (by kernel_rfl) ?_)
 refine rg_q (q_assign_nil) ?_
 refine rn ?_
 change Awp _ _ _ _ _
 refine Awp.le (le_own (k := 3) (e := 3) (sz := 1) rfl rfl) ?_
 refine awp_seq ?_
 refine awp_seq ?_
 refine awp_region 1 mixed (by kernel_rfl) ?_
 refine rg_q (q_a rfl) ?_
 refine rn ?_
 change Awp _ _ _ _ _
 refine awp_block ?_
 refine awp_loopH [3, 4, 5, 6, 7, 8, 9, 10, 11, 12, 13, 14, 15] [3] (α := Nat) (fun k => [(4, T.i (k : Int)), (3, .rs 3)]) (fun k => [(3, .row 3 1 ((V.take k).map iC))]) (fun k => k ≤ 64) (fun k => 64 - k) 0 (Nat.zero_le _) ?_ ?_
 · exact le_head (ms := [3]) (by repeat (exact Out.refl _)) ⟨(by rfl), (by rfl), trivial⟩ ⟨(by rfl), trivial⟩ rfl rfl rfl rfl
 ·
  intro k hk
  refine awp_seq ?_
  refine awp_seq ?_
  refine awp_region 2 mixed (by kernel_rfl) ?_
  refine rg_q (q_m rfl) (rg_q (q_lss rfl rfl) ?_)
  refine rn ?_
  change Awp _ _ _ _ _
  refine awp_cond rfl (fun hc3 => ?_) (fun hc3 => ?_)
  ·
   (try simp only [nb, ne_eq] at hc3)
   have hlt : k < 64 := by omega
   obtain ⟨x, hx⟩ : ∃ x, V[k]? = some x := ⟨_, List.getElem?_eq_getElem (by omega)⟩
   obtain ⟨hx1, hx2⟩ := hb x (List.mem_of_getElem? hx)
   have hld := fv_at hx
   have hs1 : (V.take k).map iC ++ [iC x] = (V.take (k + 1)).map iC := by rw [List.take_succ_eq_append_getElem (by omega), (List.getElem?_eq_some_iff.1 hx).2, List.map_append]; rfl
   have htl : (V.take k).length ≤ 64 := by rw [List.length_take]; omega
   refine awp_skip ?_
   change Awp _ _ _ _ _
   refine awp_seq ?_
   refine awp_block ?_
   refine awp_region 6 mixed (by kernel_rfl) ?_
   refine rg_q (q_move (x := .rs _) rfl) (rg_q (q_m rfl) ?_)
   refine rg_q (q_indexAddr_ar ar236 rfl rfl (by omega) (by omega)) ?_
   refine rg_q (q_load sz117 rfl hld) ?_
   refine rg_q (q_convfi flt117 int3 rfl (f32_int (f32_of (by omega) (by omega)))) ?_
   refine rg_q (q_buildSlice sl77 zr3 rfl rfl (by decide) (.cons rfl (by exact .inl rfl) .nil) ⟨rfl, rfl, trivial⟩ rfl (by decide) rfl) ?_
   refine rg_nil ?_
   refine aops_append sl77 zr3 by3 rfl (by decide) rfl rfl rfl rfl (by (try simp only [List.length_map, List.length_append, List.length_cons, List.length_nil]); omega) (by (try simp only [List.length_map, List.length_append, List.length_cons, List.length_nil]); omega) rfl rfl ?_
   refine aops_q rfl (q_assign (x := .rs _) rfl) ?_
   refine aops_nil ?_
   change Awp _ _ _ _ _
   refine awp_region 3 mixed (by kernel_rfl) ?_
   refine rg_q (q_m rfl) ?_
   refine rg_q (q_add rfl rfl (In64.mk (by omega) (by omega))) ?_
   refine rg_q (q_a rfl) ?_
   refine rn ?_
   refine ⟨k + 1, by omega, by omega, ?_⟩
   exact le_head (ms := [3]) (by repeat (first | exact Out.head rfl rfl | (refine Out.put ?_ rfl) | (refine Out.site ?_ rfl) | (refine Out.killS ?_ rfl))) ⟨(by rfl), (by rfl), trivial⟩ ⟨(by (show Site.row _ _ _ = Site.row _ _ _; rw [← hs1]; rfl)), trivial⟩ rfl rfl rfl rfl
  ·
   (try simp only [nb, ne_eq] at hc3)
   have hk64 : k = 64 := by omega
   subst hk64
   rw [List.take_of_length_le (by omega)]
   refine awp_exit ?_
   change Awp _ _ _ _ _
   refine awp_seq ?_
   refine awp_region 2 mixed (by kernel_rfl) ?_
   refine rg_q (q_move (x := .rs _) rfl) (rg_q (q_assign (x := .rs _) rfl) ?_)
   refine rn ?_
   change Awp _ _ _ _ _
   refine awp_ret ?_
   refine ⟨_, (.cons (.tmp (by exact .rs rfl)) .nil), ?_⟩
   rfl

def prtF (V : List Int) (k : Nat) : List (Int × Int) := (List.range k).map fun i => (reI V i, imI V i)
theorem prtF_succ (V : List Int) (k : Nat) : prtF V (k + 1) = prtF V k ++ [(reI V k, imI V k)] := by unfold prtF; rw [List.range_succ, List.map_append]; rfl
theorem prtF_len (V : List Int) (k : Nat) : (prtF V k).length = k := by unfold prtF; rw [List.length_map, List.length_range]
theorem prtF_at {V : List Int} {n k : Nat} (h : k < n) : (prtF V n)[k]? = some (reI V k, imI V k) := by unfold prtF; rw [List.getElem?_map, List.getElem?_range h]; rfl
set_option maxRecDepth 100000 in
theorem parts5_p (V : List Int) (hV : V.length = 64) (hb : ∀ v ∈ V, -2047 ≤ v ∧ v ≤ 2047) : PC Tryz.prog 176 [.agg (V.map fv)] (.sl 2 ((prtF V 61).map shC)) := by
 refine pc_of_awpN Tryz.func176 rfl Tryz.ntmps176 (rs := [.tmp 2]) Tryz.results176 (by simp) fun w0 hmine hrnd hpn => ?_
 refine awp_seq ?_
 refine awp_region 2 mixed (by kernel_rfl) ?_
 refine rg_q (q_box rfl (by exact .inr ⟨_, rfl⟩)) ?_
 refine rg_q (q_assign (x := .d (.sl _ _)) rfl) ?_
 refine rs (awp_region 3 mixed (by kernel_rfl) ?_)
 refine rg_q (q_loadA (ds := V.map fv) sz236 rfl (by rw [List.drop_zero]; exact List.take_of_length_le (by show (V.map fv).length ≤ 64; rw [List.length_map]; omega)) (by rw [List.length_map]; exact hV)) ?_
 refine rg_q (q_call en240 (.cons rfl .nil) rfl (ints64_p V hV hb)) ?_
 refine rg_q (q_assign (x := .d (.sl _ _)) rfl) ?_
 refine rs (awp_region 1 mixed (by kernel_rfl) ?_)
 refine rg_q (q_assign_nil) ?_
 refine rn ?_
 change Awp _ _ _ _ _
 refine Awp.le (le_own (k := 4) (e := 63) (sz := 2) rfl rfl) ?_
 refine awp_seq ?_
 refine awp_seq ?_
 refine awp_region 1 mixed (by kernel_rfl) ?_
 refine rg_q (q_a rfl) ?_
 refine rn ?_
 change Awp _ _ _ _ _
 refine awp_block ?_
 refine awp_loopH [4, 5, 8, 9, 10, 11, 12, 13, 14, 15, 16, 17, 18, 19, 20, 21, 22, 23, 24, 25, 26, 27, 28, 29, 30, 31, 32, 33, 34, 35, 36] [4] (α := Nat) (fun k => [(5, T.i (k : Int)), (4, .rs 4)]) (fun k => [(4, .row 63 2 ((prtF V k).map shC))]) (fun k => k ≤ 61) (fun k => 61 - k) 0 (Nat.zero_le _) ?_ ?_
 · exact le_head (ms := [4]) (by repeat (exact Out.refl _)) ⟨(by rfl), (by rfl), trivial⟩ ⟨(by rfl), trivial⟩ rfl rfl rfl rfl
 ·
  intro k hk
  refine awp_seq ?_
  refine awp_seq ?_
  refine awp_region 2 mixed (by kernel_rfl) ?_
  refine rg_q (q_m rfl) (rg_q (q_lss rfl rfl) ?_)
  refine rn ?_
  change Awp _ _ _ _ _
  refine awp_cond rfl (fun hc4 => ?_) (fun hc4 => ?_)
  ·
   (try simp only [nb, ne_eq] at hc4)
   have hlt : k < 61 := by omega
   have h0 := sAt_at hV (show k < 64 by omega)
   have h1 := sAt_at hV (show k + 1 < 64 by omega)
   have h2 := sAt_at hV (show k + 2 < 64 by omega)
   have h3 := sAt_at hV (show k + 3 < 64 by omega)
   have b0 := sAt_in hb k
   have b1 := sAt_in hb (k + 1)
   have b2 := sAt_in hb (k + 2)
   have b3 := sAt_in hb (k + 3)
   have hml : (V.map iC).length = V.length := List.length_map _
   have hs1 : (prtF V k).map shC ++ [shC (reI V k, imI V k)] = (prtF V (k + 1)).map shC := by rw [prtF_succ, List.map_append]; rfl
   have htl := prtF_len V k
   refine awp_skip ?_
   change Awp _ _ _ _ _
   refine awp_seq ?_
   refine awp_block ?_
   refine awp_region 24 mixed (by kernel_rfl) ?_
   refine rg_q (q_move (x := .rs _) rfl) (rg_q (q_move (x := .d (.sl _ _)) rfl) (rg_q (q_m rfl) ?_))
   refine rg_q (q_indexAddr sl77 rfl rfl (by omega) (map_at (k := k) (by omega) h0)) ?_
   refine rg_q (q_load sz3 rfl rfl) (rg_q (q_move (x := .d (.sl _ _)) rfl) (rg_q (q_m rfl) ?_))
   refine rg_q (q_add rfl rfl (In64.mk (by omega) (by omega))) ?_
   refine rg_q (q_indexAddr sl77 rfl rfl (by omega) (map_at (k := k + 2) (by omega) h2)) ?_
   refine rg_q (q_load sz3 rfl rfl) ?_
   refine rg_q (q_sub rfl rfl (In64.mk (by omega) (by omega))) ?_
   refine rg_q (q_move (x := .d (.sl _ _)) rfl) (rg_q (q_m rfl) ?_)
   refine rg_q (q_add rfl rfl (In64.mk (by omega) (by omega))) ?_
   refine rg_q (q_indexAddr sl77 rfl rfl (by omega) (map_at (k := k + 1) (by omega) h1)) ?_
   refine rg_q (q_load sz3 rfl rfl) (rg_q (q_move (x := .d (.sl _ _)) rfl) (rg_q (q_m rfl) ?_))
   refine rg_q (q_add rfl rfl (In64.mk (by omega) (by omega))) ?_
   refine rg_q (q_indexAddr sl77 rfl rfl (by omega) (map_at (k := k + 3) (by omega) h3)) ?_
   refine rg_q (q_load sz3 rfl rfl) ?_
   refine rg_q (q_sub rfl rfl (In64.mk (by omega) (by omega))) ?_
   refine rg_q (q_buildA (cs := [_, _]) ar63 zr63 rfl (.cons rfl (by exact .inl rfl) (.cons rfl (by exact .inl rfl) .nil)) ⟨⟨rfl, by decide⟩, ⟨rfl, by decide⟩, trivial⟩ rfl) ?_
   refine rg_q (q_buildSlice sl140 zr63 rfl rfl (by decide) (.cons rfl (by exact .inr ⟨_, rfl⟩) .nil) ⟨rfl, rfl, trivial⟩ rfl (by decide) rfl) ?_
   refine rg_nil ?_
   refine aops_append sl140 zr63 by63 rfl (by decide) rfl rfl rfl rfl (by (try simp only [List.length_map, List.length_append, List.length_cons, List.length_nil]); omega) (by (try simp only [List.length_map, List.length_append, List.length_cons, List.length_nil]); omega) rfl rfl ?_
   refine aops_q rfl (q_assign (x := .rs _) rfl) ?_
   refine aops_nil ?_
   change Awp _ _ _ _ _
   refine awp_region 3 mixed (by kernel_rfl) ?_
   refine rg_q (q_m rfl) ?_
   refine rg_q (q_add rfl rfl (In64.mk (by omega) (by omega))) ?_
   refine rg_q (q_a rfl) ?_
   refine rn ?_
   refine ⟨k + 1, by omega, by omega, ?_⟩
   exact le_head (ms := [4]) (by repeat (first | exact Out.head rfl rfl | (refine Out.put ?_ rfl) | (refine Out.site ?_ rfl) | (refine Out.killS ?_ rfl))) ⟨(by rfl), (by rfl), trivial⟩ ⟨(by (show Site.row _ _ _ = Site.row _ _ _; rw [← hs1]; rfl)), trivial⟩ rfl rfl rfl rfl
  ·
   (try simp only [nb, ne_eq] at hc4)
   have hk64 : k = 61 := by omega
   subst hk64
   refine awp_exit ?_
   change Awp _ _ _ _ _
   refine awp_seq ?_
   refine awp_region 2 mixed (by kernel_rfl) ?_
   refine rg_q (q_move (x := .rs _) rfl) (rg_q (q_assign (x := .rs _) rfl) ?_)
   refine rn ?_
   change Awp _ _ _ _ _
   refine awp_ret ?_
   refine ⟨_, (.cons (.tmp (by exact .rs rfl)) .nil), ?_⟩
   rfl

theorem smpS_len {t : Tsk} (h : TskOk t) {y : Int × Int} (hp : (0 ≤ y.1 ∧ y.1 < t.ne) ∧ 0 ≤ y.2 ∧ y.2 < t.ne) : (smpS t y).length = 64 := by
  obtain ⟨h1, h2, h3⟩ := tsk_len h
  obtain ⟨⟨q1, q2⟩, q3⟩ := pr_idx h (j := y.2.toNat) hp.1.1 hp.1.2 (by omega)
  unfold smpS
  rw [List.length_map]
  exact chK_len h1 (by omega)
theorem smpS_in {t : Tsk} (h : TskOk t) (y : Int × Int) : ∀ v ∈ smpS t y, -2047 ≤ v ∧ v ≤ 2047 := vI_in (chK_wh h.wh _)
set_option maxRecDepth 100000 in
theorem rpartsOf_p (t : Tsk) (y : Int × Int) (h : TskOk t) (hp : (0 ≤ y.1 ∧ y.1 < t.ne) ∧ 0 ≤ y.2 ∧ y.2 < t.ne) : PC Tryz.prog 107 [.agg (tskC t), .agg (shC y)] (.sl 2 ((prtF (smpS t y) 61).map shC)) := by
 refine pc_of_awpN Tryz.func107 rfl Tryz.ntmps107 (rs := [.tmp 4]) Tryz.results107 (by simp) fun w0 hmine hrnd hpn => ?_
 refine awp_seq ?_
 refine awp_region 3 mixed (by kernel_rfl) ?_
 refine rg_q (q_box rfl (by exact .inr ⟨_, rfl⟩)) ?_
 refine rg_q (q_box rfl (by exact .inr ⟨_, rfl⟩)) ?_
 refine rg_q (q_assign (x := .d (.sl _ _)) rfl) ?_
 refine rs (awp_region 6 mixed (by kernel_rfl) ?_)
 refine rg_q (q_fieldAddr fld37_1 rfl) ?_
 refine rg_q (q_loadA (ds := [_, _]) sz31 rfl rfl rfl) ?_
 refine rg_q (q_loadA (ds := [_, _]) sz63 rfl rfl rfl) ?_
 refine rg_q (q_call en177 (.cons rfl (.cons rfl .nil)) rfl (rtraceOf5_p t.ne t.bf y h.n2 hp.1 hp.2 h.wh h.nl)) ?_
 refine rg_q (q_call en176 (.cons rfl .nil) rfl (parts5_p (smpS t y) (smpS_len h hp) (smpS_in h y))) ?_
 refine rg_q (q_assign (x := .d (.sl _ _)) rfl) ?_
 refine rn ?_
 change Awp _ _ _ _ _
 refine awp_ret ?_
 refine ⟨_, (.cons (.tmp (by exact .d _)) .nil), ?_⟩
 rfl

def nuR (t : Tsk) (c : Int) (y : Int × Int) : Int × Int := if inR 0 (smpI t.ar (spI t.g c) y) 60 = true then (smpI t.ar (spI t.g c) y, 0) else (0, 12)
theorem cell_pr {t : Tsk} (h : TskOk t) {c : Int} {pr : Int × Int} (hc : clE t.g c = 0) (hp : (0 ≤ pr.1 ∧ pr.1 < t.ne) ∧ 0 ≤ pr.2 ∧ pr.2 < t.ne) : ArrOk t.ar ∧ ((0 ≤ pr.1 ∧ pr.1 < t.ar.el.length) ∧ 0 ≤ pr.2 ∧ pr.2 < t.ar.el.length) ∧ spotE (spI t.g c) = 0 ∧ plateE (spI t.g c).2 t.ar.ou.t = 0 := by
  obtain ⟨c1, c2⟩ := clE_ok hc
  obtain ⟨i1, i2, i3, i4⟩ := sp_in h c1 c2
  obtain ⟨hao, _⟩ := ckArr_ok h.ck
  have hel := h.el
  exact ⟨hao, by omega, spot_ok.2 ⟨i1, i2⟩, plate_ok.2 ⟨i3, i4⟩⟩
set_option maxRecDepth 100000 in
theorem rnumberAt_p (t : Tsk) (c : Int) (y : Int × Int) (h : TskOk t) (hc : clE t.g c = 0) (hp : (0 ≤ y.1 ∧ y.1 < t.ne) ∧ 0 ≤ y.2 ∧ y.2 < t.ne) : PC Tryz.prog 35 [.agg (tskC t), .v (.int .i64 (c)), .agg (shC y)] (.tup [.v (.int .i64 ((nuR t c y).1)), .v (.int .i64 ((nuR t c y).2))]) := by
 obtain ⟨hg, _, _⟩ := ckG_ok h.gr
 obtain ⟨c1, c2⟩ := clE_ok hc
 have hci := cells_in hg
 obtain ⟨hok, hpk, hs, hpl⟩ := cell_pr h hc hp
 refine pc_of_awpN Tryz.func35 rfl Tryz.ntmps35 (rs := [.tmp 6, .tmp 7]) Tryz.results35 (by simp) fun w0 hmine hrnd hpn => ?_
 refine awp_seq ?_
 refine awp_region 4 mixed (by kernel_rfl) ?_
 refine rg_q (q_box rfl (by exact .inr ⟨_, rfl⟩)) ?_
 refine rg_q (q_box rfl (by exact .inr ⟨_, rfl⟩)) ?_
 refine rg_q (q_a rfl) (rg_q (q_a rfl) ?_)
 refine rs (awp_region 9 mixed (by kernel_rfl) ?_)
 refine rg_q (q_fieldAddr fld37_0 rfl) ?_
 refine rg_q (q_loadA (ds := [_, _, _, _, _, _, _, _, _, _, _]) sz28 rfl rfl rfl) ?_
 refine rg_q (q_fieldAddr fld37_2 rfl) ?_
 refine rg_q (q_loadA (ds := [_, _, _, _, _]) sz35 rfl rfl rfl) ?_
 refine rg_q (q_m rfl) ?_
 refine rg_q (q_call en76 (.cons rfl (.cons rfl .nil)) rfl (rspot_p t.g c hg c1 (by omega))) ?_
 refine rg_q (q_loadA (ds := [_, _]) sz63 rfl rfl rfl) ?_
 refine rg_q (q_call en111 (.cons rfl (.cons rfl (.cons rfl .nil))) rfl (rsampleOf_p t.ar (spI t.g c) y hok hpk hs hpl)) ?_
 refine rg_q (q_a rfl) ?_
 refine rn ?_
 change Awp _ _ _ _ _
 refine awp_seq ?_
 refine awp_seq ?_
 refine awp_region 3 mixed (by kernel_rfl) ?_
 refine rg_q (q_m rfl) ?_
 refine rg_q (q_call en31 (.cons rfl (.cons rfl (.cons rfl .nil))) rfl (within4_p _ _ _)) ?_
 refine rg_q (q_not rfl) ?_
 refine rn ?_
 change Awp _ _ _ _ _
 refine awp_cond rfl (fun hc2 => ?_) (fun hc2 => ?_)
 ·
  (try simp only [nb, ne_eq] at hc2)
  have hz : nuR t c y = (0, 12) := by unfold nuR; rw [if_neg (by rw [hc2]; decide)]
  refine awp_seq ?_
  refine awp_region 2 mixed (by kernel_rfl) ?_
  refine rg_q (q_a rfl) (rg_q (q_a rfl) ?_)
  refine rn ?_
  change Awp _ _ _ _ _
  refine awp_ret ?_
  refine ⟨_, (.cons (.tmp (by exact .d _)) (.cons (.tmp (by exact .d _)) .nil)), ?_⟩
  rw [hz]; rfl
 ·
  (try simp only [nb, ne_eq] at hc2)
  have hz : nuR t c y = (smpI t.ar (spI t.g c) y, 0) := by unfold nuR; rw [if_pos hc2]
  refine awp_skip ?_
  change Awp _ _ _ _ _
  refine awp_seq ?_
  refine awp_region 3 mixed (by kernel_rfl) ?_
  refine rg_q (q_m rfl) (rg_q (q_a rfl) (rg_q (q_a rfl) ?_))
  refine rn ?_
  change Awp _ _ _ _ _
  refine awp_ret ?_
  refine ⟨_, (.cons (.tmp (by exact .d _)) (.cons (.tmp (by exact .d _)) .nil)), ?_⟩
  rw [hz]; rfl
set_option maxRecDepth 100000 in
theorem rall_p (n : Nat) (hn : n ≤ 1000) : PC Tryz.prog 55 [.v (.int .i64 ((n : Int)))] (.sl 1 ((allL n).map iC)) := by
 refine pc_of_awpN Tryz.func55 rfl Tryz.ntmps55 (rs := [.tmp 2]) Tryz.results55 (by simp) fun w0 hmine hrnd hpn => ?_
 refine awp_seq ?_
 refine awp_region 1 mixed (by kernel_rfl) ?_
 refine rg_q (q_assign (x := .d (.sl _ _)) rfl) ?_
 refine rs (awp_region 1 mixed (by kernel_rfl) ?_)
 refine rg_q (q_assign_nil) ?_
 refine rn ?_
 change Awp _ _ _ _ _
 refine Awp.le (le_own (k := 3) (e := 3) (sz := 1) rfl rfl) ?_
 refine awp_seq ?_
 refine awp_seq ?_
 refine awp_region 1 mixed (by kernel_rfl) ?_
 refine rg_q (q_a rfl) ?_
 refine rn ?_
 change Awp _ _ _ _ _
 refine awp_block ?_
 refine awp_loopH [3, 4, 5, 6, 7, 8, 9, 10, 11, 12, 13] [3] (α := Nat) (fun k => [(4, T.i (k : Int)), (3, .rs 3)]) (fun k => [(3, .row 3 1 ((allL k).map iC))]) (fun k => k ≤ n) (fun k => n - k) 0 (Nat.zero_le _) ?_ ?_
 · exact le_head (ms := [3]) (by repeat (exact Out.refl _)) ⟨(by rfl), (by rfl), trivial⟩ ⟨(by rfl), trivial⟩ rfl rfl rfl rfl
 ·
  intro k hk
  have hal := allL_len k
  refine awp_seq ?_
  refine awp_seq ?_
  refine awp_region 3 mixed (by kernel_rfl) ?_
  refine rg_q (q_m rfl) (rg_q (q_m rfl) (rg_q (q_lss rfl rfl) ?_))
  refine rn ?_
  change Awp _ _ _ _ _
  refine awp_cond rfl (fun hc3 => ?_) (fun hc3 => ?_)
  ·
   (try simp only [nb, ne_eq] at hc3)
   have hsk : (allL (k + 1)).map iC = (allL k).map iC ++ [[.v (.int .i64 (k : Int))]] := by rw [allL_succ, List.map_append]; rfl
   refine awp_skip ?_
   change Awp _ _ _ _ _
   refine awp_seq ?_
   refine awp_block ?_
   refine awp_region 3 mixed (by kernel_rfl) ?_
   refine rg_q (q_move (x := .rs _) rfl) (rg_q (q_m rfl) ?_)
   refine rg_q (q_buildSlice sl77 zr3 rfl rfl (by decide) (.cons rfl (by exact .inl rfl) .nil) ⟨rfl, rfl, trivial⟩ rfl (by decide) rfl) ?_
   refine rg_nil ?_
   refine aops_append sl77 zr3 by3 rfl (by decide) rfl rfl rfl rfl (by (try simp only [List.length_map, List.length_append, List.length_cons, List.length_nil]); omega) (by (try simp only [List.length_map, List.length_append, List.length_cons, List.length_nil]); omega) rfl rfl ?_
   refine aops_q rfl (q_assign (x := .rs _) rfl) ?_
   refine aops_nil ?_
   change Awp _ _ _ _ _
   refine awp_region 3 mixed (by kernel_rfl) ?_
   refine rg_q (q_m rfl) ?_
   refine rg_q (q_add rfl rfl (In64.mk (by omega) (by omega))) ?_
   refine rg_q (q_a rfl) ?_
   refine rn ?_
   refine ⟨k + 1, by omega, by omega, ?_⟩
   exact le_head (ms := [3]) (by repeat (first | exact Out.head rfl rfl | (refine Out.put ?_ rfl) | (refine Out.site ?_ rfl) | (refine Out.killS ?_ rfl))) ⟨(by rfl), (by rfl), trivial⟩ ⟨(by ((show Site.row 3 1 _ = Site.row 3 1 _; rw [hsk]; rfl))), trivial⟩ rfl rfl rfl rfl
  ·
   (try simp only [nb, ne_eq] at hc3)
   have hkn : k = n := by omega
   subst hkn
   refine awp_exit ?_
   change Awp _ _ _ _ _
   refine awp_seq ?_
   refine awp_region 2 mixed (by kernel_rfl) ?_
   refine rg_q (q_move (x := .rs _) rfl) (rg_q (q_assign (x := .rs _) rfl) ?_)
   refine rn ?_
   change Awp _ _ _ _ _
   refine awp_ret ?_
   refine ⟨_, (.cons (.tmp (by exact .rs rfl)) .nil), ?_⟩
   rfl

def prB (fs dd : List Int) (y : Int × Int) : Bool := decide (y.1 ∈ fs) && !decide (y.1 ∈ dd) && !decide (y.2 ∈ dd)
def pqD (fs dd : List Int) (n i : Nat) : List (Int × Int) := ((List.range i).flatMap fun u : Nat => pqR (u : Int) n).filter (prB fs dd)
theorem pqD_succ (fs dd : List Int) (n i : Nat) : pqD fs dd n (i + 1) = pqD fs dd n i ++ (pqR (i : Int) n).filter (prB fs dd) := by
  unfold pqD
  rw [List.range_succ, List.flatMap_append, List.filter_append]; simp
theorem prR_succ (fs dd : List Int) (x : Int) (j : Nat) : (pqR x (j + 1)).filter (prB fs dd) = (pqR x j).filter (prB fs dd) ++ (if prB fs dd (x, (j : Int)) = true then [(x, (j : Int))] else []) := by
  rw [pqR_succ, List.filter_append]
  congr 1
  by_cases h : prB fs dd (x, (j : Int)) = true
  · rw [if_pos h]; simp [h]
  · rw [if_neg h]; simp [h]
theorem pqR_len (x : Int) (j : Nat) : (pqR x j).length = j := by unfold pqR; rw [List.length_map, List.length_range]
theorem pqD_len (fs dd : List Int) (n : Nat) : ∀ i, (pqD fs dd n i).length ≤ i * n
  | 0 => Nat.zero_le _
  | i + 1 => by
    have ih := pqD_len fs dd n i
    have h := List.length_filter_le (prB fs dd) (pqR (i : Int) n)
    rw [pqR_len] at h
    rw [pqD_succ, List.length_append, Nat.succ_mul]; omega
set_option maxRecDepth 100000 in
theorem rpairs_p (n : Nat) (hn : n ≤ 16) (fs dd : List Int) : PC Tryz.prog 135 [.v (.int .i64 ((n : Int))), .sl 1 (fs.map iC), .sl 1 (dd.map iC)] (.sl 2 ((pqD fs dd n n).map shC)) := by
 refine pc_of_awpN Tryz.func135 rfl Tryz.ntmps135 (rs := [.tmp 6]) Tryz.results135 (by simp) fun w0 hmine hrnd hpn => ?_
 refine awp_seq ?_
 refine awp_region 1 mixed (by kernel_rfl) ?_
 refine rg_q (q_assign (x := .d (.sl _ _)) rfl) ?_
 refine rs (awp_region 1 mixed (by kernel_rfl) ?_)
 refine rg_q (q_assign_nil) ?_
 refine rn ?_
 change Awp _ _ _ _ _
 refine Awp.le (le_own (k := 7) (e := 63) (sz := 2) rfl rfl) ?_
 refine awp_seq ?_
 refine awp_seq ?_
 refine awp_region 1 mixed (by kernel_rfl) ?_
 refine rg_q (q_a rfl) ?_
 refine rn ?_
 change Awp _ _ _ _ _
 refine awp_block ?_
 refine awp_loopH [7, 8, 9, 10, 11, 12, 13, 14, 15, 16, 17, 18, 19, 20, 21, 22, 23, 24, 25, 26, 27, 28, 29, 30, 31, 32, 33, 34, 35, 36, 37, 38, 39, 40] [7] (α := Nat) (fun i => [(8, T.i (i : Int)), (7, .rs 7)]) (fun i => [(7, .row 63 2 ((pqD fs dd n i).map shC))]) (fun i => i ≤ n) (fun i => n - i) 0 (Nat.zero_le _) ?_ ?_
 · exact le_head (ms := [7]) (by repeat (exact Out.refl _)) ⟨(by rfl), (by rfl), trivial⟩ ⟨(by rfl), trivial⟩ rfl rfl rfl rfl
 ·
  intro i hi
  refine awp_seq ?_
  refine awp_seq ?_
  refine awp_region 3 mixed (by kernel_rfl) ?_
  refine rg_q (q_m rfl) (rg_q (q_m rfl) (rg_q (q_lss rfl rfl) ?_))
  refine rn ?_
  change Awp _ _ _ _ _
  refine awp_cond rfl (fun hc3 => ?_) (fun hc3 => ?_)
  ·
   (try simp only [nb, ne_eq] at hc3)
   have hlt : i < n := by omega
   refine awp_skip ?_
   change Awp _ _ _ _ _
   refine awp_seq ?_
   refine awp_block ?_
   refine awp_seq ?_
   refine awp_region 1 mixed (by kernel_rfl) ?_
   refine rg_q (q_a rfl) ?_
   refine rn ?_
   change Awp _ _ _ _ _
   refine awp_block ?_
   refine awp_loopH [7, 9, 15, 16, 17, 18, 19, 20, 21, 22, 23, 24, 25, 26, 27, 28, 29, 30, 31, 32, 33, 34, 35, 36, 37, 38, 39, 40] [7] (α := Nat) (fun j => [(9, T.i (j : Int)), (7, .rs 7)]) (fun j => [(7, .row 63 2 ((pqD fs dd n i ++ (pqR (i : Int) j).filter (prB fs dd)).map shC))]) (fun j => j ≤ n) (fun j => n - j) 0 (Nat.zero_le _) ?_ ?_
   · exact le_head (ms := [7]) (by repeat (exact Out.refl _)) ⟨(by rfl), (by rfl), trivial⟩ ⟨(by ((show Site.row _ _ _ = Site.row _ _ _; (simp [pqR]; done)))), trivial⟩ rfl rfl rfl rfl
   ·
    intro j hj
    have hl1 := pqD_len fs dd n i
    have hl2 := List.length_filter_le (prB fs dd) (pqR (i : Int) j)
    rw [pqR_len] at hl2
    have hl3 := Nat.mul_le_mul (show i ≤ 16 by omega) hn
    refine awp_seq ?_
    refine awp_seq ?_
    refine awp_region 3 mixed (by kernel_rfl) ?_
    refine rg_q (q_m rfl) (rg_q (q_m rfl) (rg_q (q_lss rfl rfl) ?_))
    refine rn ?_
    change Awp _ _ _ _ _
    refine awp_cond rfl (fun hc6 => ?_) (fun hc6 => ?_)
    ·
     (try simp only [nb, ne_eq] at hc6)
     have hlj : j < n := by omega
     refine awp_skip ?_
     change Awp _ _ _ _ _
     refine awp_seq ?_
     refine awp_block ?_
     refine awp_seq ?_
     refine awp_region 15 mixed (by kernel_rfl) ?_
     refine rg_q (q_move (x := .d (.sl _ _)) rfl) (rg_q (q_m rfl) ?_)
     refine rg_q (q_call en134 (.cons rfl (.cons rfl .nil)) rfl (has5_p _ _)) ?_
     refine rg_q (q_m rfl) ?_
     refine rg_g rfl rfl (fun hG => (q_move (x := .d (.sl _ _)) rfl)) ?_
     refine rg_g rfl rfl (fun hG => (q_m rfl)) ?_
     refine rg_g rfl rfl (fun hG => (q_call en134 (.cons rfl (.cons rfl .nil)) rfl (has5_p _ _))) ?_
     refine rg_g rfl rfl (fun hG => (q_not rfl)) ?_
     refine rg_pick rfl rfl rfl rfl rfl rfl ?_
     refine rg_q (q_m rfl) ?_
     refine rg_g rfl rfl (fun hG => (q_move (x := .d (.sl _ _)) rfl)) ?_
     refine rg_g rfl rfl (fun hG => (q_m rfl)) ?_
     refine rg_g rfl rfl (fun hG => (q_call en134 (.cons rfl (.cons rfl .nil)) rfl (has5_p _ _))) ?_
     refine rg_g rfl rfl (fun hG => (q_not rfl)) ?_
     refine rg_pick rfl rfl rfl rfl rfl rfl ?_
     refine rn ?_
     change Awp _ _ _ _ _
     refine awp_cond rfl (fun hc8 => ?_) (fun hc8 => ?_)
     ·
      (try simp only [nb, ne_eq] at hc8)
      have hb : prB fs dd ((i : Int), (j : Int)) = true := by unfold prB; simp [hc8]
      have hsk : (pqD fs dd n i ++ (pqR (i : Int) (j + 1)).filter (prB fs dd)).map shC = (pqD fs dd n i ++ (pqR (i : Int) j).filter (prB fs dd)).map shC ++ [shC ((i : Int), (j : Int))] := by rw [prR_succ, if_pos hb, ← List.append_assoc, List.map_append]; rfl
      refine awp_region 5 mixed (by kernel_rfl) ?_
      refine rg_q (q_move (x := .rs _) rfl) (rg_q (q_m rfl) (rg_q (q_m rfl) ?_))
      refine rg_q (q_buildA (cs := [_, _]) ar63 zr63 rfl (.cons rfl (by exact .inl rfl) (.cons rfl (by exact .inl rfl) .nil)) ⟨⟨rfl, by decide⟩, ⟨rfl, by decide⟩, trivial⟩ rfl) ?_
      refine rg_q (q_buildSlice sl140 zr63 rfl rfl (by decide) (.cons rfl (by exact .inr ⟨_, rfl⟩) .nil) ⟨rfl, rfl, trivial⟩ rfl (by decide) rfl) ?_
      refine rg_nil ?_
      refine aops_append sl140 zr63 by63 rfl (by decide) rfl rfl rfl rfl (by (try simp only [List.length_map, List.length_append, List.length_cons, List.length_nil]); omega) (by (try simp only [List.length_map, List.length_append, List.length_cons, List.length_nil]); omega) rfl rfl ?_
      refine aops_q rfl (q_assign (x := .rs _) rfl) ?_
      refine aops_nil ?_
      change Awp _ _ _ _ _
      refine awp_region 3 mixed (by kernel_rfl) ?_
      refine rg_q (q_m rfl) ?_
      refine rg_q (q_add rfl rfl (In64.mk (by omega) (by omega))) ?_
      refine rg_q (q_a rfl) ?_
      refine rn ?_
      refine ⟨j + 1, by omega, by omega, ?_⟩
      exact le_head (ms := [7]) (by repeat (first | exact Out.head rfl rfl | (refine Out.put ?_ rfl) | (refine Out.site ?_ rfl) | (refine Out.killS ?_ rfl))) ⟨(by rfl), (by rfl), trivial⟩ ⟨(by ((show Site.row _ _ _ = Site.row _ _ _; (rw [hsk]; rfl)))), trivial⟩ rfl rfl rfl rfl
     ·
      (try simp only [nb, ne_eq] at hc8)
      have hb : ¬ prB fs dd ((i : Int), (j : Int)) = true := by
       intro q
       unfold prB at q
       simp at q
       simp_all
      have hsk : (pqD fs dd n i ++ (pqR (i : Int) (j + 1)).filter (prB fs dd)).map shC = (pqD fs dd n i ++ (pqR (i : Int) j).filter (prB fs dd)).map shC := by rw [prR_succ, if_neg hb, List.append_nil]
      refine awp_skip ?_
      change Awp _ _ _ _ _
      refine awp_region 3 mixed (by kernel_rfl) ?_
      refine rg_q (q_m rfl) ?_
      refine rg_q (q_add rfl rfl (In64.mk (by omega) (by omega))) ?_
      refine rg_q (q_a rfl) ?_
      refine rn ?_
      refine ⟨j + 1, by omega, by omega, ?_⟩
      exact le_head (ms := [7]) (by repeat (first | exact Out.head rfl rfl | (refine Out.put ?_ rfl))) ⟨(by rfl), (by rfl), trivial⟩ ⟨(by ((show Site.row _ _ _ = Site.row _ _ _; (rw [hsk]; done)))), trivial⟩ rfl rfl rfl rfl
    ·
     (try simp only [nb, ne_eq] at hc6)
     have hjn : j = n := by omega
     subst hjn
     have hsk : (pqD fs dd j (i + 1)).map shC = (pqD fs dd j i ++ (pqR (i : Int) j).filter (prB fs dd)).map shC := by rw [pqD_succ]
     refine awp_exit ?_
     change Awp _ _ _ _ _
     refine awp_region 3 mixed (by kernel_rfl) ?_
     refine rg_q (q_m rfl) ?_
     refine rg_q (q_add rfl rfl (In64.mk (by omega) (by omega))) ?_
     refine rg_q (q_a rfl) ?_
     refine rn ?_
     refine ⟨i + 1, by omega, by omega, ?_⟩
     exact le_head (ms := [7]) (by repeat (first | exact Out.head rfl rfl | (refine Out.put ?_ rfl) | (refine Out.headIn ?_ rfl rfl rfl))) ⟨(by rfl), (by rfl), trivial⟩ ⟨(by ((show Site.row _ _ _ = Site.row _ _ _; (rw [hsk]; done)))), trivial⟩ rfl rfl rfl rfl
  ·
   (try simp only [nb, ne_eq] at hc3)
   have hin : i = n := by omega
   subst hin
   refine awp_exit ?_
   change Awp _ _ _ _ _
   refine awp_seq ?_
   refine awp_region 2 mixed (by kernel_rfl) ?_
   refine rg_q (q_move (x := .rs _) rfl) (rg_q (q_assign (x := .rs _) rfl) ?_)
   refine rn ?_
   change Awp _ _ _ _ _
   refine awp_ret ?_
   refine ⟨_, (.cons (.tmp (by exact .rs rfl)) .nil), ?_⟩
   rfl

set_option maxRecDepth 100000 in
theorem rnum_p (re im : Int) : PC Tryz.prog 101 [.v (.int .i64 (re)), .v (.int .i64 (im))] (cz re im) := by
 refine pc_of_awp Tryz.func101 rfl Tryz.ntmps101 (rs := [.tmp 4]) Tryz.results101 (by simp) fun w0 => ?_
 refine awp_seq ?_
 refine awp_region 1 mixed (by kernel_rfl) ?_
 refine rg_q (q_a rfl) ?_
 refine rs (awp_region 6 mixed (by kernel_rfl) ?_)
 refine rg_q (q_m rfl) ?_
 refine rg_q (q_convf int3 flt167 rfl) ?_
 refine rg_q (q_m rfl) ?_
 refine rg_q (q_convf int3 flt167 rfl) ?_
 refine rg_q (q_complex rfl rfl) ?_
 refine rg_q (q_a rfl) ?_
 refine rn ?_
 change Awp _ _ _ _ _
 refine awp_ret ?_
 refine ⟨_, (.cons (.tmp (by exact .d _)) .nil), ?_⟩
 rfl

theorem vlF_nil (t : Tsk) (c : Int) (s : (Int × Int) × Int) (y : Int × Int) : vlF t c [] s y = if inR 0 (smpI t.ar (spI t.g c) y) 60 = true then ((s.1.1 + reI (smpS t y) (smpI t.ar (spI t.g c) y).toNat, s.1.2 + imI (smpS t y) (smpI t.ar (spI t.g c) y).toNat), s.2 + 1) else s := if_neg (show ¬ (hasI [] y.1 || hasI [] y.2) = true from Bool.false_ne_true)
def PrsOk (t : Tsk) (l : List (Int × Int)) : Prop := (∀ y ∈ l, (0 ≤ y.1 ∧ y.1 < t.ne) ∧ 0 ≤ y.2 ∧ y.2 < t.ne) ∧ l.length ≤ 1600
theorem ev_ok {t : Tsk} (h : TskOk t) : PrsOk t (evL t) := by
  obtain ⟨ha1, ha2⟩ := allL_ok h
  have h1 := h.n1
  have h2 := h.n2
  refine ⟨fun y hy => ?_, ?_⟩
  · obtain ⟨q1, q2, q3⟩ := pqL_in hy
    exact ⟨ha1 _ q1, q2, by omega⟩
  · unfold evL
    rw [pqL_len]
    have := Nat.mul_le_mul ha2 (show t.ne.toNat ≤ 16 by omega)
    omega
set_option maxRecDepth 100000 in
theorem rsum_p (t : Tsk) (c : Int) (l : List (Int × Int)) (h : TskOk t) (hc : clE t.g c = 0) (hl : PrsOk t l) : PC Tryz.prog 99 [.agg (tskC t), .v (.int .i64 (c)), .sl 2 (l.map shC)] (.tup [.v (.int .i64 ((vlA t c [] (l)).1.1)), .v (.int .i64 ((vlA t c [] (l)).1.2)), .v (.int .i64 ((vlA t c [] (l)).2))]) := by
 obtain ⟨hl1, hl2⟩ := hl
 refine pc_of_awpN Tryz.func99 rfl Tryz.ntmps99 (rs := [.tmp 6, .tmp 7, .tmp 8]) Tryz.results99 (by simp) fun w0 hmine hrnd hpn => ?_
 refine awp_seq ?_
 refine awp_region 4 mixed (by kernel_rfl) ?_
 refine rg_q (q_box rfl (by exact .inr ⟨_, rfl⟩)) ?_
 refine rg_q (q_a rfl) (rg_q (q_a rfl) (rg_q (q_a rfl) ?_))
 refine rs (awp_region 3 mixed (by kernel_rfl) ?_)
 refine rg_q (q_a rfl) (rg_q (q_a rfl) (rg_q (q_a rfl) ?_))
 refine rn ?_
 change Awp _ _ _ _ _
 refine awp_seq ?_
 refine awp_seq ?_
 refine awp_region 1 mixed (by kernel_rfl) ?_
 refine rg_q (q_a rfl) ?_
 refine rn ?_
 change Awp _ _ _ _ _
 refine awp_block ?_
 refine awp_loopH [9, 10, 11, 12, 13, 14, 15, 16, 17, 18, 19, 20, 21, 22, 23, 24, 25, 26, 27, 28, 29, 30, 31, 32, 33, 34, 35, 36, 37, 38, 39, 40, 41, 42, 43, 44, 45, 46, 47, 48, 49, 50, 51, 52] [] (α := Nat) (fun k => [(12, T.i (k : Int)), (9, .d (.v (.int .i64 ((vlA t c [] (l.take k)).1.1)))), (10, .d (.v (.int .i64 ((vlA t c [] (l.take k)).1.2)))), (11, .d (.v (.int .i64 ((vlA t c [] (l.take k)).2))))]) (fun k => []) (fun k => k ≤ l.length) (fun k => l.length - k) 0 (Nat.zero_le _) ?_ ?_
 · exact le_head (ms := []) (by repeat (exact Out.refl _)) ⟨(by rfl), (by rfl), (by rfl), (by rfl), trivial⟩ trivial rfl rfl rfl rfl
 ·
  intro k hk
  refine awp_seq ?_
  refine awp_seq ?_
  refine awp_region 4 mixed (by kernel_rfl) ?_
  refine rg_q (q_m rfl) (rg_q (q_move (x := .d (.sl _ _)) rfl) ?_)
  refine rg_q (q_len isl140 rfl (by exact len_map _ _)) ?_
  refine rg_q (q_lss rfl rfl) ?_
  refine rn ?_
  change Awp _ _ _ _ _
  refine awp_len (t := 17) rfl (fun hl17 => ?_)
  (try simp only [List.length_map] at hl17)
  refine awp_cond rfl (fun hc3 => ?_) (fun hc3 => ?_)
  ·
   (try simp only [nb, ne_eq] at hc3)
   have hlt : k < l.length := by omega
   obtain ⟨y, hy⟩ : ∃ y, l[k]? = some y := ⟨_, List.getElem?_eq_getElem hlt⟩
   have hp := hl1 y (List.mem_of_getElem? hy)
   obtain ⟨⟨b1, b2⟩, ⟨b3, b4⟩, b5, b6⟩ := vlA_in h (c := c) (dd := []) (l := l) k (by omega)
   obtain ⟨⟨hre1, hre2⟩, him1, him2⟩ := reim_in h y (smpI t.ar (spI t.g c) y).toNat
   have hst := vlA_snoc (t := t) (c := c) (dd := []) hy
   rw [vlF_nil] at hst
   refine awp_skip ?_
   change Awp _ _ _ _ _
   refine awp_seq ?_
   refine awp_block ?_
   refine awp_seq ?_
   refine awp_region 12 mixed (by kernel_rfl) ?_
   refine rg_q (q_loadA sz37 rfl rfl rfl) ?_
   refine rg_q (q_m rfl) (rg_q (q_move (x := .d (.sl _ _)) rfl) (rg_q (q_m rfl) ?_))
   refine rg_q (q_indexAddr sl140 rfl rfl (by omega) (map_at (by omega) hy)) ?_
   refine rg_q (q_loadA (ds := [_, _]) sz63 rfl rfl rfl) ?_
   refine rg_q (q_call en35 (.cons rfl (.cons rfl (.cons rfl .nil))) rfl (rnumberAt_p t c y h hc hp)) ?_
   refine rg_q (q_move (x := .d (.tup _)) rfl) (rg_q (q_extract rfl rfl) (rg_q (q_extract rfl rfl) (rg_q (q_a rfl) (rg_q (q_a rfl) ?_))))
   refine rn ?_
   change Awp _ _ _ _ _
   refine awp_seq ?_
   refine awp_seq ?_
   refine awp_region 2 mixed (by kernel_rfl) ?_
   refine rg_q (q_m rfl) (rg_q (q_neq rfl rfl) ?_)
   refine rn ?_
   change Awp _ _ _ _ _
   refine awp_cond rfl (fun hc6 => ?_) (fun hc6 => ?_)
   ·
    (try simp only [nb, ne_eq] at hc6)
    have hin : ¬ inR 0 (smpI t.ar (spI t.g c) y) 60 = true := fun q => by unfold nuR at hc6; rw [if_pos q] at hc6; exact hc6 rfl
    rw [if_neg hin] at hst
    refine awp_exit ?_
    change Awp _ _ _ _ _
    refine awp_region 3 mixed (by kernel_rfl) ?_
    refine rg_q (q_m rfl) ?_
    refine rg_q (q_add rfl rfl (In64.mk (by omega) (by omega))) ?_
    refine rg_q (q_a rfl) ?_
    refine rn ?_
    refine ⟨k + 1, by omega, by omega, ?_⟩
    exact le_head (ms := []) (by repeat (first | exact Out.head rfl rfl | (refine Out.put ?_ rfl))) ⟨(by rfl), (by (show T.d _ = T.d _; (rw [hst]; done))), (by (show T.d _ = T.d _; (rw [hst]; done))), (by (show T.d _ = T.d _; (rw [hst]; done))), trivial⟩ trivial rfl rfl rfl rfl
   ·
    (try simp only [nb, ne_eq] at hc6)
    have hin : inR 0 (smpI t.ar (spI t.g c) y) 60 = true := by
     cases q : inR 0 (smpI t.ar (spI t.g c) y) 60 with
     | true => rfl
     | false => unfold nuR at hc6; rw [q, if_neg (by decide)] at hc6; cases hc6
    rw [if_pos hin] at hst
    obtain ⟨n1, n2⟩ := inR_iff.1 hin
    have hnu : nuR t c y = (smpI t.ar (spI t.g c) y, 0) := by unfold nuR; rw [if_pos hin]
    have hpt := prtF_at (V := smpS t y) (n := 61) (k := (smpI t.ar (spI t.g c) y).toNat) (by omega)
    rw [hnu]
    refine awp_skip ?_
    change Awp _ _ _ _ _
    refine awp_seq ?_
    refine awp_regionM 11 [none, none, none, none, none, none, none, none, none, some 15, some 15] mixed (by kernel_rfl) ?_
    refine rgm_q rfl (q_loadA sz37 rfl rfl rfl) ?_
    refine rgm_q rfl (q_move (x := .d (.sl _ _)) rfl) ?_
    refine rgm_q rfl (q_m rfl) ?_
    refine rgm_q rfl (q_indexAddr sl140 rfl rfl (by omega) (map_at (by omega) hy)) ?_
    refine rgm_q rfl (q_loadA (ds := [_, _]) sz63 rfl rfl rfl) ?_
    refine rgm_q rfl (q_call en107 (.cons rfl (.cons rfl .nil)) rfl (rpartsOf_p t y h hp)) ?_
    refine rgm_q rfl (q_m rfl) ?_
    refine rgm_q rfl (q_indexAddr sl140 rfl rfl (by omega) (map_at (k := (smpI t.ar (spI t.g c) y).toNat) (by omega) hpt)) ?_
    refine rgm_q rfl (q_loadA (ds := [_, _]) sz63 rfl rfl rfl) ?_
    refine rgm_m (k := 15) rfl rfl (by rfl) (m_alloc zr63 rfl rfl) ?_
    refine rgm_m (k := 15) rfl rfl (by rfl) (m_store sz63 rfl rfl (by exact .inr ⟨_, rfl⟩) rfl rfl (by decide) rfl) ?_
    refine rgm_nil (aops_nil ?_)
    change Awp _ _ _ _ _
    refine Awp.le (le_freeze 15 15 0 (cs := [.v (.int .i64 (reI (smpS t y) (smpI t.ar (spI t.g c) y).toNat)), .v (.int .i64 (imI (smpS t y) (smpI t.ar (spI t.g c) y).toNat))]) rfl rfl rfl rfl hmine) ?_
    refine awp_region 13 mixed (by kernel_rfl) ?_
    refine rg_q (q_m rfl) ?_
    refine rg_q (q_indexAddr_ar ar63 rfl rfl (by omega) (by omega)) ?_
    refine rg_q (q_load sz3 rfl rfl) ?_
    refine rg_q (q_add rfl rfl (In64.mk (by omega) (by omega))) ?_
    refine rg_q (q_m rfl) ?_
    refine rg_q (q_indexAddr_ar ar63 rfl rfl (by omega) (by omega)) ?_
    refine rg_q (q_load sz3 rfl rfl) ?_
    refine rg_q (q_add rfl rfl (In64.mk (by omega) (by omega))) ?_
    refine rg_q (q_m rfl) ?_
    refine rg_q (q_add rfl rfl (In64.mk (by omega) (by omega))) ?_
    refine rg_q (q_a rfl) (rg_q (q_a rfl) (rg_q (q_a rfl) ?_))
    refine rn ?_
    change Awp _ _ _ _ _
    refine awp_region 3 mixed (by kernel_rfl) ?_
    refine rg_q (q_m rfl) ?_
    refine rg_q (q_add rfl rfl (In64.mk (by omega) (by omega))) ?_
    refine rg_q (q_a rfl) ?_
    refine rn ?_
    refine ⟨k + 1, by omega, by omega, ?_⟩
    exact le_head (ms := []) (by repeat (first | exact Out.head rfl rfl | (refine Out.put ?_ rfl) | (refine Out.site ?_ rfl) | (refine Out.headIn ?_ rfl rfl rfl))) ⟨(by rfl), (by (show T.d _ = T.d _; (rw [hst]; done))), (by (show T.d _ = T.d _; (rw [hst]; done))), (by (show T.d _ = T.d _; (rw [hst]; done))), trivial⟩ trivial rfl rfl rfl rfl
  ·
   (try simp only [nb, ne_eq] at hc3)
   have hkl : k = l.length := by omega
   subst hkl
   rw [List.take_length] at *
   refine awp_exit ?_
   change Awp _ _ _ _ _
   refine awp_seq ?_
   refine awp_region 6 mixed (by kernel_rfl) ?_
   refine rg_q (q_m rfl) (rg_q (q_m rfl) (rg_q (q_m rfl) (rg_q (q_a rfl) (rg_q (q_a rfl) (rg_q (q_a rfl) ?_)))))
   refine rn ?_
   change Awp _ _ _ _ _
   refine awp_ret ?_
   refine ⟨_, (.cons (.tmp (by exact .d _)) (.cons (.tmp (by exact .d _)) (.cons (.tmp (by exact .d _)) .nil))), ?_⟩
   rfl
set_option maxRecDepth 100000 in
theorem open5_p (t : Tsk) (hw : (ckT t).2 ≠ 0) : PC Tryz.prog 112 [.agg (tskC t)] (.tup [.v (.pointer none), .v (.int .i64 ((ckT t).2))]) := by
 refine pc_of_awpN Tryz.func112 rfl Tryz.ntmps112 (rs := [.tmp 2, .tmp 3]) Tryz.results112 (by simp) fun w0 hmine hrnd hpn => ?_
 refine awp_seq ?_
 refine awp_region 3 mixed (by kernel_rfl) ?_
 refine rg_q (q_box rfl (by exact .inr ⟨_, rfl⟩)) ?_
 refine rg_q (q_a rfl) (rg_q (q_a rfl) ?_)
 refine rn ?_
 change Awp _ _ _ _ _
 refine awp_seq ?_
 refine awp_seq ?_
 refine awp_region 7 mixed (by kernel_rfl) ?_
 refine rg_q (q_loadA sz37 rfl rfl rfl) ?_
 refine rg_q (q_call en20 (.cons rfl .nil) rfl (checkTask5_p t)) ?_
 refine rg_q (q_move (x := .d (.tup _)) rfl) (rg_q (q_extract rfl rfl) (rg_q (q_extract rfl rfl) (rg_q (q_a rfl) (rg_q (q_a rfl) ?_))))
 refine rs (awp_region 2 mixed (by kernel_rfl) ?_)
 refine rg_q (q_m rfl) (rg_q (q_neq rfl rfl) ?_)
 refine rn ?_
 change Awp _ _ _ _ _
 refine awp_cond rfl (fun hc2 => ?_) (fun hc2 => ?_)
 ·
  (try simp only [nb, ne_eq] at hc2)
  refine awp_seq ?_
  refine awp_region 3 mixed (by kernel_rfl) ?_
  refine rg_q (q_m rfl) (rg_q (q_a rfl) (rg_q (q_a rfl) ?_))
  refine rn ?_
  change Awp _ _ _ _ _
  refine awp_ret ?_
  refine ⟨_, (.cons (.tmp (by exact .d _)) (.cons (.tmp (by exact .d _)) .nil)), ?_⟩
  rfl
 ·
  (try simp only [nb, ne_eq] at hc2)
  exact absurd hc2 hw
def cvD (z : Nat × Nat) : D := .v (.complex .f64 z.1 z.2)
def czP (x : Int × Int) : Nat × Nat := (FloatKind.f64.nearest x.1, FloatKind.f64.nearest x.2)
end Go.Proofs.YtphlaicnmmglhaaGreat.Am.M
-- mini
namespace Go.Proofs.YtphlaicnmmglhaaGreat.Am.M
open Go

theorem clE_of {g : Grd} {c : Int} (h1 : 0 ≤ c) (h2 : c ≤ g.co * g.ro - 1) : clE g c = 0 := by
  unfold clE
  rw [when_zero (by decide), Bool.not_eq_false']
  exact inR_iff.2 ⟨h1, h2⟩
def cvC (z : Nat × Nat) : List D := [cvD z]
def vlsF (t : Tsk) (fs dd : List Int) (k : Nat) : List (Int × Int) := (List.range k).map fun c : Nat => (vlA t (c : Int) dd (pqL fs t.ne.toNat)).1
theorem vlsF_succ (t : Tsk) (fs dd : List Int) (k : Nat) : vlsF t fs dd (k + 1) = vlsF t fs dd k ++ [(vlA t (k : Int) dd (pqL fs t.ne.toNat)).1] := by unfold vlsF; rw [List.range_succ, List.map_append]; rfl
theorem vlsF_len (t : Tsk) (fs dd : List Int) (k : Nat) : (vlsF t fs dd k).length = k := by unfold vlsF; rw [List.length_map, List.length_range]
def clN (t : Tsk) : Nat := (t.g.co * t.g.ro).toNat
def vlsL (t : Tsk) (fs dd : List Int) : List (Int × Int) := vlsF t fs dd (clN t)
set_option maxRecDepth 100000 in
theorem values_p (t : Tsk) (fs dd : List Int) (h : TskOk t) (hf : ∀ x ∈ fs, 0 ≤ x ∧ x < t.ne) (hfl : fs.length ≤ 100) : PC Tryz.prog 114 [.pt (tkC t) 0, .sl 1 (fs.map iC), .sl 1 (dd.map iC)] (.sl 2 ((vlsL t fs dd).map shC)) := by
 obtain ⟨hg, _, _⟩ := ckG_ok h.gr
 have hci := cells_in hg
 have hcn : ((clN t : Nat) : Int) = t.g.co * t.g.ro := by unfold clN; omega
 refine pc_of_awpN Tryz.func114 rfl Tryz.ntmps114 (rs := [.tmp 6]) Tryz.results114 (by simp) fun w0 hmine hrnd hpn => ?_
 refine awp_seq ?_
 refine awp_region 1 mixed (by kernel_rfl) ?_
 refine rg_q (q_assign (x := .d (.sl _ _)) rfl) ?_
 refine rs (awp_region 1 mixed (by kernel_rfl) ?_)
 refine rg_q (q_assign_nil) ?_
 refine rn ?_
 change Awp _ _ _ _ _
 refine Awp.le (le_own (k := 7) (e := 160) (sz := 2) rfl rfl) ?_
 refine awp_seq ?_
 refine awp_seq ?_
 refine awp_region 6 mixed (by kernel_rfl) ?_
 refine rg_q (q_move (x := .d (.pt _ _)) rfl) (rg_q (q_nilCheck rfl) (rg_q (q_fieldAddr fld202_0 rfl) ?_))
 refine rg_q (q_loadA (ds := [_, _, _, _, _]) sz150 rfl rfl rfl) ?_
 refine rg_q (q_call en91 (.cons rfl .nil) rfl (fcells_p t.g hg)) ?_
 refine rg_q (q_m rfl) ?_
 refine rn ?_
 change Awp _ _ _ _ _
 refine awp_block ?_
 refine awp_loopH [7, 8, 9, 10, 16, 17, 18, 19, 20, 21, 22, 23, 24, 25, 26, 27, 28, 29, 30, 31] [7] (α := Nat) (fun k => [(16, T.i (k : Int)), (7, .rs 7)]) (fun k => [(7, .row 160 2 ((vlsF t fs dd k).map shC))]) (fun k => k ≤ clN t) (fun k => clN t - k) 0 (Nat.zero_le _) ?_ ?_
 · exact le_head (ms := [7]) (by repeat (exact Out.refl _)) ⟨(by rfl), (by rfl), trivial⟩ ⟨(by rfl), trivial⟩ rfl rfl rfl rfl
 ·
  intro k hk
  have hvl := vlsF_len t fs dd k
  refine awp_seq ?_
  refine awp_region 1 mixed (by kernel_rfl) ?_
  refine rg_q (q_lss rfl rfl) ?_
  refine rn ?_
  change Awp _ _ _ _ _
  refine awp_seq ?_
  refine awp_cond rfl (fun hc3 => ?_) (fun hc3 => ?_)
  ·
   (try simp only [nb, ne_eq] at hc3)
   have hlt : k < clN t := by omega
   have hck : clE t.g (k : Int) = 0 := clE_of (by omega) (by omega)
   have hsk : (vlsF t fs dd (k + 1)).map shC = (vlsF t fs dd k).map shC ++ [shC (vlA t (k : Int) dd (pqL fs t.ne.toNat)).1] := by rw [vlsF_succ, List.map_append]; rfl
   refine awp_skip ?_
   change Awp _ _ _ _ _
   refine awp_seq ?_
   refine awp_block ?_
   refine awp_seq ?_
   refine awp_region 2 mixed (by kernel_rfl) ?_
   refine rg_q (q_m rfl) (rg_q (q_a rfl) ?_)
   refine rs (awp_region 8 mixed (by kernel_rfl) ?_)
   refine rg_q (q_move (x := .d (.pt _ _)) rfl) (rg_q (q_m rfl) (rg_q (q_move (x := .d (.sl _ _)) rfl) (rg_q (q_move (x := .d (.sl _ _)) rfl) ?_)))
   refine rg_q (q_call en95 (.cons rfl (.cons rfl (.cons rfl (.cons rfl .nil)))) rfl (value_p t k fs dd h hck hf hfl)) ?_
   refine rg_q (q_move (x := .d (.tup _)) rfl) (rg_q (q_extract rfl rfl) (rg_q (q_extract rfl rfl) ?_))
   refine rg_nil ?_
   refine aops_allocD zr160 rfl sz160 rfl rfl (by exact .inr ⟨_, rfl⟩) rfl rfl ?_
   refine aops_q rfl (q_a rfl) ?_
   refine aops_nil ?_
   change Awp _ _ _ _ _
   refine awp_region 3 mixed (by kernel_rfl) ?_
   refine rg_q (q_move (x := .rs _) rfl) ?_
   refine rg_q (q_loadA (ds := [_, _]) sz160 rfl rfl rfl) ?_
   refine rg_q (q_buildSlice sl189 zr160 rfl rfl (by decide) (.cons rfl (by exact .inr ⟨_, rfl⟩) .nil) ⟨rfl, rfl, trivial⟩ rfl (by decide) rfl) ?_
   refine rg_nil ?_
   refine aops_append sl189 zr160 by160 rfl (by decide) rfl rfl rfl rfl (by (try simp only [List.length_map, List.length_append, List.length_cons, List.length_nil]); omega) (by (try simp only [List.length_map, List.length_append, List.length_cons, List.length_nil]); omega) rfl rfl ?_
   refine aops_q rfl (q_assign (x := .rs _) rfl) ?_
   refine aops_nil ?_
   change Awp _ _ _ _ _
   refine awp_region 2 mixed (by kernel_rfl) ?_
   refine rg_q (q_add rfl rfl (In64.mk (by omega) (by omega))) ?_
   refine rg_q (q_m rfl) ?_
   refine rn ?_
   refine ⟨k + 1, by omega, by omega, ?_⟩
   exact le_head (ms := [7]) (by repeat (first | exact Out.head rfl rfl | (refine Out.put ?_ rfl) | (refine Out.site ?_ rfl) | (refine Out.killS ?_ rfl))) ⟨(by rfl), (by rfl), trivial⟩ ⟨(by ((show Site.row _ _ _ = Site.row _ _ _; (rw [hsk]; rfl)))), trivial⟩ rfl rfl rfl rfl
  ·
   (try simp only [nb, ne_eq] at hc3)
   have hkn : k = clN t := by omega
   subst hkn
   refine awp_exit ?_
   change Awp _ _ _ _ _
   refine awp_seq ?_
   refine awp_region 2 mixed (by kernel_rfl) ?_
   refine rg_q (q_move (x := .rs _) rfl) (rg_q (q_assign (x := .rs _) rfl) ?_)
   refine rn ?_
   change Awp _ _ _ _ _
   refine awp_ret ?_
   refine ⟨_, (.cons (.tmp (by exact .rs rfl)) .nil), ?_⟩
   rfl
set_option maxRecDepth 100000 in
theorem numbersOf5_p (l : List (Int × Int)) (hl : l.length ≤ 10000) : PC Tryz.prog 113 [.sl 2 (l.map shC)] (.sl 1 ((l.map czP).map cvC)) := by
 refine pc_of_awpN Tryz.func113 rfl Tryz.ntmps113 (rs := [.tmp 2]) Tryz.results113 (by simp) fun w0 hmine hrnd hpn => ?_
 refine awp_seq ?_
 refine awp_region 1 mixed (by kernel_rfl) ?_
 refine rg_q (q_assign (x := .d (.sl _ _)) rfl) ?_
 refine rs (awp_region 1 mixed (by kernel_rfl) ?_)
 refine rg_q (q_assign_nil) ?_
 refine rn ?_
 change Awp _ _ _ _ _
 refine Awp.le (le_own (k := 3) (e := 46) (sz := 1) rfl rfl) ?_
 refine awp_seq ?_
 refine awp_seq ?_
 refine awp_region 3 mixed (by kernel_rfl) ?_
 refine rg_q (q_move (x := .d (.sl _ _)) rfl) ?_
 refine rg_q (q_len isl189 rfl (by exact len_map _ _)) ?_
 refine rg_q (q_m rfl) ?_
 refine rn ?_
 change Awp _ _ _ _ _
 refine awp_len (t := 6) rfl (fun hl6 => ?_)
 (try simp only [List.length_map] at hl6)
 refine awp_block ?_
 refine awp_loopH [3, 5, 8, 9, 10, 11, 12, 13, 14, 15, 16, 17] [3] (α := Nat) (fun k => [(8, T.i (k : Int)), (3, .rs 3)]) (fun k => [(3, .row 46 1 (((l.take k).map czP).map cvC))]) (fun k => k ≤ l.length) (fun k => l.length - k) 0 (Nat.zero_le _) ?_ ?_
 · exact le_head (ms := [3]) (by repeat (exact Out.refl _)) ⟨(by rfl), (by rfl), trivial⟩ ⟨(by rfl), trivial⟩ rfl rfl rfl rfl
 ·
  intro k hk
  have htl : (l.take k).length ≤ k := by rw [List.length_take]; omega
  refine awp_seq ?_
  refine awp_region 1 mixed (by kernel_rfl) ?_
  refine rg_q (q_lss rfl rfl) ?_
  refine rn ?_
  change Awp _ _ _ _ _
  refine awp_seq ?_
  refine awp_cond rfl (fun hc3 => ?_) (fun hc3 => ?_)
  ·
   (try simp only [nb, ne_eq] at hc3)
   have hlt : k < l.length := by omega
   obtain ⟨x, hx⟩ : ∃ x, l[k]? = some x := ⟨_, List.getElem?_eq_getElem hlt⟩
   have hsk : ((l.take (k + 1)).map czP).map cvC = ((l.take k).map czP).map cvC ++ [cvC (czP x)] := by rw [takeSnoc hx, List.map_append, List.map_append]; rfl
   refine awp_skip ?_
   change Awp _ _ _ _ _
   refine awp_seq ?_
   refine awp_block ?_
   refine awp_seq ?_
   refine awp_region 2 mixed (by kernel_rfl) ?_
   refine rg_q (q_indexAddr sl189 rfl rfl (by omega) (map_at (by omega) hx)) ?_
   refine rg_q (q_loadA (ds := [_, _]) sz160 rfl rfl rfl) ?_
   refine rg_nil ?_
   refine aops_allocD zr160 rfl sz160 rfl rfl (by exact .inr ⟨_, rfl⟩) rfl rfl ?_
   refine aops_nil ?_
   change Awp _ _ _ _ _
   refine awp_region 4 mixed (by kernel_rfl) ?_
   refine rg_q (q_move (x := .rs _) rfl) ?_
   refine rg_q (q_loadA (ds := [_, _]) sz160 rfl rfl rfl) ?_
   refine rg_q (q_call en97 (.cons rfl .nil) rfl (fnumber_p x.1 x.2)) ?_
   refine rg_q (q_buildSlice sl72 zr46 rfl rfl (by decide) (.cons rfl (by exact .inl rfl) .nil) ⟨rfl, rfl, trivial⟩ rfl (by decide) rfl) ?_
   refine rg_nil ?_
   refine aops_append sl72 zr46 by46 rfl (by decide) rfl rfl rfl rfl (by (try simp only [List.length_map, List.length_append, List.length_cons, List.length_nil]); omega) (by (try simp only [List.length_map, List.length_append, List.length_cons, List.length_nil]); omega) rfl rfl ?_
   refine aops_q rfl (q_assign (x := .rs _) rfl) ?_
   refine aops_nil ?_
   change Awp _ _ _ _ _
   refine awp_region 2 mixed (by kernel_rfl) ?_
   refine rg_q (q_add rfl rfl (In64.mk (by omega) (by omega))) ?_
   refine rg_q (q_m rfl) ?_
   refine rn ?_
   refine ⟨k + 1, by omega, by omega, ?_⟩
   exact le_head (ms := [3]) (by repeat (first | exact Out.head rfl rfl | (refine Out.put ?_ rfl) | (refine Out.site ?_ rfl) | (refine Out.killS ?_ rfl))) ⟨(by rfl), (by rfl), trivial⟩ ⟨(by ((show Site.row _ _ _ = Site.row _ _ _; (rw [hsk]; rfl)))), trivial⟩ rfl rfl rfl rfl
  ·
   (try simp only [nb, ne_eq] at hc3)
   have hkn : k = l.length := by omega
   subst hkn
   rw [List.take_length]
   refine awp_exit ?_
   change Awp _ _ _ _ _
   refine awp_seq ?_
   refine awp_region 2 mixed (by kernel_rfl) ?_
   refine rg_q (q_move (x := .rs _) rfl) (rg_q (q_assign (x := .rs _) rfl) ?_)
   refine rn ?_
   change Awp _ _ _ _ _
   refine awp_ret ?_
   refine ⟨_, (.cons (.tmp (by exact .rs rfl)) .nil), ?_⟩
   rfl

theorem cl_le {t : Tsk} (h : TskOk t) : clN t ≤ 1600 := by
  obtain ⟨hg, _, _⟩ := ckG_ok h.gr
  have := cells_in hg
  unfold clN; omega
def imL (t : Tsk) (fs dd : List Int) : List (Nat × Nat) := (vlsL t fs dd).map czP
def evI (t : Tsk) : List Int := allL t.ne.toNat
set_option maxRecDepth 100000 in
theorem imageK_p (t : Tsk) (h : TskOk t) : PC Tryz.prog 37 [.agg (tskC t)] (.tup [.sl 1 ((imL t (evI t) []).map cvC), .v (.int .i64 (0))]) := by
 obtain ⟨ha1, ha2⟩ := allL_ok h
 have hn1 := h.n1
 have hn2 := h.n2
 have hcl := cl_le h
 have hvl : (vlsL t (allL t.ne.toNat) []).length ≤ 10000 := by unfold vlsL; rw [vlsF_len]; omega
 refine pc_of_awpN Tryz.func37 rfl Tryz.ntmps37 (rs := [.tmp 2, .tmp 3]) Tryz.results37 (by simp) fun w0 hmine hrnd hpn => ?_
 refine awp_seq ?_
 refine awp_region 3 mixed (by kernel_rfl) ?_
 refine rg_q (q_box rfl (by exact .inr ⟨_, rfl⟩)) ?_
 refine rg_q (q_assign (x := .d (.sl _ _)) rfl) (rg_q (q_a rfl) ?_)
 refine rs (awp_region 7 mixed (by kernel_rfl) ?_)
 refine rg_q (q_loadA sz37 rfl rfl rfl) ?_
 refine rg_q (q_call en112 (.cons rfl .nil) rfl (open_p t h)) ?_
 refine rg_q (q_move (x := .d (.tup _)) rfl) (rg_q (q_extract rfl rfl) (rg_q (q_extract rfl rfl) (rg_q (q_assign (x := .d (.pt _ _)) rfl) (rg_q (q_a rfl) ?_))))
 refine rn ?_
 change Awp _ _ _ _ _
 refine awp_seq ?_
 refine awp_seq ?_
 refine awp_region 2 mixed (by kernel_rfl) ?_
 refine rg_q (q_m rfl) (rg_q (q_neq rfl rfl) ?_)
 refine rn ?_
 change Awp _ _ _ _ _
 refine awp_cond rfl (fun hc2 => ?_) (fun hc2 => ?_)
 ·
  simp at hc2
 ·
  (try simp only [nb, ne_eq] at hc2)
  refine awp_skip ?_
  change Awp _ _ _ _ _
  refine awp_seq ?_
  refine awp_region 7 mixed (by kernel_rfl) ?_
  refine rg_q (q_move (x := .d (.pt _ _)) rfl) (rg_q (q_move (x := .d (.pt _ _)) rfl) ?_)
  refine rg_q (q_call en96 (.cons rfl .nil) rfl (all_p t hn1 hn2)) ?_
  refine rg_q (q_call en114 (.cons rfl (.cons rfl (.cons rfl .nil))) rfl (values_p t (allL t.ne.toNat) [] h ha1 (by omega))) ?_
  refine rg_q (q_call en113 (.cons rfl .nil) rfl (numbersOf5_p _ hvl)) ?_
  refine rg_q (q_assign (x := .d (.sl _ _)) rfl) (rg_q (q_a rfl) ?_)
  refine rn ?_
  change Awp _ _ _ _ _
  refine awp_ret ?_
  refine ⟨_, (.cons (.tmp (by exact .d _)) (.cons (.tmp (by exact .d _)) .nil)), ?_⟩
  rfl
set_option maxRecDepth 100000 in
theorem imageW_p (t : Tsk) (hw : (ckT t).2 ≠ 0) : PC Tryz.prog 37 [.agg (tskC t)] (.tup [.sl 1 (([] : List (Nat × Nat)).map cvC), .v (.int .i64 ((ckT t).2))]) := by
 refine pc_of_awpN Tryz.func37 rfl Tryz.ntmps37 (rs := [.tmp 2, .tmp 3]) Tryz.results37 (by simp) fun w0 hmine hrnd hpn => ?_
 refine awp_seq ?_
 refine awp_region 3 mixed (by kernel_rfl) ?_
 refine rg_q (q_box rfl (by exact .inr ⟨_, rfl⟩)) ?_
 refine rg_q (q_assign (x := .d (.sl _ _)) rfl) (rg_q (q_a rfl) ?_)
 refine rs (awp_region 7 mixed (by kernel_rfl) ?_)
 refine rg_q (q_loadA sz37 rfl rfl rfl) ?_
 refine rg_q (q_call en112 (.cons rfl .nil) rfl (open5_p t hw)) ?_
 refine rg_q (q_move (x := .d (.tup _)) rfl) (rg_q (q_extract rfl rfl) (rg_q (q_extract rfl rfl) (rg_q (q_a rfl) (rg_q (q_a rfl) ?_))))
 refine rn ?_
 change Awp _ _ _ _ _
 refine awp_seq ?_
 refine awp_seq ?_
 refine awp_region 2 mixed (by kernel_rfl) ?_
 refine rg_q (q_m rfl) (rg_q (q_neq rfl rfl) ?_)
 refine rn ?_
 change Awp _ _ _ _ _
 refine awp_cond rfl (fun hc2 => ?_) (fun hc2 => ?_)
 ·
  (try simp only [nb, ne_eq] at hc2)
  refine awp_seq ?_
  refine awp_region 3 mixed (by kernel_rfl) ?_
  refine rg_q (q_m rfl) (rg_q (q_assign (x := .d (.sl _ _)) rfl) (rg_q (q_a rfl) ?_))
  refine rn ?_
  change Awp _ _ _ _ _
  refine awp_ret ?_
  refine ⟨_, (.cons (.tmp (by exact .d _)) (.cons (.tmp (by exact .d _)) .nil)), ?_⟩
  rfl
 ·
  (try simp only [nb, ne_eq] at hc2)
  exact absurd hc2 hw

def imgR (t : Tsk) : List (Nat × Nat) × Int := if (ckT t).2 ≠ 0 then ([], (ckT t).2) else (imL t (evI t) [], 0)
theorem image5_p (t : Tsk) : PC Tryz.prog 37 [.agg (tskC t)] (.tup [.sl 1 ((imgR t).1.map cvC), .v (.int .i64 (imgR t).2)]) := by
  by_cases hw : (ckT t).2 ≠ 0
  · have hv : imgR t = ([], (ckT t).2) := by unfold imgR; rw [if_pos hw]
    rw [hv]
    exact imageW_p t hw
  · have hv : imgR t = (imL t (evI t) [], 0) := by unfold imgR; rw [if_neg hw]
    rw [hv]
    exact imageK_p t (ckT_ok (Decidable.not_not.1 hw))
def rimF (t : Tsk) (l : List (Int × Int)) (k : Nat) : List (Nat × Nat) := (List.range k).map fun c : Nat => czP (vlA t (c : Int) [] l).1
theorem rimF_succ (t : Tsk) (l : List (Int × Int)) (k : Nat) : rimF t l (k + 1) = rimF t l k ++ [czP (vlA t (k : Int) [] l).1] := by unfold rimF; rw [List.range_succ, List.map_append]; rfl
theorem rimF_len (t : Tsk) (l : List (Int × Int)) (k : Nat) : (rimF t l k).length = k := by unfold rimF; rw [List.length_map, List.length_range]
set_option maxRecDepth 100000 in
theorem rimageOf_p (t : Tsk) (l : List (Int × Int)) (h : TskOk t) (hl : PrsOk t l) : PC Tryz.prog 115 [.agg (tskC t), .sl 2 (l.map shC)] (.sl 1 ((rimF t l (clN t)).map cvC)) := by
 obtain ⟨hg, _, _⟩ := ckG_ok h.gr
 have hci := cells_in hg
 have hcn : ((clN t : Nat) : Int) = t.g.co * t.g.ro := by unfold clN; omega
 refine pc_of_awpN Tryz.func115 rfl Tryz.ntmps115 (rs := [.tmp 4]) Tryz.results115 (by simp) fun w0 hmine hrnd hpn => ?_
 refine awp_seq ?_
 refine awp_region 2 mixed (by kernel_rfl) ?_
 refine rg_q (q_box rfl (by exact .inr ⟨_, rfl⟩)) ?_
 refine rg_q (q_assign (x := .d (.sl _ _)) rfl) ?_
 refine rs (awp_region 1 mixed (by kernel_rfl) ?_)
 refine rg_q (q_assign_nil) ?_
 refine rn ?_
 change Awp _ _ _ _ _
 refine Awp.le (le_own (k := 5) (e := 46) (sz := 1) rfl rfl) ?_
 refine awp_seq ?_
 refine awp_seq ?_
 refine awp_region 1 mixed (by kernel_rfl) ?_
 refine rg_q (q_a rfl) ?_
 refine rn ?_
 change Awp _ _ _ _ _
 refine awp_block ?_
 refine awp_loopH [5, 6, 7, 8, 9, 10, 11, 12, 13, 14, 15, 16, 17, 18, 19, 20, 21, 22, 23, 24, 25, 26, 27, 28, 29, 30] [5] (α := Nat) (fun k => [(6, T.i (k : Int)), (5, .rs 5)]) (fun k => [(5, .row 46 1 ((rimF t l k).map cvC))]) (fun k => k ≤ clN t) (fun k => clN t - k) 0 (Nat.zero_le _) ?_ ?_
 · exact le_head (ms := [5]) (by repeat (exact Out.refl _)) ⟨(by rfl), (by rfl), trivial⟩ ⟨(by rfl), trivial⟩ rfl rfl rfl rfl
 ·
  intro k hk
  have hvl := rimF_len t l k
  refine awp_seq ?_
  refine awp_seq ?_
  refine awp_region 5 mixed (by kernel_rfl) ?_
  refine rg_q (q_m rfl) (rg_q (q_fieldAddr fld37_2 rfl) ?_)
  refine rg_q (q_loadA (ds := [_, _, _, _, _]) sz35 rfl rfl rfl) ?_
  refine rg_q (q_call en56 (.cons rfl .nil) rfl (rcells_p t.g hg)) ?_
  refine rg_q (q_lss rfl rfl) ?_
  refine rn ?_
  change Awp _ _ _ _ _
  refine awp_cond rfl (fun hc3 => ?_) (fun hc3 => ?_)
  ·
   (try simp only [nb, ne_eq] at hc3)
   have hlt : k < clN t := by omega
   have hck : clE t.g (k : Int) = 0 := clE_of (by omega) (by omega)
   have hsk : (rimF t l (k + 1)).map cvC = (rimF t l k).map cvC ++ [cvC (czP (vlA t (k : Int) [] l).1)] := by rw [rimF_succ, List.map_append]; rfl
   refine awp_skip ?_
   change Awp _ _ _ _ _
   refine awp_seq ?_
   refine awp_block ?_
   refine awp_seq ?_
   refine awp_region 11 mixed (by kernel_rfl) ?_
   refine rg_q (q_loadA sz37 rfl rfl rfl) ?_
   refine rg_q (q_m rfl) (rg_q (q_move (x := .d (.sl _ _)) rfl) ?_)
   refine rg_q (q_call en99 (.cons rfl (.cons rfl (.cons rfl .nil))) rfl (rsum_p t k l h hck hl)) ?_
   refine rg_q (q_move (x := .d (.tup _)) rfl) (rg_q (q_extract rfl rfl) (rg_q (q_extract rfl rfl) (rg_q (q_extract rfl rfl) (rg_q (q_a rfl) (rg_q (q_a rfl) ?_)))))
   refine rg_q (q_a rfl) ?_
   refine rn ?_
   change Awp _ _ _ _ _
   refine awp_region 5 mixed (by kernel_rfl) ?_
   refine rg_q (q_move (x := .rs _) rfl) (rg_q (q_m rfl) (rg_q (q_m rfl) ?_))
   refine rg_q (q_call en101 (.cons rfl (.cons rfl .nil)) rfl (rnum_p _ _)) ?_
   refine rg_q (q_buildSlice sl72 zr46 rfl rfl (by decide) (.cons rfl (by exact .inl rfl) .nil) ⟨rfl, rfl, trivial⟩ rfl (by decide) rfl) ?_
   refine rg_nil ?_
   refine aops_append sl72 zr46 by46 rfl (by decide) rfl rfl rfl rfl (by (try simp only [List.length_map, List.length_append, List.length_cons, List.length_nil]); omega) (by (try simp only [List.length_map, List.length_append, List.length_cons, List.length_nil]); omega) rfl rfl ?_
   refine aops_q rfl (q_assign (x := .rs _) rfl) ?_
   refine aops_nil ?_
   change Awp _ _ _ _ _
   refine awp_region 3 mixed (by kernel_rfl) ?_
   refine rg_q (q_m rfl) ?_
   refine rg_q (q_add rfl rfl (In64.mk (by omega) (by omega))) ?_
   refine rg_q (q_a rfl) ?_
   refine rn ?_
   refine ⟨k + 1, by omega, by omega, ?_⟩
   exact le_head (ms := [5]) (by repeat (first | exact Out.head rfl rfl | (refine Out.put ?_ rfl) | (refine Out.site ?_ rfl) | (refine Out.killS ?_ rfl))) ⟨(by rfl), (by rfl), trivial⟩ ⟨(by ((show Site.row _ _ _ = Site.row _ _ _; (rw [hsk]; rfl)))), trivial⟩ rfl rfl rfl rfl
  ·
   (try simp only [nb, ne_eq] at hc3)
   have hkn : k = clN t := by omega
   subst hkn
   refine awp_exit ?_
   change Awp _ _ _ _ _
   refine awp_seq ?_
   refine awp_region 2 mixed (by kernel_rfl) ?_
   refine rg_q (q_move (x := .rs _) rfl) (rg_q (q_assign (x := .rs _) rfl) ?_)
   refine rn ?_
   change Awp _ _ _ _ _
   refine awp_ret ?_
   refine ⟨_, (.cons (.tmp (by exact .rs rfl)) .nil), ?_⟩
   rfl
theorem sbB_is (x y : Nat × Nat) : sbB x.1 x.2 y.1 y.2 = decide (x = y) := by
  obtain ⟨a, b⟩ := x
  obtain ⟨c, d⟩ := y
  unfold sbB
  by_cases h1 : a = c
  · by_cases h2 : b = d
    · simp [h1, h2]
    · have : ¬ (b : Int) = d := by omega
      simp [h1, h2, this]
  · have : ¬ (a : Int) = c := by omega
    simp [h1, this]
set_option maxRecDepth 100000 in
theorem sameNums_p (l m : List (Nat × Nat)) : PC Tryz.prog 38 [.sl 1 (l.map cvC), .sl 1 (m.map cvC)] (.v (.bool (decide (l = m)))) := by
 refine pc_of_awp Tryz.func38 rfl Tryz.ntmps38 (rs := [.tmp 4]) Tryz.results38 (by simp) fun w0 => ?_
 refine awp_seq ?_
 refine awp_region 1 mixed (by kernel_rfl) ?_
 refine rg_q (q_a rfl) ?_
 refine rn ?_
 change Awp _ _ _ _ _
 refine awp_seq ?_
 refine awp_seq ?_
 refine awp_region 5 mixed (by kernel_rfl) ?_
 refine rg_q (q_move (x := .d (.sl _ _)) rfl) ?_
 refine rg_q (q_len isl72 rfl (by exact len_map _ _)) ?_
 refine rg_q (q_move (x := .d (.sl _ _)) rfl) ?_
 refine rg_q (q_len isl72 rfl (by exact len_map _ _)) ?_
 refine rg_q (q_neq rfl rfl) ?_
 refine rn ?_
 change Awp _ _ _ _ _
 refine awp_len (t := 6) rfl (fun hl6 => ?_)
 (try simp only [List.length_map] at hl6)
 refine awp_len (t := 8) rfl (fun hl8 => ?_)
 (try simp only [List.length_map] at hl8)
 refine awp_cond rfl (fun hc1 => ?_) (fun hc1 => ?_)
 ·
  (try simp only [nb, ne_eq] at hc1)
  have hz : decide (l = m) = false := decide_eq_false (fun e => by rw [e] at hc1; omega)
  refine awp_seq ?_
  refine awp_region 1 mixed (by kernel_rfl) ?_
  refine rg_q (q_a rfl) ?_
  refine rn ?_
  change Awp _ _ _ _ _
  refine awp_ret ?_
  refine ⟨_, (.cons (.tmp (by exact .d _)) .nil), ?_⟩
  rw [hz]; rfl
 ·
  (try simp only [nb, ne_eq] at hc1)
  have hlm : l.length = m.length := by omega
  refine awp_skip ?_
  change Awp _ _ _ _ _
  refine awp_seq ?_
  refine awp_seq ?_
  refine awp_region 1 mixed (by kernel_rfl) ?_
  refine rg_q (q_a rfl) ?_
  refine rn ?_
  change Awp _ _ _ _ _
  refine awp_block ?_
  refine awp_loopH [4, 5, 11, 12, 13, 14, 15, 16, 17, 18, 19, 20, 21, 22, 23, 24, 25, 26] [] (α := Nat) (fun k => [(5, T.i (k : Int))]) (fun k => []) (fun k => k ≤ l.length ∧ l.take k = m.take k) (fun k => l.length - k) 0 ⟨Nat.zero_le _, rfl⟩ ?_ ?_
  · exact le_head (ms := []) (by repeat (exact Out.refl _)) ⟨(by rfl), trivial⟩ trivial rfl rfl rfl rfl
  ·
   intro k ⟨hk, hf⟩
   refine awp_seq ?_
   refine awp_seq ?_
   refine awp_region 4 mixed (by kernel_rfl) ?_
   refine rg_q (q_m rfl) (rg_q (q_move (x := .d (.sl _ _)) rfl) ?_)
   refine rg_q (q_len isl72 rfl (by exact len_map _ _)) ?_
   refine rg_q (q_lss rfl rfl) ?_
   refine rn ?_
   change Awp _ _ _ _ _
   refine awp_len (t := 12) rfl (fun hl12 => ?_)
   (try simp only [List.length_map] at hl12)
   refine awp_cond rfl (fun hc4 => ?_) (fun hc4 => ?_)
   ·
    (try simp only [nb, ne_eq] at hc4)
    have hlt : k < l.length := by omega
    obtain ⟨x, hx⟩ : ∃ x, l[k]? = some x := ⟨_, List.getElem?_eq_getElem hlt⟩
    obtain ⟨y, hy⟩ : ∃ y, m[k]? = some y := ⟨_, List.getElem?_eq_getElem (by omega)⟩
    have hxy := sbB_is x y
    refine awp_skip ?_
    change Awp _ _ _ _ _
    refine awp_seq ?_
    refine awp_block ?_
    refine awp_seq ?_
    refine awp_region 10 mixed (by kernel_rfl) ?_
    refine rg_q (q_move (x := .d (.sl _ _)) rfl) (rg_q (q_m rfl) ?_)
    refine rg_q (q_indexAddr sl72 rfl rfl (by omega) (map_at (k := k) (by omega) hx)) ?_
    refine rg_q (q_load sz46 rfl rfl) (rg_q (q_move (x := .d (.sl _ _)) rfl) (rg_q (q_m rfl) ?_))
    refine rg_q (q_indexAddr sl72 rfl rfl (by omega) (map_at (k := k) (by omega) hy)) ?_
    refine rg_q (q_load sz46 rfl rfl) ?_
    refine rg_q (q_call en26 (.cons rfl (.cons rfl .nil)) rfl (sameBits_p x.1 x.2 y.1 y.2)) ?_
    refine rg_q (q_not rfl) ?_
    refine rn ?_
    change Awp _ _ _ _ _
    refine awp_cond rfl (fun hc6 => ?_) (fun hc6 => ?_)
    ·
     (try simp only [nb, ne_eq] at hc6)
     have hz : decide (l = m) = false := decide_eq_false (fun e => by rw [e, hy] at hx; have := Option.some.inj hx; subst this; rw [hc6] at hxy; simp at hxy)
     refine awp_seq ?_
     refine awp_region 1 mixed (by kernel_rfl) ?_
     refine rg_q (q_a rfl) ?_
     refine rn ?_
     change Awp _ _ _ _ _
     refine awp_ret ?_
     refine ⟨_, (.cons (.tmp (by exact .d _)) .nil), ?_⟩
     rw [hz]; rfl
    ·
     (try simp only [nb, ne_eq] at hc6)
     rw [hc6] at hxy
     have hxe : x = y := of_decide_eq_true hxy.symm
     have hnx : l.take (k + 1) = m.take (k + 1) := by rw [takeSnoc hx, takeSnoc hy, hf, hxe]
     refine awp_skip ?_
     change Awp _ _ _ _ _
     refine awp_region 3 mixed (by kernel_rfl) ?_
     refine rg_q (q_m rfl) ?_
     refine rg_q (q_add rfl rfl (In64.mk (by omega) (by omega))) ?_
     refine rg_q (q_a rfl) ?_
     refine rn ?_
     refine ⟨k + 1, ⟨by omega, hnx⟩, by omega, ?_⟩
     exact le_head (ms := []) (by repeat (first | exact Out.head rfl rfl | (refine Out.put ?_ rfl))) ⟨(by rfl), trivial⟩ trivial rfl rfl rfl rfl
   ·
    (try simp only [nb, ne_eq] at hc4)
    have hz : decide (l = m) = true := decide_eq_true (by rw [← List.take_of_length_le (l := l) (i := k) (by omega), hf, List.take_of_length_le (by omega)])
    refine awp_exit ?_
    change Awp _ _ _ _ _
    refine awp_seq ?_
    refine awp_region 1 mixed (by kernel_rfl) ?_
    refine rg_q (q_a rfl) ?_
    refine rn ?_
    change Awp _ _ _ _ _
    refine awp_ret ?_
    refine ⟨_, (.cons (.tmp (by exact .d _)) .nil), ?_⟩
    rw [hz]; rfl
end Go.Proofs.YtphlaicnmmglhaaGreat.Am.M
-- mini
namespace Go.Proofs.YtphlaicnmmglhaaGreat.Am.M
open Go

end Go.Proofs.YtphlaicnmmglhaaGreat.Am.M
-- mini
namespace Go.Proofs.YtphlaicnmmglhaaGreat.Am.M
open Go

def atI (l : List Int) (i : Nat) : Int := l.getD i 0
theorem atI_at {l : List Int} {i : Nat} (h : i < l.length) : l[i]? = some (atI l i) := by
  unfold atI
  rw [List.getD_eq_getElem?_getD, List.getElem?_eq_getElem h]; rfl
def ddA (n : Int) (l : List Int) (i : Nat) : Int := if ¬ inR 0 (atI l i) (n - 1) = true then 6 else if 0 < i ∧ atI l i ≤ atI l (i - 1) then 9 else 0
def ddS (n : Int) (l : List Int) : Nat → Nat → Int
  | _, 0 => 0
  | i, m + 1 => if ddA n l i ≠ 0 then ddA n l i else ddS n l (i + 1) m
def ddE (n : Int) (l : List Int) : Int := ddS n l 0 l.length
theorem ddS_at {n : Int} {l : List Int} {k : Nat} (h : k < l.length) : ddS n l k (l.length - k) = if ddA n l k ≠ 0 then ddA n l k else ddS n l (k + 1) (l.length - (k + 1)) := by
  obtain ⟨m, hm⟩ : ∃ m, l.length - k = m + 1 := ⟨l.length - k - 1, by omega⟩
  rw [hm, show l.length - (k + 1) = m by omega]; rfl
theorem ddS_zero {n : Int} {l : List Int} : ∀ (m i : Nat), (∀ j, i ≤ j → j < i + m → ddA n l j = 0) → ddS n l i m = 0
  | 0, _, _ => rfl
  | m + 1, i, h => by
    unfold ddS
    rw [if_neg (c := ddA n l i ≠ 0) (fun q => q (h i (Nat.le_refl _) (by omega)))]
    exact ddS_zero m (i + 1) (fun j h1 h2 => h j (by omega) (by omega))
set_option maxRecDepth 100000 in
theorem deadErr_p (n : Int) (dd : List Int) (h1 : -1000000 ≤ n) (h2 : n ≤ 1000000) : PC Tryz.prog 190 [.v (.int .i64 (n)), .sl 1 (dd.map iC)] (.v (.int .i64 (ddE n dd))) := by
 refine pc_of_awp Tryz.func190 rfl Tryz.ntmps190 (rs := [.tmp 4]) Tryz.results190 (by simp) fun w0 => ?_
 refine awp_seq ?_
 refine awp_region 1 mixed (by kernel_rfl) ?_
 refine rg_q (q_a rfl) ?_
 refine rn ?_
 change Awp _ _ _ _ _
 refine awp_seq ?_
 refine awp_seq ?_
 refine awp_region 3 mixed (by kernel_rfl) ?_
 refine rg_q (q_move (x := .d (.sl _ _)) rfl) ?_
 refine rg_q (q_len isl77 rfl (by exact len_map _ _)) ?_
 refine rg_q (q_m rfl) ?_
 refine rn ?_
 change Awp _ _ _ _ _
 refine awp_len (t := 7) rfl (fun hl7 => ?_)
 (try simp only [List.length_map] at hl7)
 refine awp_block ?_
 refine awp_loopH [4, 5, 6, 9, 10, 11, 12, 13, 14, 15, 16, 17, 18, 19, 20, 21, 22, 23, 24, 25, 26, 27, 28, 29, 30, 31, 32] [] (α := Nat) (fun k => [(9, T.i (k : Int))]) (fun k => []) (fun k => k ≤ dd.length ∧ ddE n dd = ddS n dd k (dd.length - k)) (fun k => dd.length - k) 0 ⟨Nat.zero_le _, rfl⟩ ?_ ?_
 · exact le_head (ms := []) (by repeat (exact Out.refl _)) ⟨(by rfl), trivial⟩ trivial rfl rfl rfl rfl
 ·
  intro k ⟨hk, hf⟩
  refine awp_seq ?_
  refine awp_region 1 mixed (by kernel_rfl) ?_
  refine rg_q (q_lss rfl rfl) ?_
  refine rn ?_
  change Awp _ _ _ _ _
  refine awp_seq ?_
  refine awp_cond rfl (fun hc2 => ?_) (fun hc2 => ?_)
  ·
   (try simp only [nb, ne_eq] at hc2)
   have hlt : k < dd.length := by omega
   have hx := atI_at hlt
   have hds := ddS_at (n := n) hlt
   rw [hds] at hf
   refine awp_skip ?_
   change Awp _ _ _ _ _
   refine awp_seq ?_
   refine awp_block ?_
   refine awp_seq ?_
   refine awp_region 5 mixed (by kernel_rfl) ?_
   refine rg_q (q_m rfl) ?_
   refine rg_q (q_indexAddr sl77 rfl rfl (by omega) (map_at (by omega) hx)) ?_
   refine rg_q (q_load sz3 rfl rfl) (rg_q (q_a rfl) (rg_q (q_a rfl) ?_))
   refine rn ?_
   change Awp _ _ _ _ _
   refine awp_block ?_
   refine awp_seq ?_
   refine awp_region 6 mixed (by kernel_rfl) ?_
   refine rg_q (q_m rfl) (rg_q (q_m rfl) ?_)
   refine rg_q (q_sub rfl rfl (In64.mk (by omega) (by omega))) ?_
   refine rg_q (q_call en89 (.cons rfl (.cons rfl (.cons rfl .nil))) rfl (fwithin_p _ _ _)) ?_
   refine rg_q (q_not rfl) (rg_q (q_a rfl) ?_)
   refine rn ?_
   change Awp _ _ _ _ _
   refine awp_cond rfl (fun hc4 => ?_) (fun hc4 => ?_)
   ·
    (try simp only [nb, ne_eq] at hc4)
    have ha : ddA n dd k = 6 := by unfold ddA; rw [if_pos (by rw [hc4]; decide)]
    rw [ha, if_pos (by decide)] at hf
    have hz : ddE n dd = 6 := hf
    refine awp_seq ?_
    refine awp_region 1 mixed (by kernel_rfl) ?_
    refine rg_q (q_a rfl) ?_
    refine rn ?_
    change Awp _ _ _ _ _
    refine awp_ret ?_
    refine ⟨_, (.cons (.tmp (by exact .d _)) .nil), ?_⟩
    rw [hz]; rfl
   ·
    (try simp only [nb, ne_eq] at hc4)
    refine awp_seq ?_
    refine awp_region 12 mixed (by kernel_rfl) ?_
    refine rg_q (q_m rfl) (rg_q (q_gtr rfl rfl) (rg_q (q_m rfl) ?_))
    refine rg_g rfl rfl (fun hG => (q_m rfl)) ?_
    refine rg_g rfl rfl (fun hG => (q_move (x := .d (.sl _ _)) rfl)) ?_
    refine rg_g rfl rfl (fun hG => (q_m rfl)) ?_
    refine rg_g rfl rfl (fun hG => (q_sub rfl rfl (In64.mk (by (have hg0 := T.bool_inj (a := _) hG.1; (try simp only [nb, ne_eq] at hg0); omega)) (by (have hg0 := T.bool_inj (a := _) hG.1; (try simp only [nb, ne_eq] at hg0); omega))))) ?_
    refine rg_g rfl rfl (fun hG => (q_indexAddr sl77 rfl rfl (by (have hg0 := T.bool_inj (a := _) hG.1; (try simp only [nb, ne_eq] at hg0); omega)) (map_at (k := k - 1) (by (have hg0 := T.bool_inj (a := _) hG.1; (try simp only [nb, ne_eq] at hg0); omega)) (atI_at (by omega))))) ?_
    refine rg_g rfl rfl (fun hG => (q_load sz3 rfl rfl)) ?_
    refine rg_g rfl rfl (fun hG => (q_leq rfl rfl)) ?_
    refine rg_pick rfl rfl rfl rfl rfl rfl ?_
    refine rg_q (q_a rfl) ?_
    refine rn ?_
    change Awp _ _ _ _ _
    refine awp_cond rfl (fun hc6 => ?_) (fun hc6 => ?_)
    ·
     (try simp only [nb, ne_eq] at hc6)
     have ha : ddA n dd k = 9 := by unfold ddA; rw [if_neg (fun q => q hc4), if_pos (by omega)]
     rw [ha, if_pos (by decide)] at hf
     have hz : ddE n dd = 9 := hf
     refine awp_seq ?_
     refine awp_region 1 mixed (by kernel_rfl) ?_
     refine rg_q (q_a rfl) ?_
     refine rn ?_
     change Awp _ _ _ _ _
     refine awp_ret ?_
     refine ⟨_, (.cons (.tmp (by exact .d _)) .nil), ?_⟩
     rw [hz]; rfl
    ·
     (try simp only [nb, ne_eq] at hc6)
     have ha : ddA n dd k = 0 := by unfold ddA; rw [if_neg (fun q => q hc4), if_neg (by omega)]
     rw [ha, if_neg (fun q => q rfl)] at hf
     refine awp_skip ?_
     change Awp _ _ _ _ _
     refine awp_region 2 mixed (by kernel_rfl) ?_
     refine rg_q (q_add rfl rfl (In64.mk (by omega) (by omega))) ?_
     refine rg_q (q_m rfl) ?_
     refine rn ?_
     refine ⟨k + 1, ⟨by omega, hf⟩, by omega, ?_⟩
     exact le_head (ms := []) (by repeat (first | exact Out.head rfl rfl | (refine Out.put ?_ rfl))) ⟨(by rfl), trivial⟩ trivial rfl rfl rfl rfl
  ·
   (try simp only [nb, ne_eq] at hc2)
   have hz : ddE n dd = 0 := by rw [hf, show dd.length - k = 0 by omega]; rfl
   refine awp_exit ?_
   change Awp _ _ _ _ _
   refine awp_seq ?_
   refine awp_region 1 mixed (by kernel_rfl) ?_
   refine rg_q (q_a rfl) ?_
   refine rn ?_
   change Awp _ _ _ _ _
   refine awp_ret ?_
   refine ⟨_, (.cons (.tmp (by exact .d _)) .nil), ?_⟩
   rw [hz]; rfl
set_option maxRecDepth 100000 in
theorem rdeadErr_p (n : Int) (dd : List Int) (h1 : -1000000 ≤ n) (h2 : n ≤ 1000000) : PC Tryz.prog 52 [.v (.int .i64 (n)), .sl 1 (dd.map iC)] (.v (.int .i64 (ddE n dd))) := by
 refine pc_of_awp Tryz.func52 rfl Tryz.ntmps52 (rs := [.tmp 4]) Tryz.results52 (by simp) fun w0 => ?_
 refine awp_seq ?_
 refine awp_region 1 mixed (by kernel_rfl) ?_
 refine rg_q (q_a rfl) ?_
 refine rn ?_
 change Awp _ _ _ _ _
 refine awp_seq ?_
 refine awp_seq ?_
 refine awp_region 1 mixed (by kernel_rfl) ?_
 refine rg_q (q_a rfl) ?_
 refine rn ?_
 change Awp _ _ _ _ _
 refine awp_block ?_
 refine awp_loopH [4, 5, 6, 7, 8, 9, 10, 11, 12, 13, 14, 15, 16, 17, 18, 19, 20, 21, 22, 23, 24, 25, 26, 27, 28, 29, 30, 31, 32, 33] [] (α := Nat) (fun k => [(5, T.i (k : Int))]) (fun k => []) (fun k => k ≤ dd.length ∧ ddE n dd = ddS n dd k (dd.length - k)) (fun k => dd.length - k) 0 ⟨Nat.zero_le _, rfl⟩ ?_ ?_
 · exact le_head (ms := []) (by repeat (exact Out.refl _)) ⟨(by rfl), trivial⟩ trivial rfl rfl rfl rfl
 ·
  intro k ⟨hk, hf⟩
  refine awp_seq ?_
  refine awp_seq ?_
  refine awp_region 4 mixed (by kernel_rfl) ?_
  refine rg_q (q_m rfl) (rg_q (q_move (x := .d (.sl _ _)) rfl) ?_)
  refine rg_q (q_len isl77 rfl (by exact len_map _ _)) ?_
  refine rg_q (q_lss rfl rfl) ?_
  refine rn ?_
  change Awp _ _ _ _ _
  refine awp_len (t := 7) rfl (fun hl7 => ?_)
  (try simp only [List.length_map] at hl7)
  refine awp_cond rfl (fun hc2 => ?_) (fun hc2 => ?_)
  ·
   (try simp only [nb, ne_eq] at hc2)
   have hlt : k < dd.length := by omega
   have hx := atI_at hlt
   have hds := ddS_at (n := n) hlt
   rw [hds] at hf
   refine awp_skip ?_
   change Awp _ _ _ _ _
   refine awp_seq ?_
   refine awp_block ?_
   refine awp_seq ?_
   refine awp_seq ?_
   refine awp_region 8 mixed (by kernel_rfl) ?_
   refine rg_q (q_move (x := .d (.sl _ _)) rfl) (rg_q (q_m rfl) ?_)
   refine rg_q (q_indexAddr sl77 rfl rfl (by omega) (map_at (by omega) hx)) ?_
   refine rg_q (q_load sz3 rfl rfl) (rg_q (q_m rfl) ?_)
   refine rg_q (q_sub rfl rfl (In64.mk (by omega) (by omega))) ?_
   refine rg_q (q_call en31 (.cons rfl (.cons rfl (.cons rfl .nil))) rfl (within4_p _ _ _)) ?_
   refine rg_q (q_not rfl) ?_
   refine rn ?_
   change Awp _ _ _ _ _
   refine awp_cond rfl (fun hc4 => ?_) (fun hc4 => ?_)
   ·
    (try simp only [nb, ne_eq] at hc4)
    have ha : ddA n dd k = 6 := by unfold ddA; rw [if_pos (by rw [hc4]; decide)]
    rw [ha, if_pos (by decide)] at hf
    have hz : ddE n dd = 6 := hf
    refine awp_seq ?_
    refine awp_region 1 mixed (by kernel_rfl) ?_
    refine rg_q (q_a rfl) ?_
    refine rn ?_
    change Awp _ _ _ _ _
    refine awp_ret ?_
    refine ⟨_, (.cons (.tmp (by exact .d _)) .nil), ?_⟩
    rw [hz]; rfl
   ·
    (try simp only [nb, ne_eq] at hc4)
    refine awp_skip ?_
    change Awp _ _ _ _ _
    refine awp_seq ?_
    refine awp_region 14 mixed (by kernel_rfl) ?_
    refine rg_q (q_m rfl) (rg_q (q_gtr rfl rfl) (rg_q (q_m rfl) ?_))
    refine rg_g rfl rfl (fun hG => (q_move (x := .d (.sl _ _)) rfl)) ?_
    refine rg_g rfl rfl (fun hG => (q_m rfl)) ?_
    refine rg_g rfl rfl (fun hG => (q_indexAddr sl77 rfl rfl (by (have hg0 := T.bool_inj (a := _) hG.1; (try simp only [nb, ne_eq] at hg0); omega)) (map_at (k := k) (by omega) hx))) ?_
    refine rg_g rfl rfl (fun hG => (q_load sz3 rfl rfl)) ?_
    refine rg_g rfl rfl (fun hG => (q_move (x := .d (.sl _ _)) rfl)) ?_
    refine rg_g rfl rfl (fun hG => (q_m rfl)) ?_
    refine rg_g rfl rfl (fun hG => (q_sub rfl rfl (In64.mk (by (have hg0 := T.bool_inj (a := _) hG.1; (try simp only [nb, ne_eq] at hg0); omega)) (by (have hg0 := T.bool_inj (a := _) hG.1; (try simp only [nb, ne_eq] at hg0); omega))))) ?_
    refine rg_g rfl rfl (fun hG => (q_indexAddr sl77 rfl rfl (by (have hg0 := T.bool_inj (a := _) hG.1; (try simp only [nb, ne_eq] at hg0); omega)) (map_at (k := k - 1) (by (have hg0 := T.bool_inj (a := _) hG.1; (try simp only [nb, ne_eq] at hg0); omega)) (atI_at (by omega))))) ?_
    refine rg_g rfl rfl (fun hG => (q_load sz3 rfl rfl)) ?_
    refine rg_g rfl rfl (fun hG => (q_leq rfl rfl)) ?_
    refine rg_pick rfl rfl rfl rfl rfl rfl ?_
    refine rn ?_
    change Awp _ _ _ _ _
    refine awp_cond rfl (fun hc6 => ?_) (fun hc6 => ?_)
    ·
     (try simp only [nb, ne_eq] at hc6)
     have ha : ddA n dd k = 9 := by unfold ddA; rw [if_neg (fun q => q hc4), if_pos (by omega)]
     rw [ha, if_pos (by decide)] at hf
     have hz : ddE n dd = 9 := hf
     refine awp_seq ?_
     refine awp_region 1 mixed (by kernel_rfl) ?_
     refine rg_q (q_a rfl) ?_
     refine rn ?_
     change Awp _ _ _ _ _
     refine awp_ret ?_
     refine ⟨_, (.cons (.tmp (by exact .d _)) .nil), ?_⟩
     rw [hz]; rfl
    ·
     (try simp only [nb, ne_eq] at hc6)
     have ha : ddA n dd k = 0 := by unfold ddA; rw [if_neg (fun q => q hc4), if_neg (by omega)]
     rw [ha, if_neg (fun q => q rfl)] at hf
     refine awp_skip ?_
     change Awp _ _ _ _ _
     refine awp_region 3 mixed (by kernel_rfl) ?_
     refine rg_q (q_m rfl) ?_
     refine rg_q (q_add rfl rfl (In64.mk (by omega) (by omega))) ?_
     refine rg_q (q_a rfl) ?_
     refine rn ?_
     refine ⟨k + 1, ⟨by omega, hf⟩, by omega, ?_⟩
     exact le_head (ms := []) (by repeat (first | exact Out.head rfl rfl | (refine Out.put ?_ rfl))) ⟨(by rfl), trivial⟩ trivial rfl rfl rfl rfl
  ·
   (try simp only [nb, ne_eq] at hc2)
   have hz : ddE n dd = 0 := by rw [hf, show dd.length - k = 0 by omega]; rfl
   refine awp_exit ?_
   change Awp _ _ _ _ _
   refine awp_seq ?_
   refine awp_region 1 mixed (by kernel_rfl) ?_
   refine rg_q (q_a rfl) ?_
   refine rn ?_
   change Awp _ _ _ _ _
   refine awp_ret ?_
   refine ⟨_, (.cons (.tmp (by exact .d _)) .nil), ?_⟩
   rw [hz]; rfl
set_option maxRecDepth 100000 in
theorem openDead_p (t : Tsk) (dd : List Int) (h : TskOk t) : PC Tryz.prog 125 [.agg (tskC t), .sl 1 (dd.map iC)] (.tup [.pt (tkC t) 0, .v (.int .i64 (ddE t.ne dd))]) := by
 have hn1 := h.n1
 have hn2 := h.n2
 refine pc_of_awpN Tryz.func125 rfl Tryz.ntmps125 (rs := [.tmp 4, .tmp 5]) Tryz.results125 (by simp) fun w0 hmine hrnd hpn => ?_
 refine awp_seq ?_
 refine awp_region 3 mixed (by kernel_rfl) ?_
 refine rg_q (q_box rfl (by exact .inr ⟨_, rfl⟩)) ?_
 refine rg_q (q_a rfl) (rg_q (q_a rfl) ?_)
 refine rs (awp_region 7 mixed (by kernel_rfl) ?_)
 refine rg_q (q_loadA sz37 rfl rfl rfl) ?_
 refine rg_q (q_call en112 (.cons rfl .nil) rfl (open_p _ (by assumption))) ?_
 refine rg_q (q_move (x := .d (.tup _)) rfl) (rg_q (q_extract rfl rfl) (rg_q (q_extract rfl rfl) (rg_q (q_assign (x := .d (.pt _ _)) rfl) (rg_q (q_a rfl) ?_))))
 refine rn ?_
 change Awp _ _ _ _ _
 refine awp_seq ?_
 refine awp_seq ?_
 refine awp_region 2 mixed (by kernel_rfl) ?_
 refine rg_q (q_m rfl) (rg_q (q_neq rfl rfl) ?_)
 refine rn ?_
 change Awp _ _ _ _ _
 refine awp_cond rfl (fun hc2 => ?_) (fun hc2 => ?_)
 ·
  simp at hc2
 ·
  (try simp only [nb, ne_eq] at hc2)
  refine awp_skip ?_
  change Awp _ _ _ _ _
  refine awp_seq ?_
  refine awp_region 9 mixed (by kernel_rfl) ?_
  refine rg_q (q_move (x := .d (.pt _ _)) rfl) (rg_q (q_move (x := .d (.pt _ _)) rfl) (rg_q (q_nilCheck rfl) (rg_q (q_fieldAddr fld202_2 rfl) (rg_q (q_load sz3 rfl rfl) (rg_q (q_move (x := .d (.sl _ _)) rfl) ?_)))))
  refine rg_q (q_call en190 (.cons rfl (.cons rfl .nil)) rfl (deadErr_p _ _ (by omega) (by omega))) ?_
  refine rg_q (q_assign (x := .d (.pt _ _)) rfl) (rg_q (q_a rfl) ?_)
  refine rn ?_
  change Awp _ _ _ _ _
  refine awp_ret ?_
  refine ⟨_, (.cons (.tmp (by exact .d _)) (.cons (.tmp (by exact .d _)) .nil)), ?_⟩
  rfl
set_option maxRecDepth 100000 in
theorem openDeadW_p (t : Tsk) (dd : List Int) (hw : (ckT t).2 ≠ 0) : PC Tryz.prog 125 [.agg (tskC t), .sl 1 (dd.map iC)] (.tup [.v (.pointer none), .v (.int .i64 ((ckT t).2))]) := by
 refine pc_of_awpN Tryz.func125 rfl Tryz.ntmps125 (rs := [.tmp 4, .tmp 5]) Tryz.results125 (by simp) fun w0 hmine hrnd hpn => ?_
 refine awp_seq ?_
 refine awp_region 3 mixed (by kernel_rfl) ?_
 refine rg_q (q_box rfl (by exact .inr ⟨_, rfl⟩)) ?_
 refine rg_q (q_a rfl) (rg_q (q_a rfl) ?_)
 refine rs (awp_region 7 mixed (by kernel_rfl) ?_)
 refine rg_q (q_loadA sz37 rfl rfl rfl) ?_
 refine rg_q (q_call en112 (.cons rfl .nil) rfl (open5_p _ (by assumption))) ?_
 refine rg_q (q_move (x := .d (.tup _)) rfl) (rg_q (q_extract rfl rfl) (rg_q (q_extract rfl rfl) (rg_q (q_a rfl) (rg_q (q_a rfl) ?_))))
 refine rn ?_
 change Awp _ _ _ _ _
 refine awp_seq ?_
 refine awp_seq ?_
 refine awp_region 2 mixed (by kernel_rfl) ?_
 refine rg_q (q_m rfl) (rg_q (q_neq rfl rfl) ?_)
 refine rn ?_
 change Awp _ _ _ _ _
 refine awp_cond rfl (fun hc2 => ?_) (fun hc2 => ?_)
 ·
  (try simp only [nb, ne_eq] at hc2)
  refine awp_seq ?_
  refine awp_region 3 mixed (by kernel_rfl) ?_
  refine rg_q (q_m rfl) (rg_q (q_a rfl) (rg_q (q_a rfl) ?_))
  refine rn ?_
  change Awp _ _ _ _ _
  refine awp_ret ?_
  refine ⟨_, (.cons (.tmp (by exact .d _)) (.cons (.tmp (by exact .d _)) .nil)), ?_⟩
  rfl
 ·
  (try simp only [nb, ne_eq] at hc2)
  exact absurd hc2 hw

def cvF (t : Tsk) (dd : List Int) (k : Nat) : List Int := (List.range k).map fun c : Nat => (vlA t (c : Int) dd (evL t)).2
theorem cvF_succ (t : Tsk) (dd : List Int) (k : Nat) : cvF t dd (k + 1) = cvF t dd k ++ [(vlA t (k : Int) dd (evL t)).2] := by unfold cvF; rw [List.range_succ, List.map_append]; rfl
theorem cvF_len (t : Tsk) (dd : List Int) (k : Nat) : (cvF t dd k).length = k := by unfold cvF; rw [List.length_map, List.length_range]
set_option maxRecDepth 100000 in
theorem coverage_p (t : Tsk) (dd : List Int) (h : TskOk t) (hd : ddE t.ne dd = 0) : PC Tryz.prog 50 [.agg (tskC t), .sl 1 (dd.map iC)] (.tup [.sl 1 ((cvF t dd (clN t)).map iC), .v (.int .i64 (0))]) := by
 obtain ⟨hg, _, _⟩ := ckG_ok h.gr
 have hci := cells_in hg
 have hcn : ((clN t : Nat) : Int) = t.g.co * t.g.ro := by unfold clN; omega
 obtain ⟨ha1, ha2⟩ := allL_ok h
 have hn1 := h.n1
 have hn2 := h.n2
 have hcl := cl_le h
 refine pc_of_awpN Tryz.func50 rfl Tryz.ntmps50 (rs := [.tmp 4, .tmp 5]) Tryz.results50 (by simp) fun w0 hmine hrnd hpn => ?_
 refine awp_seq ?_
 refine awp_region 3 mixed (by kernel_rfl) ?_
 refine rg_q (q_box rfl (by exact .inr ⟨_, rfl⟩)) ?_
 refine rg_q (q_assign (x := .d (.sl _ _)) rfl) (rg_q (q_a rfl) ?_)
 refine rs (awp_region 8 mixed (by kernel_rfl) ?_)
 refine rg_q (q_loadA sz37 rfl rfl rfl) ?_
 refine rg_q (q_move (x := .d (.sl _ _)) rfl) ?_
 refine rg_q (q_call en125 (.cons rfl (.cons rfl .nil)) rfl ((by have q := openDead_p t dd h; rw [hd] at q; exact q))) ?_
 refine rg_q (q_move (x := .d (.tup _)) rfl) (rg_q (q_extract rfl rfl) (rg_q (q_extract rfl rfl) (rg_q (q_assign (x := .d (.pt _ _)) rfl) (rg_q (q_a rfl) ?_))))
 refine rn ?_
 change Awp _ _ _ _ _
 refine awp_seq ?_
 refine awp_seq ?_
 refine awp_region 2 mixed (by kernel_rfl) ?_
 refine rg_q (q_m rfl) (rg_q (q_neq rfl rfl) ?_)
 refine rn ?_
 change Awp _ _ _ _ _
 refine awp_cond rfl (fun hc2 => ?_) (fun hc2 => ?_)
 ·
  simp at hc2
 ·
  (try simp only [nb, ne_eq] at hc2)
  refine awp_skip ?_
  change Awp _ _ _ _ _
  refine awp_seq ?_
  refine awp_region 1 mixed (by kernel_rfl) ?_
  refine rg_q (q_assign_nil) ?_
  refine rn ?_
  change Awp _ _ _ _ _
  refine Awp.le (le_own (k := 8) (e := 3) (sz := 1) rfl rfl) ?_
  refine awp_seq ?_
  refine awp_seq ?_
  refine awp_region 6 mixed (by kernel_rfl) ?_
  refine rg_q (q_move (x := .d (.pt _ _)) rfl) (rg_q (q_nilCheck rfl) (rg_q (q_fieldAddr fld202_0 rfl) ?_))
  refine rg_q (q_loadA (ds := [_, _, _, _, _]) sz150 rfl rfl rfl) ?_
  refine rg_q (q_call en91 (.cons rfl .nil) rfl (fcells_p t.g hg)) ?_
  refine rg_q (q_m rfl) ?_
  refine rn ?_
  change Awp _ _ _ _ _
  refine awp_block ?_
  refine awp_loopH [8, 9, 10, 11, 26, 27, 28, 29, 30, 31, 32, 33, 34, 35, 36, 37, 38, 39, 40, 41, 42] [8] (α := Nat) (fun k => [(26, T.i (k : Int)), (8, .rs 8)]) (fun k => [(8, .row 3 1 ((cvF t dd k).map iC))]) (fun k => k ≤ clN t) (fun k => clN t - k) 0 (Nat.zero_le _) ?_ ?_
  · exact le_head (ms := [8]) (by repeat (exact Out.refl _)) ⟨(by rfl), (by rfl), trivial⟩ ⟨(by rfl), trivial⟩ rfl rfl rfl rfl
  ·
   intro k hk
   have hvl := cvF_len t dd k
   refine awp_seq ?_
   refine awp_region 1 mixed (by kernel_rfl) ?_
   refine rg_q (q_lss rfl rfl) ?_
   refine rn ?_
   change Awp _ _ _ _ _
   refine awp_seq ?_
   refine awp_cond rfl (fun hc6 => ?_) (fun hc6 => ?_)
   ·
    (try simp only [nb, ne_eq] at hc6)
    have hlt : k < clN t := by omega
    have hck : clE t.g (k : Int) = 0 := clE_of (by omega) (by omega)
    have hsk : (cvF t dd (k + 1)).map iC = (cvF t dd k).map iC ++ [iC (vlA t (k : Int) dd (evL t)).2] := by rw [cvF_succ, List.map_append]; rfl
    refine awp_skip ?_
    change Awp _ _ _ _ _
    refine awp_seq ?_
    refine awp_block ?_
    refine awp_seq ?_
    refine awp_region 2 mixed (by kernel_rfl) ?_
    refine rg_q (q_m rfl) (rg_q (q_a rfl) ?_)
    refine rs (awp_region 9 mixed (by kernel_rfl) ?_)
    refine rg_q (q_move (x := .d (.pt _ _)) rfl) (rg_q (q_m rfl) (rg_q (q_move (x := .d (.pt _ _)) rfl) ?_))
    refine rg_q (q_call en96 (.cons rfl .nil) rfl (all_p t hn1 hn2)) ?_
    refine rg_q (q_move (x := .d (.sl _ _)) rfl) ?_
    refine rg_q (q_call en95 (.cons rfl (.cons rfl (.cons rfl (.cons rfl .nil)))) rfl (value_p t k (allL t.ne.toNat) dd h hck ha1 (by omega))) ?_
    refine rg_q (q_move (x := .d (.tup _)) rfl) (rg_q (q_extract rfl rfl) (rg_q (q_extract rfl rfl) ?_))
    refine rg_nil ?_
    refine aops_allocD zr160 rfl sz160 rfl rfl (by exact .inr ⟨_, rfl⟩) rfl rfl ?_
    refine aops_q rfl (q_a rfl) ?_
    refine aops_nil ?_
    change Awp _ _ _ _ _
    refine awp_region 3 mixed (by kernel_rfl) ?_
    refine rg_q (q_move (x := .rs _) rfl) (rg_q (q_m rfl) ?_)
    refine rg_q (q_buildSlice sl77 zr3 rfl rfl (by decide) (.cons rfl (by exact .inl rfl) .nil) ⟨rfl, rfl, trivial⟩ rfl (by decide) rfl) ?_
    refine rg_nil ?_
    refine aops_append sl77 zr3 by3 rfl (by decide) rfl rfl rfl rfl (by (try simp only [List.length_map, List.length_append, List.length_cons, List.length_nil]); omega) (by (try simp only [List.length_map, List.length_append, List.length_cons, List.length_nil]); omega) rfl rfl ?_
    refine aops_q rfl (q_assign (x := .rs _) rfl) ?_
    refine aops_nil ?_
    change Awp _ _ _ _ _
    refine awp_region 2 mixed (by kernel_rfl) ?_
    refine rg_q (q_add rfl rfl (In64.mk (by omega) (by omega))) ?_
    refine rg_q (q_m rfl) ?_
    refine rn ?_
    refine ⟨k + 1, by omega, by omega, ?_⟩
    exact le_head (ms := [8]) (by repeat (first | exact Out.head rfl rfl | (refine Out.put ?_ rfl) | (refine Out.site ?_ rfl) | (refine Out.killS ?_ rfl))) ⟨(by rfl), (by rfl), trivial⟩ ⟨(by ((show Site.row _ _ _ = Site.row _ _ _; (rw [hsk]; rfl)))), trivial⟩ rfl rfl rfl rfl
   ·
    (try simp only [nb, ne_eq] at hc6)
    have hkn : k = clN t := by omega
    subst hkn
    refine awp_exit ?_
    change Awp _ _ _ _ _
    refine awp_seq ?_
    refine awp_region 3 mixed (by kernel_rfl) ?_
    refine rg_q (q_move (x := .rs _) rfl) (rg_q (q_assign (x := .rs _) rfl) (rg_q (q_a rfl) ?_))
    refine rn ?_
    change Awp _ _ _ _ _
    refine awp_ret ?_
    refine ⟨_, (.cons (.tmp (by exact .rs rfl)) (.cons (.tmp (by exact .d _)) .nil)), ?_⟩
    rfl
set_option maxRecDepth 100000 in
theorem coverageW_p (t : Tsk) (dd : List Int) (hw : (ckT t).2 ≠ 0) : PC Tryz.prog 50 [.agg (tskC t), .sl 1 (dd.map iC)] (.tup [.sl 1 (([] : List Int).map iC), .v (.int .i64 ((ckT t).2))]) := by
 refine pc_of_awpN Tryz.func50 rfl Tryz.ntmps50 (rs := [.tmp 4, .tmp 5]) Tryz.results50 (by simp) fun w0 hmine hrnd hpn => ?_
 refine awp_seq ?_
 refine awp_region 3 mixed (by kernel_rfl) ?_
 refine rg_q (q_box rfl (by exact .inr ⟨_, rfl⟩)) ?_
 refine rg_q (q_assign (x := .d (.sl _ _)) rfl) (rg_q (q_a rfl) ?_)
 refine rs (awp_region 8 mixed (by kernel_rfl) ?_)
 refine rg_q (q_loadA sz37 rfl rfl rfl) ?_
 refine rg_q (q_move (x := .d (.sl _ _)) rfl) ?_
 refine rg_q (q_call en125 (.cons rfl (.cons rfl .nil)) rfl (openDeadW_p t dd hw)) ?_
 refine rg_q (q_move (x := .d (.tup _)) rfl) (rg_q (q_extract rfl rfl) (rg_q (q_extract rfl rfl) (rg_q (q_a rfl) (rg_q (q_a rfl) ?_))))
 refine rn ?_
 change Awp _ _ _ _ _
 refine awp_seq ?_
 refine awp_seq ?_
 refine awp_region 2 mixed (by kernel_rfl) ?_
 refine rg_q (q_m rfl) (rg_q (q_neq rfl rfl) ?_)
 refine rn ?_
 change Awp _ _ _ _ _
 refine awp_cond rfl (fun hc2 => ?_) (fun hc2 => ?_)
 ·
  (try simp only [nb, ne_eq] at hc2)
  refine awp_seq ?_
  refine awp_region 3 mixed (by kernel_rfl) ?_
  refine rg_q (q_m rfl) (rg_q (q_assign (x := .d (.sl _ _)) rfl) (rg_q (q_a rfl) ?_))
  refine rn ?_
  change Awp _ _ _ _ _
  refine awp_ret ?_
  refine ⟨_, (.cons (.tmp (by exact .d _)) (.cons (.tmp (by exact .d _)) .nil)), ?_⟩
  rfl
 ·
  (try simp only [nb, ne_eq] at hc2)
  exact absurd hc2 hw
set_option maxRecDepth 100000 in
theorem coverageD_p (t : Tsk) (dd : List Int) (h : TskOk t) (hd : ddE t.ne dd ≠ 0) : PC Tryz.prog 50 [.agg (tskC t), .sl 1 (dd.map iC)] (.tup [.sl 1 (([] : List Int).map iC), .v (.int .i64 (ddE t.ne dd))]) := by
 refine pc_of_awpN Tryz.func50 rfl Tryz.ntmps50 (rs := [.tmp 4, .tmp 5]) Tryz.results50 (by simp) fun w0 hmine hrnd hpn => ?_
 refine awp_seq ?_
 refine awp_region 3 mixed (by kernel_rfl) ?_
 refine rg_q (q_box rfl (by exact .inr ⟨_, rfl⟩)) ?_
 refine rg_q (q_assign (x := .d (.sl _ _)) rfl) (rg_q (q_a rfl) ?_)
 refine rs (awp_region 8 mixed (by kernel_rfl) ?_)
 refine rg_q (q_loadA sz37 rfl rfl rfl) ?_
 refine rg_q (q_move (x := .d (.sl _ _)) rfl) ?_
 refine rg_q (q_call en125 (.cons rfl (.cons rfl .nil)) rfl (openDead_p t dd h)) ?_
 refine rg_q (q_move (x := .d (.tup _)) rfl) (rg_q (q_extract rfl rfl) (rg_q (q_extract rfl rfl) (rg_q (q_assign (x := .d (.pt _ _)) rfl) (rg_q (q_a rfl) ?_))))
 refine rn ?_
 change Awp _ _ _ _ _
 refine awp_seq ?_
 refine awp_seq ?_
 refine awp_region 2 mixed (by kernel_rfl) ?_
 refine rg_q (q_m rfl) (rg_q (q_neq rfl rfl) ?_)
 refine rn ?_
 change Awp _ _ _ _ _
 refine awp_cond rfl (fun hc2 => ?_) (fun hc2 => ?_)
 ·
  (try simp only [nb, ne_eq] at hc2)
  refine awp_seq ?_
  refine awp_region 3 mixed (by kernel_rfl) ?_
  refine rg_q (q_m rfl) (rg_q (q_assign (x := .d (.sl _ _)) rfl) (rg_q (q_a rfl) ?_))
  refine rn ?_
  change Awp _ _ _ _ _
  refine awp_ret ?_
  refine ⟨_, (.cons (.tmp (by exact .d _)) (.cons (.tmp (by exact .d _)) .nil)), ?_⟩
  rfl
 ·
  (try simp only [nb, ne_eq] at hc2)
  exact absurd hc2 hd
set_option maxRecDepth 100000 in
theorem withoutK_p (t : Tsk) (dd : List Int) (h : TskOk t) (hd : ddE t.ne dd = 0) : PC Tryz.prog 51 [.agg (tskC t), .sl 1 (dd.map iC)] (.tup [.sl 1 ((imL t (evI t) dd).map cvC), .v (.int .i64 (0))]) := by
 obtain ⟨ha1, ha2⟩ := allL_ok h
 have hn1 := h.n1
 have hn2 := h.n2
 have hcl := cl_le h
 have hvl : (vlsL t (allL t.ne.toNat) dd).length ≤ 10000 := by unfold vlsL; rw [vlsF_len]; omega
 refine pc_of_awpN Tryz.func51 rfl Tryz.ntmps51 (rs := [.tmp 4, .tmp 5]) Tryz.results51 (by simp) fun w0 hmine hrnd hpn => ?_
 refine awp_seq ?_
 refine awp_region 3 mixed (by kernel_rfl) ?_
 refine rg_q (q_box rfl (by exact .inr ⟨_, rfl⟩)) ?_
 refine rg_q (q_assign (x := .d (.sl _ _)) rfl) (rg_q (q_a rfl) ?_)
 refine rs (awp_region 8 mixed (by kernel_rfl) ?_)
 refine rg_q (q_loadA sz37 rfl rfl rfl) ?_
 refine rg_q (q_move (x := .d (.sl _ _)) rfl) ?_
 refine rg_q (q_call en125 (.cons rfl (.cons rfl .nil)) rfl ((by have q := openDead_p t dd h; rw [hd] at q; exact q))) ?_
 refine rg_q (q_move (x := .d (.tup _)) rfl) (rg_q (q_extract rfl rfl) (rg_q (q_extract rfl rfl) (rg_q (q_assign (x := .d (.pt _ _)) rfl) (rg_q (q_a rfl) ?_))))
 refine rn ?_
 change Awp _ _ _ _ _
 refine awp_seq ?_
 refine awp_seq ?_
 refine awp_region 2 mixed (by kernel_rfl) ?_
 refine rg_q (q_m rfl) (rg_q (q_neq rfl rfl) ?_)
 refine rn ?_
 change Awp _ _ _ _ _
 refine awp_cond rfl (fun hc2 => ?_) (fun hc2 => ?_)
 ·
  simp at hc2
 ·
  (try simp only [nb, ne_eq] at hc2)
  refine awp_skip ?_
  change Awp _ _ _ _ _
  refine awp_seq ?_
  refine awp_region 8 mixed (by kernel_rfl) ?_
  refine rg_q (q_move (x := .d (.pt _ _)) rfl) (rg_q (q_move (x := .d (.pt _ _)) rfl) ?_)
  refine rg_q (q_call en96 (.cons rfl .nil) rfl (all_p t hn1 hn2)) ?_
  refine rg_q (q_move (x := .d (.sl _ _)) rfl) ?_
  refine rg_q (q_call en114 (.cons rfl (.cons rfl (.cons rfl .nil))) rfl (values_p t (allL t.ne.toNat) dd h ha1 (by omega))) ?_
  refine rg_q (q_call en113 (.cons rfl .nil) rfl (numbersOf5_p _ hvl)) ?_
  refine rg_q (q_assign (x := .d (.sl _ _)) rfl) (rg_q (q_a rfl) ?_)
  refine rn ?_
  change Awp _ _ _ _ _
  refine awp_ret ?_
  refine ⟨_, (.cons (.tmp (by exact .d _)) (.cons (.tmp (by exact .d _)) .nil)), ?_⟩
  rfl
set_option maxRecDepth 100000 in
theorem withoutW_p (t : Tsk) (dd : List Int) (hw : (ckT t).2 ≠ 0) : PC Tryz.prog 51 [.agg (tskC t), .sl 1 (dd.map iC)] (.tup [.sl 1 (([] : List (Nat × Nat)).map cvC), .v (.int .i64 ((ckT t).2))]) := by
 refine pc_of_awpN Tryz.func51 rfl Tryz.ntmps51 (rs := [.tmp 4, .tmp 5]) Tryz.results51 (by simp) fun w0 hmine hrnd hpn => ?_
 refine awp_seq ?_
 refine awp_region 3 mixed (by kernel_rfl) ?_
 refine rg_q (q_box rfl (by exact .inr ⟨_, rfl⟩)) ?_
 refine rg_q (q_assign (x := .d (.sl _ _)) rfl) (rg_q (q_a rfl) ?_)
 refine rs (awp_region 8 mixed (by kernel_rfl) ?_)
 refine rg_q (q_loadA sz37 rfl rfl rfl) ?_
 refine rg_q (q_move (x := .d (.sl _ _)) rfl) ?_
 refine rg_q (q_call en125 (.cons rfl (.cons rfl .nil)) rfl (openDeadW_p t dd hw)) ?_
 refine rg_q (q_move (x := .d (.tup _)) rfl) (rg_q (q_extract rfl rfl) (rg_q (q_extract rfl rfl) (rg_q (q_a rfl) (rg_q (q_a rfl) ?_))))
 refine rn ?_
 change Awp _ _ _ _ _
 refine awp_seq ?_
 refine awp_seq ?_
 refine awp_region 2 mixed (by kernel_rfl) ?_
 refine rg_q (q_m rfl) (rg_q (q_neq rfl rfl) ?_)
 refine rn ?_
 change Awp _ _ _ _ _
 refine awp_cond rfl (fun hc2 => ?_) (fun hc2 => ?_)
 ·
  (try simp only [nb, ne_eq] at hc2)
  refine awp_seq ?_
  refine awp_region 3 mixed (by kernel_rfl) ?_
  refine rg_q (q_m rfl) (rg_q (q_assign (x := .d (.sl _ _)) rfl) (rg_q (q_a rfl) ?_))
  refine rn ?_
  change Awp _ _ _ _ _
  refine awp_ret ?_
  refine ⟨_, (.cons (.tmp (by exact .d _)) (.cons (.tmp (by exact .d _)) .nil)), ?_⟩
  rfl
 ·
  (try simp only [nb, ne_eq] at hc2)
  exact absurd hc2 hw
set_option maxRecDepth 100000 in
theorem withoutD_p (t : Tsk) (dd : List Int) (h : TskOk t) (hd : ddE t.ne dd ≠ 0) : PC Tryz.prog 51 [.agg (tskC t), .sl 1 (dd.map iC)] (.tup [.sl 1 (([] : List (Nat × Nat)).map cvC), .v (.int .i64 (ddE t.ne dd))]) := by
 refine pc_of_awpN Tryz.func51 rfl Tryz.ntmps51 (rs := [.tmp 4, .tmp 5]) Tryz.results51 (by simp) fun w0 hmine hrnd hpn => ?_
 refine awp_seq ?_
 refine awp_region 3 mixed (by kernel_rfl) ?_
 refine rg_q (q_box rfl (by exact .inr ⟨_, rfl⟩)) ?_
 refine rg_q (q_assign (x := .d (.sl _ _)) rfl) (rg_q (q_a rfl) ?_)
 refine rs (awp_region 8 mixed (by kernel_rfl) ?_)
 refine rg_q (q_loadA sz37 rfl rfl rfl) ?_
 refine rg_q (q_move (x := .d (.sl _ _)) rfl) ?_
 refine rg_q (q_call en125 (.cons rfl (.cons rfl .nil)) rfl (openDead_p t dd h)) ?_
 refine rg_q (q_move (x := .d (.tup _)) rfl) (rg_q (q_extract rfl rfl) (rg_q (q_extract rfl rfl) (rg_q (q_assign (x := .d (.pt _ _)) rfl) (rg_q (q_a rfl) ?_))))
 refine rn ?_
 change Awp _ _ _ _ _
 refine awp_seq ?_
 refine awp_seq ?_
 refine awp_region 2 mixed (by kernel_rfl) ?_
 refine rg_q (q_m rfl) (rg_q (q_neq rfl rfl) ?_)
 refine rn ?_
 change Awp _ _ _ _ _
 refine awp_cond rfl (fun hc2 => ?_) (fun hc2 => ?_)
 ·
  (try simp only [nb, ne_eq] at hc2)
  refine awp_seq ?_
  refine awp_region 3 mixed (by kernel_rfl) ?_
  refine rg_q (q_m rfl) (rg_q (q_assign (x := .d (.sl _ _)) rfl) (rg_q (q_a rfl) ?_))
  refine rn ?_
  change Awp _ _ _ _ _
  refine awp_ret ?_
  refine ⟨_, (.cons (.tmp (by exact .d _)) (.cons (.tmp (by exact .d _)) .nil)), ?_⟩
  rfl
 ·
  (try simp only [nb, ne_eq] at hc2)
  exact absurd hc2 hd

def deE (t : Tsk) (dd : List Int) : Int := if (ckT t).2 ≠ 0 then (ckT t).2 else ddE t.ne dd
def coR (t : Tsk) (dd : List Int) : List Int × Int := if deE t dd ≠ 0 then ([], deE t dd) else (cvF t dd (clN t), 0)
def woR (t : Tsk) (dd : List Int) : List (Nat × Nat) × Int := if deE t dd ≠ 0 then ([], deE t dd) else (imL t (evI t) dd, 0)
theorem coverage5_p (t : Tsk) (dd : List Int) : PC Tryz.prog 50 [.agg (tskC t), .sl 1 (dd.map iC)] (.tup [.sl 1 ((coR t dd).1.map iC), .v (.int .i64 (coR t dd).2)]) := by
  by_cases hw : (ckT t).2 ≠ 0
  · have e : deE t dd = (ckT t).2 := by unfold deE; rw [if_pos hw]
    have hv : coR t dd = ([], (ckT t).2) := by unfold coR; rw [e, if_pos hw]
    rw [hv]
    exact coverageW_p t dd hw
  · have h := ckT_ok (Decidable.not_not.1 hw)
    have e : deE t dd = ddE t.ne dd := by unfold deE; rw [if_neg hw]
    by_cases ho : ddE t.ne dd ≠ 0
    · have hv : coR t dd = ([], ddE t.ne dd) := by unfold coR; rw [e, if_pos ho]
      rw [hv]
      exact coverageD_p t dd h ho
    · have hv : coR t dd = (cvF t dd (clN t), 0) := by unfold coR; rw [e, if_neg ho]
      rw [hv]
      exact coverage_p t dd h (Decidable.not_not.1 ho)
theorem without5_p (t : Tsk) (dd : List Int) : PC Tryz.prog 51 [.agg (tskC t), .sl 1 (dd.map iC)] (.tup [.sl 1 ((woR t dd).1.map cvC), .v (.int .i64 (woR t dd).2)]) := by
  by_cases hw : (ckT t).2 ≠ 0
  · have e : deE t dd = (ckT t).2 := by unfold deE; rw [if_pos hw]
    have hv : woR t dd = ([], (ckT t).2) := by unfold woR; rw [e, if_pos hw]
    rw [hv]
    exact withoutW_p t dd hw
  · have h := ckT_ok (Decidable.not_not.1 hw)
    have e : deE t dd = ddE t.ne dd := by unfold deE; rw [if_neg hw]
    by_cases ho : ddE t.ne dd ≠ 0
    · have hv : woR t dd = ([], ddE t.ne dd) := by unfold woR; rw [e, if_pos ho]
      rw [hv]
      exact withoutD_p t dd h ho
    · have hv : woR t dd = (imL t (evI t) dd, 0) := by unfold woR; rw [e, if_neg ho]
      rw [hv]
      exact withoutK_p t dd h (Decidable.not_not.1 ho)
def alB (dd : List Int) (y : Int × Int) : Bool := !(hasI dd y.1 || hasI dd y.2)
def alvL (t : Tsk) (dd : List Int) : List (Int × Int) := (evL t).filter (alB dd)
theorem hasI_is (dd : List Int) (n : Int) : hasI dd n = decide (n ∈ dd) := by
  unfold hasI
  rw [Bool.eq_iff_iff]
  simp
theorem alv_ok {t : Tsk} (h : TskOk t) (dd : List Int) : PrsOk t (alvL t dd) := by
  obtain ⟨h1, h2⟩ := ev_ok h
  refine ⟨fun y hy => h1 y (List.mem_filter.1 hy).1, ?_⟩
  have := List.length_filter_le (alB dd) (evL t)
  unfold alvL; omega
theorem pqD_alv {t : Tsk} (h : t.ne.toNat = t.ar.el.length) (dd : List Int) : pqD (allL t.ar.el.length) dd t.ar.el.length t.ar.el.length = alvL t dd := by
  unfold alvL evL
  rw [h]
  unfold pqD pqL
  have e : ((List.range t.ar.el.length).flatMap fun u : Nat => pqR (u : Int) t.ar.el.length) = (allL t.ar.el.length).flatMap fun x => pqR x t.ar.el.length := by unfold allL; rw [List.flatMap_map]
  rw [e]
  refine List.filter_congr fun y hy => ?_
  obtain ⟨h1, _⟩ := pqL_in hy
  unfold prB alB
  rw [hasI_is, hasI_is, decide_eq_true h1, Bool.true_and, Bool.not_or]
theorem vlA_alv (t : Tsk) (c : Int) (dd : List Int) (l : List (Int × Int)) : vlA t c dd l = vlA t c [] (l.filter (alB dd)) := by
  unfold vlA
  rw [List.foldl_filter]
  congr 1
  funext s y
  unfold alB
  by_cases q : (hasI dd y.1 || hasI dd y.2) = true
  · rw [if_neg (by rw [q]; decide)]
    unfold vlF
    rw [if_pos q]
  · rw [Bool.not_eq_true] at q
    rw [if_pos (by rw [q]; rfl), vlF_nil]
    unfold vlF
    rw [if_neg (by rw [q]; decide)]
theorem im_alv (t : Tsk) (dd : List Int) : rimF t (alvL t dd) (clN t) = imL t (evI t) dd := by
  unfold rimF imL vlsL vlsF
  rw [List.map_map]
  refine List.map_congr_left fun c _ => ?_
  show czP (vlA t c [] (alvL t dd)).1 = czP (vlA t c dd (evL t)).1
  rw [vlA_alv t c dd (evL t)]; rfl
set_option maxRecDepth 100000 in
theorem ralive_p (t : Tsk) (dd : List Int) (h : TskOk t) : PC Tryz.prog 126 [.agg (tskC t), .sl 1 (dd.map iC)] (.sl 2 ((alvL t dd).map shC)) := by
 have hn1 := h.n1
 have hn2 := h.n2
 have hel := h.el
 have hen : t.ne.toNat = t.ar.el.length := by omega
 refine pc_of_awpN Tryz.func126 rfl Tryz.ntmps126 (rs := [.tmp 4]) Tryz.results126 (by simp) fun w0 hmine hrnd hpn => ?_
 refine awp_seq ?_
 refine awp_region 2 mixed (by kernel_rfl) ?_
 refine rg_q (q_box rfl (by exact .inr ⟨_, rfl⟩)) ?_
 refine rg_q (q_assign (x := .d (.sl _ _)) rfl) ?_
 refine rs (awp_region 5 mixed (by kernel_rfl) ?_)
 refine rg_q (q_fieldAddr fld37_0 rfl) (rg_q (q_fieldAddr fld28_0 rfl) (rg_q (q_load sz22 rfl rfl) ?_))
 refine rg_q (q_len isl22 rfl (by exact len_map _ _)) ?_
 refine rg_q (q_a rfl) ?_
 refine rn ?_
 change Awp _ _ _ _ _
 refine awp_len (t := 8) rfl (fun hl8 => ?_)
 (try simp only [List.length_map] at hl8)
 refine awp_seq ?_
 refine awp_region 6 mixed (by kernel_rfl) ?_
 refine rg_q (q_m rfl) (rg_q (q_m rfl) ?_)
 refine rg_q (q_call en55 (.cons rfl .nil) rfl (rall_p t.ar.el.length (by omega))) ?_
 refine rg_q (q_move (x := .d (.sl _ _)) rfl) ?_
 refine rg_q (q_call en135 (.cons rfl (.cons rfl (.cons rfl .nil))) rfl ((by have h := rpairs_p t.ar.el.length (by omega) (allL t.ar.el.length) dd; rw [pqD_alv hen] at h; exact h))) ?_
 refine rg_q (q_assign (x := .d (.sl _ _)) rfl) ?_
 refine rn ?_
 change Awp _ _ _ _ _
 refine awp_ret ?_
 refine ⟨_, (.cons (.tmp (by exact .d _)) .nil), ?_⟩
 rfl
set_option maxRecDepth 100000 in
theorem rcoverage_p (t : Tsk) (dd : List Int) (h : TskOk t) : PC Tryz.prog 53 [.agg (tskC t), .sl 1 (dd.map iC)] (.sl 1 ((cvF t dd (clN t)).map iC)) := by
 obtain ⟨hg, _, _⟩ := ckG_ok h.gr
 have hci := cells_in hg
 have hcn : ((clN t : Nat) : Int) = t.g.co * t.g.ro := by unfold clN; omega
 refine pc_of_awpN Tryz.func53 rfl Tryz.ntmps53 (rs := [.tmp 4]) Tryz.results53 (by simp) fun w0 hmine hrnd hpn => ?_
 refine awp_seq ?_
 refine awp_region 2 mixed (by kernel_rfl) ?_
 refine rg_q (q_box rfl (by exact .inr ⟨_, rfl⟩)) ?_
 refine rg_q (q_assign (x := .d (.sl _ _)) rfl) ?_
 refine rs (awp_region 1 mixed (by kernel_rfl) ?_)
 refine rg_q (q_assign_nil) ?_
 refine rn ?_
 change Awp _ _ _ _ _
 refine Awp.le (le_own (k := 5) (e := 3) (sz := 1) rfl rfl) ?_
 refine awp_seq ?_
 refine awp_seq ?_
 refine awp_region 1 mixed (by kernel_rfl) ?_
 refine rg_q (q_a rfl) ?_
 refine rn ?_
 change Awp _ _ _ _ _
 refine awp_block ?_
 refine awp_loopH [5, 6, 7, 8, 9, 10, 11, 12, 13, 14, 15, 16, 17, 18, 19, 20, 21, 22, 23, 24, 25, 26, 27, 28, 29, 30] [5] (α := Nat) (fun k => [(6, T.i (k : Int)), (5, .rs 5)]) (fun k => [(5, .row 3 1 ((cvF t dd k).map iC))]) (fun k => k ≤ clN t) (fun k => clN t - k) 0 (Nat.zero_le _) ?_ ?_
 · exact le_head (ms := [5]) (by repeat (exact Out.refl _)) ⟨(by rfl), (by rfl), trivial⟩ ⟨(by rfl), trivial⟩ rfl rfl rfl rfl
 ·
  intro k hk
  have hvl := cvF_len t dd k
  refine awp_seq ?_
  refine awp_seq ?_
  refine awp_region 5 mixed (by kernel_rfl) ?_
  refine rg_q (q_m rfl) (rg_q (q_fieldAddr fld37_2 rfl) ?_)
  refine rg_q (q_loadA (ds := [_, _, _, _, _]) sz35 rfl rfl rfl) ?_
  refine rg_q (q_call en56 (.cons rfl .nil) rfl (rcells_p t.g hg)) ?_
  refine rg_q (q_lss rfl rfl) ?_
  refine rn ?_
  change Awp _ _ _ _ _
  refine awp_cond rfl (fun hc3 => ?_) (fun hc3 => ?_)
  ·
   (try simp only [nb, ne_eq] at hc3)
   have hlt : k < clN t := by omega
   have hck : clE t.g (k : Int) = 0 := clE_of (by omega) (by omega)
   have hsk : (cvF t dd (k + 1)).map iC = (cvF t dd k).map iC ++ [iC (vlA t (k : Int) [] (alvL t dd)).2] := by rw [cvF_succ, List.map_append, vlA_alv]; rfl
   refine awp_skip ?_
   change Awp _ _ _ _ _
   refine awp_seq ?_
   refine awp_block ?_
   refine awp_seq ?_
   refine awp_region 13 mixed (by kernel_rfl) ?_
   refine rg_q (q_loadA sz37 rfl rfl rfl) ?_
   refine rg_q (q_m rfl) ?_
   refine rg_q (q_loadA sz37 rfl rfl rfl) ?_
   refine rg_q (q_move (x := .d (.sl _ _)) rfl) ?_
   refine rg_q (q_call en126 (.cons rfl (.cons rfl .nil)) rfl (ralive_p t dd h)) ?_
   refine rg_q (q_call en99 (.cons rfl (.cons rfl (.cons rfl .nil))) rfl (rsum_p t k (alvL t dd) h hck (alv_ok h dd))) ?_
   refine rg_q (q_move (x := .d (.tup _)) rfl) (rg_q (q_extract rfl rfl) (rg_q (q_extract rfl rfl) (rg_q (q_extract rfl rfl) (rg_q (q_a rfl) (rg_q (q_a rfl) ?_)))))
   refine rg_q (q_a rfl) ?_
   refine rn ?_
   change Awp _ _ _ _ _
   refine awp_region 3 mixed (by kernel_rfl) ?_
   refine rg_q (q_move (x := .rs _) rfl) (rg_q (q_m rfl) ?_)
   refine rg_q (q_buildSlice sl77 zr3 rfl rfl (by decide) (.cons rfl (by exact .inl rfl) .nil) ⟨rfl, rfl, trivial⟩ rfl (by decide) rfl) ?_
   refine rg_nil ?_
   refine aops_append sl77 zr3 by3 rfl (by decide) rfl rfl rfl rfl (by (try simp only [List.length_map, List.length_append, List.length_cons, List.length_nil]); omega) (by (try simp only [List.length_map, List.length_append, List.length_cons, List.length_nil]); omega) rfl rfl ?_
   refine aops_q rfl (q_assign (x := .rs _) rfl) ?_
   refine aops_nil ?_
   change Awp _ _ _ _ _
   refine awp_region 3 mixed (by kernel_rfl) ?_
   refine rg_q (q_m rfl) ?_
   refine rg_q (q_add rfl rfl (In64.mk (by omega) (by omega))) ?_
   refine rg_q (q_a rfl) ?_
   refine rn ?_
   refine ⟨k + 1, by omega, by omega, ?_⟩
   exact le_head (ms := [5]) (by repeat (first | exact Out.head rfl rfl | (refine Out.put ?_ rfl) | (refine Out.site ?_ rfl) | (refine Out.killS ?_ rfl))) ⟨(by rfl), (by rfl), trivial⟩ ⟨(by ((show Site.row _ _ _ = Site.row _ _ _; (rw [hsk]; rfl)))), trivial⟩ rfl rfl rfl rfl
  ·
   (try simp only [nb, ne_eq] at hc3)
   have hkn : k = clN t := by omega
   subst hkn
   refine awp_exit ?_
   change Awp _ _ _ _ _
   refine awp_seq ?_
   refine awp_region 2 mixed (by kernel_rfl) ?_
   refine rg_q (q_move (x := .rs _) rfl) (rg_q (q_assign (x := .rs _) rfl) ?_)
   refine rn ?_
   change Awp _ _ _ _ _
   refine awp_ret ?_
   refine ⟨_, (.cons (.tmp (by exact .rs rfl)) .nil), ?_⟩
   rfl
set_option maxRecDepth 100000 in
theorem rwithout_p (t : Tsk) (dd : List Int) (h : TskOk t) : PC Tryz.prog 54 [.agg (tskC t), .sl 1 (dd.map iC)] (.sl 1 ((imL t (evI t) dd).map cvC)) := by
 refine pc_of_awpN Tryz.func54 rfl Tryz.ntmps54 (rs := [.tmp 4]) Tryz.results54 (by simp) fun w0 hmine hrnd hpn => ?_
 refine awp_seq ?_
 refine awp_region 2 mixed (by kernel_rfl) ?_
 refine rg_q (q_box rfl (by exact .inr ⟨_, rfl⟩)) ?_
 refine rg_q (q_assign (x := .d (.sl _ _)) rfl) ?_
 refine rs (awp_region 6 mixed (by kernel_rfl) ?_)
 refine rg_q (q_loadA sz37 rfl rfl rfl) ?_
 refine rg_q (q_loadA sz37 rfl rfl rfl) ?_
 refine rg_q (q_move (x := .d (.sl _ _)) rfl) ?_
 refine rg_q (q_call en126 (.cons rfl (.cons rfl .nil)) rfl (ralive_p t dd h)) ?_
 refine rg_q (q_call en115 (.cons rfl (.cons rfl .nil)) rfl ((by have q := rimageOf_p t (alvL t dd) h (alv_ok h dd); rw [im_alv] at q; exact q))) ?_
 refine rg_q (q_assign (x := .d (.sl _ _)) rfl) ?_
 refine rn ?_
 change Awp _ _ _ _ _
 refine awp_ret ?_
 refine ⟨_, (.cons (.tmp (by exact .d _)) .nil), ?_⟩
 rfl

theorem atI_all {n i : Nat} (h : i < n) : atI (allL n) i = (i : Int) := by
  unfold atI allL
  rw [List.getD_eq_getElem?_getD, List.getElem?_map, List.getElem?_range h]; rfl
theorem dd_all (n : Nat) : ddE (n : Int) (allL n) = 0 := by
  unfold ddE
  refine ddS_zero _ _ fun j _ hj => ?_
  rw [allL_len] at hj
  unfold ddA
  rw [atI_all (by omega), if_neg (fun q => q (inR_iff.2 ⟨by omega, by omega⟩)), if_neg]
  rintro ⟨h1, h2⟩
  rw [atI_all (by omega)] at h2
  omega
theorem cz_zero : czP (0, 0) = (0, 0) := by decide +kernel
theorem im_none {t : Tsk} (n : Nat) (h : t.ne.toNat = n) : imL t (evI t) (allL n) = List.replicate (clN t) (0, 0) := by
  have e : alvL t (allL n) = [] := by
    unfold alvL
    rw [List.filter_eq_nil_iff]
    intro y hy
    obtain ⟨h1, _⟩ := pqL_in hy
    unfold alB
    rw [hasI_is, decide_eq_true (by rw [← h]; exact h1)]
    simp
  rw [← im_alv, e]
  unfold rimF
  rw [List.eq_replicate_iff]
  refine ⟨by rw [List.length_map, List.length_range], fun z hz => ?_⟩
  obtain ⟨c, _, rfl⟩ := List.mem_map.1 hz
  exact cz_zero
set_option maxHeartbeats 4000000 in
set_option maxRecDepth 100000 in
theorem focusDead_p (t : Tsk) (dd : List Int) : PC Tryz.prog 10 [.agg (tskC t), .sl 1 (dd.map iC)] (.v (.bool (true))) := by
 refine pc_of_awpN Tryz.func10 rfl Tryz.ntmps10 (rs := [.tmp 4]) Tryz.results10 (by simp) fun w0 hmine hrnd hpn => ?_
 refine awp_seq ?_
 refine awp_region 2 mixed (by kernel_rfl) ?_
 refine rg_q (q_box rfl (by exact .inr ⟨_, rfl⟩)) ?_
 refine rg_q (q_a rfl) ?_
 refine rn ?_
 change Awp _ _ _ _ _
 refine awp_seq ?_
 refine awp_seq ?_
 refine awp_region 2 mixed (by kernel_rfl) ?_
 refine rg_q (q_call en18 .nil rfl (awake5_p)) ?_
 refine rg_q (q_not rfl) ?_
 refine rn ?_
 change Awp _ _ _ _ _
 refine awp_cond rfl (fun hc1 => ?_) (fun hc1 => ?_)
 ·
  simp at hc1
 ·
  (try simp only [nb, ne_eq] at hc1)
  refine awp_skip ?_
  change Awp _ _ _ _ _
  refine awp_seq ?_
  refine awp_seq ?_
  refine awp_region 8 mixed (by kernel_rfl) ?_
  refine rg_q (q_loadA sz37 rfl rfl rfl) ?_
  refine rg_q (q_call en19 (.cons rfl .nil) rfl (light_p _)) ?_
  refine rg_q (q_not rfl) (rg_q (q_m rfl) ?_)
  refine rg_g rfl rfl (fun hG => (q_move (x := .d (.sl _ _)) rfl)) ?_
  refine rg_g rfl rfl (fun hG => (q_len isl77 rfl (by exact len_map _ _))) ?_
  refine rg_g rfl rfl (fun hG => (q_gtr rfl rfl)) ?_
  refine rg_pick rfl rfl rfl rfl rfl rfl ?_
  refine rn ?_
  change Awp _ _ _ _ _
  refine awp_cond rfl (fun hc3 => ?_) (fun hc3 => ?_)
  ·
   (try simp only [nb, ne_eq] at hc3)
   refine awp_seq ?_
   refine awp_region 1 mixed (by kernel_rfl) ?_
   refine rg_q (q_a rfl) ?_
   refine rn ?_
   change Awp _ _ _ _ _
   refine awp_ret ?_
   refine ⟨_, (.cons (.tmp (by exact .d _)) .nil), ?_⟩
   rfl
  ·
   (try simp only [nb, ne_eq] at hc3)
   obtain ⟨hl1, hl2⟩ := lit_le hc3.1
   have hl20 : dd.length ≤ 20 := by have := hc3.2; omega
   refine awp_skip ?_
   change Awp _ _ _ _ _
   refine awp_seq ?_
   refine awp_region 10 mixed (by kernel_rfl) ?_
   refine rg_q (q_loadA sz37 rfl rfl rfl) ?_
   refine rg_q (q_call en21 (.cons rfl .nil) rfl (rcopyT_p _ (by omega) (by omega))) ?_
   refine rg_q (q_move (x := .d (.sl _ _)) rfl) ?_
   refine rg_q (q_call en42 (.cons rfl .nil) rfl (copyInts5_p _ (by omega))) ?_
   refine rg_q (q_call en50 (.cons rfl (.cons rfl .nil)) rfl (coverage5_p _ _)) ?_
   refine rg_q (q_move (x := .d (.tup _)) rfl) (rg_q (q_extract rfl rfl) (rg_q (q_extract rfl rfl) (rg_q (q_assign (x := .d (.sl _ _)) rfl) (rg_q (q_a rfl) ?_))))
   refine rs (awp_region 10 mixed (by kernel_rfl) ?_)
   refine rg_q (q_loadA sz37 rfl rfl rfl) ?_
   refine rg_q (q_call en21 (.cons rfl .nil) rfl (rcopyT_p _ (by omega) (by omega))) ?_
   refine rg_q (q_move (x := .d (.sl _ _)) rfl) ?_
   refine rg_q (q_call en42 (.cons rfl .nil) rfl (copyInts5_p _ (by omega))) ?_
   refine rg_q (q_call en51 (.cons rfl (.cons rfl .nil)) rfl (without5_p _ _)) ?_
   refine rg_q (q_move (x := .d (.tup _)) rfl) (rg_q (q_extract rfl rfl) (rg_q (q_extract rfl rfl) (rg_q (q_assign (x := .d (.sl _ _)) rfl) (rg_q (q_a rfl) ?_))))
   refine rs (awp_region 3 mixed (by kernel_rfl) ?_)
   refine rg_q (q_loadA sz37 rfl rfl rfl) ?_
   refine rg_q (q_call en24 (.cons rfl .nil) rfl (rtaskErr_p _)) ?_
   refine rg_q (q_a rfl) ?_
   refine rn ?_
   change Awp _ _ _ _ _
   refine awp_seq ?_
   refine awp_seq ?_
   refine awp_region 2 mixed (by kernel_rfl) ?_
   refine rg_q (q_m rfl) (rg_q (q_eql rfl rfl) ?_)
   refine rn ?_
   change Awp _ _ _ _ _
   refine awp_cond rfl (fun hc8 => ?_) (fun hc8 => ?_)
   ·
    (try simp only [nb, ne_eq] at hc8)
    have hok : TskOk t := ckT_ok hc8
    have hel := hok.el
    have hne1 := hok.n1
    have hne2 := hok.n2
    have hw : deE t dd = ddE t.ne dd := by unfold deE; rw [if_neg (fun q => q hc8)]
    have hwn : ddE (t.ar.el.length : Int) dd = ddE t.ne dd := by rw [hel]
    refine awp_region 7 mixed (by kernel_rfl) ?_
    refine rg_q (q_fieldAddr fld37_0 rfl) (rg_q (q_fieldAddr fld28_0 rfl) (rg_q (q_load sz22 rfl rfl) ?_))
    refine rg_q (q_len isl22 rfl (by exact len_map _ _)) ?_
    refine rg_q (q_move (x := .d (.sl _ _)) rfl) ?_
    refine rg_q (q_call en52 (.cons rfl (.cons rfl .nil)) rfl (rdeadErr_p t.ar.el.length dd (by omega) (by omega))) ?_
    refine rg_q (q_a rfl) ?_
    refine rn ?_
    change Awp _ _ _ _ _
    refine awp_len (t := 49) rfl (fun hl49 => ?_)
    (try simp only [List.length_map] at hl49)
    refine awp_seq ?_
    refine awp_seq ?_
    refine awp_region 2 mixed (by kernel_rfl) ?_
    refine rg_q (q_m rfl) (rg_q (q_neq rfl rfl) ?_)
    refine rn ?_
    change Awp _ _ _ _ _
    refine awp_cond rfl (fun hc10 => ?_) (fun hc10 => ?_)
    ·
     (try simp only [nb, ne_eq] at hc10)
     rw [hwn] at hc10
     have hz1 : coR t dd = ([], ddE (t.ar.el.length : Int) dd) := by unfold coR; rw [hw, if_pos hc10, hwn]
     have hz2 : woR t dd = ([], ddE (t.ar.el.length : Int) dd) := by unfold woR; rw [hw, if_pos hc10, hwn]
     rw [hz1, hz2]
     refine awp_seq ?_
     refine awp_region 17 mixed (by kernel_rfl) ?_
     refine rg_q (q_m rfl) (rg_q (q_m rfl) (rg_q (q_eql rfl rfl) (rg_q (q_m rfl) ?_)))
     refine rg_g rfl rfl (fun hG => (q_m rfl)) ?_
     refine rg_g rfl rfl (fun hG => (q_m rfl)) ?_
     refine rg_g rfl rfl (fun hG => (q_eql rfl rfl)) ?_
     refine rg_pick rfl rfl rfl rfl rfl rfl ?_
     refine rg_q (q_m rfl) ?_
     refine rg_g rfl rfl (fun hG => (q_move (x := .d (.sl _ _)) rfl)) ?_
     refine rg_g rfl rfl (fun hG => (q_len isl77 rfl (by exact len_map _ _))) ?_
     refine rg_g rfl rfl (fun hG => (q_move (x := .d (.sl _ _)) rfl)) ?_
     refine rg_g rfl rfl (fun hG => (q_len isl72 rfl (by exact len_map _ _))) ?_
     refine rg_g rfl rfl (fun hG => (q_add rfl rfl (In64.mk (by simp only [List.length_nil]; omega) (by simp only [List.length_nil]; omega)))) ?_
     refine rg_g rfl rfl (fun hG => (q_eql rfl rfl)) ?_
     refine rg_pick rfl rfl rfl rfl rfl rfl ?_
     refine rg_q (q_a rfl) ?_
     refine rn ?_
     change Awp _ _ _ _ _
     refine awp_ret ?_
     refine ⟨_, (.cons (.tmp (by exact .d _)) .nil), ?_⟩
     simp [retD]
    ·
     (try simp only [nb, ne_eq] at hc10)
     rw [hwn] at hc10
     have hz1 : coR t dd = (cvF t dd (clN t), 0) := by unfold coR; rw [hw, if_neg (fun q => q hc10)]
     have hz2 : woR t dd = (imL t (evI t) dd, 0) := by unfold woR; rw [hw, if_neg (fun q => q hc10)]
     have hen : t.ne.toNat = t.ar.el.length := by omega
     have hz3 : woR t (allL t.ar.el.length) = (List.replicate (clN t) (0, 0), 0) := by
      have e : deE t (allL t.ar.el.length) = 0 := by unfold deE; rw [if_neg (fun q => q hc8), ← hel]; exact dd_all _
      unfold woR; rw [e, if_neg (fun q => q rfl), im_none _ hen]
     have hz4 : woR t [] = (imL t (evI t) [], 0) := by
      have e : deE t [] = 0 := by unfold deE; rw [if_neg (fun q => q hc8)]; rfl
      unfold woR; rw [e, if_neg (fun q => q rfl)]
     have hz5 : imgR t = (imL t (evI t) [], 0) := by unfold imgR; rw [if_neg (fun q => q hc8)]
     obtain ⟨hg, _, _⟩ := ckG_ok hok.gr
     have hci := cells_in hg
     have hcn : ((clN t : Nat) : Int) = t.g.co * t.g.ro := by unfold clN; omega
     rw [hz1, hz2]
     refine awp_skip ?_
     change Awp _ _ _ _ _
     refine awp_seq ?_
     refine awp_seq ?_
     refine awp_region 22 mixed (by kernel_rfl) ?_
     refine rg_q (q_m rfl) (rg_q (q_neq rfl rfl) (rg_q (q_m rfl) ?_))
     refine rg_g rfl rfl (fun hG => (q_move (x := .d (.sl _ _)) rfl)) ?_
     refine rg_g rfl rfl (fun hG => (q_loadA sz37 rfl rfl rfl)) ?_
     refine rg_g rfl rfl (fun hG => (q_move (x := .d (.sl _ _)) rfl)) ?_
     refine rg_g rfl rfl (fun hG => (q_call en53 (.cons rfl (.cons rfl .nil)) rfl (rcoverage_p _ _ (by assumption)))) ?_
     refine rg_g rfl rfl (fun hG => (q_call en49 (.cons rfl (.cons rfl .nil)) rfl (ints5_p _ _))) ?_
     refine rg_g rfl rfl (fun hG => (q_not rfl)) ?_
     refine rg_pick rfl rfl rfl rfl rfl rfl ?_
     refine rg_q (q_m rfl) ?_
     refine rg_g rfl rfl (fun hG => (q_m rfl)) ?_
     refine rg_g rfl rfl (fun hG => (q_neq rfl rfl)) ?_
     refine rg_pick rfl rfl rfl rfl rfl rfl ?_
     refine rg_q (q_m rfl) ?_
     refine rg_g rfl rfl (fun hG => (q_move (x := .d (.sl _ _)) rfl)) ?_
     refine rg_g rfl rfl (fun hG => (q_loadA sz37 rfl rfl rfl)) ?_
     refine rg_g rfl rfl (fun hG => (q_move (x := .d (.sl _ _)) rfl)) ?_
     refine rg_g rfl rfl (fun hG => (q_call en54 (.cons rfl (.cons rfl .nil)) rfl (rwithout_p _ _ (by assumption)))) ?_
     refine rg_g rfl rfl (fun hG => (q_call en38 (.cons rfl (.cons rfl .nil)) rfl (sameNums_p _ _))) ?_
     refine rg_g rfl rfl (fun hG => (q_not rfl)) ?_
     refine rg_pick rfl rfl rfl rfl rfl rfl ?_
     refine rn ?_
     change Awp _ _ _ _ _
     refine awp_cond rfl (fun hc12 => ?_) (fun hc12 => ?_)
     ·
      simp at hc12
     ·
      (try simp only [nb, ne_eq] at hc12)
      refine awp_skip ?_
      change Awp _ _ _ _ _
      refine awp_seq ?_
      refine awp_region 13 mixed (by kernel_rfl) ?_
      refine rg_q (q_loadA sz37 rfl rfl rfl) ?_
      refine rg_q (q_call en21 (.cons rfl .nil) rfl (rcopyT_p _ (by omega) (by omega))) ?_
      refine rg_q (q_fieldAddr fld37_0 rfl) (rg_q (q_fieldAddr fld28_0 rfl) (rg_q (q_load sz22 rfl rfl) ?_))
      refine rg_q (q_len isl22 rfl (by exact len_map _ _)) ?_
      refine rg_q (q_call en55 (.cons rfl .nil) rfl (rall_p t.ar.el.length (by omega))) ?_
      refine rg_q (q_call en51 (.cons rfl (.cons rfl .nil)) rfl ((by have q := without5_p t (allL t.ar.el.length); rw [hz3] at q; exact q))) ?_
      refine rg_q (q_move (x := .d (.tup _)) rfl) (rg_q (q_extract rfl rfl) (rg_q (q_extract rfl rfl) (rg_q (q_assign (x := .d (.sl _ _)) rfl) (rg_q (q_a rfl) ?_))))
      refine rn ?_
      change Awp _ _ _ _ _
      refine awp_len (t := 98) rfl (fun hl98 => ?_)
      (try simp only [List.length_map] at hl98)
      refine awp_seq ?_
      refine awp_region 8 mixed (by kernel_rfl) ?_
      refine rg_q (q_loadA sz37 rfl rfl rfl) ?_
      refine rg_q (q_call en21 (.cons rfl .nil) rfl (rcopyT_p _ (by omega) (by omega))) ?_
      refine rg_q (q_call en51 (.cons rfl (.cons rfl .nil)) rfl ((by have q := without5_p t []; rw [hz4] at q; exact q))) ?_
      refine rg_q (q_move (x := .d (.tup _)) rfl) (rg_q (q_extract rfl rfl) (rg_q (q_extract rfl rfl) (rg_q (q_assign (x := .d (.sl _ _)) rfl) (rg_q (q_a rfl) ?_))))
      refine rs (awp_region 8 mixed (by kernel_rfl) ?_)
      refine rg_q (q_loadA sz37 rfl rfl rfl) ?_
      refine rg_q (q_call en21 (.cons rfl .nil) rfl (rcopyT_p _ (by omega) (by omega))) ?_
      refine rg_q (q_call en37 (.cons rfl .nil) rfl ((by have q := image5_p t; rw [hz5] at q; exact q))) ?_
      refine rg_q (q_move (x := .d (.tup _)) rfl) (rg_q (q_extract rfl rfl) (rg_q (q_extract rfl rfl) (rg_q (q_assign (x := .d (.sl _ _)) rfl) (rg_q (q_a rfl) ?_))))
      refine rn ?_
      change Awp _ _ _ _ _
      refine awp_seq ?_
      refine awp_seq ?_
      refine awp_region 16 mixed (by kernel_rfl) ?_
      refine rg_q (q_m rfl) (rg_q (q_neq rfl rfl) (rg_q (q_m rfl) ?_))
      refine rg_g rfl rfl (fun hG => (q_m rfl)) ?_
      refine rg_g rfl rfl (fun hG => (q_neq rfl rfl)) ?_
      refine rg_pick rfl rfl rfl rfl rfl rfl ?_
      refine rg_q (q_m rfl) ?_
      refine rg_g rfl rfl (fun hG => (q_m rfl)) ?_
      refine rg_g rfl rfl (fun hG => (q_neq rfl rfl)) ?_
      refine rg_pick rfl rfl rfl rfl rfl rfl ?_
      refine rg_q (q_m rfl) ?_
      refine rg_g rfl rfl (fun hG => (q_move (x := .d (.sl _ _)) rfl)) ?_
      refine rg_g rfl rfl (fun hG => (q_move (x := .d (.sl _ _)) rfl)) ?_
      refine rg_g rfl rfl (fun hG => (q_call en38 (.cons rfl (.cons rfl .nil)) rfl (sameNums_p _ _))) ?_
      refine rg_g rfl rfl (fun hG => (q_not rfl)) ?_
      refine rg_pick rfl rfl rfl rfl rfl rfl ?_
      refine rn ?_
      change Awp _ _ _ _ _
      refine awp_cond rfl (fun hc17 => ?_) (fun hc17 => ?_)
      ·
       simp at hc17
      ·
       (try simp only [nb, ne_eq] at hc17)
       refine awp_skip ?_
       change Awp _ _ _ _ _
       refine awp_seq ?_
       refine awp_seq ?_
       refine awp_region 1 mixed (by kernel_rfl) ?_
       refine rg_q (q_a rfl) ?_
       refine rn ?_
       change Awp _ _ _ _ _
       refine awp_block ?_
       refine awp_loopH [4, 16, 132, 133, 134, 135, 136, 137, 138, 139, 140, 141, 142, 143] [] (α := Nat) (fun k => [(16, T.i (k : Int))]) (fun k => []) (fun k => k ≤ clN t) (fun k => clN t - k) 0 (Nat.zero_le _) ?_ ?_
       · exact le_head (ms := []) (by repeat (exact Out.refl _)) ⟨(by rfl), trivial⟩ trivial rfl rfl rfl rfl
       ·
        intro k hk
        refine awp_seq ?_
        refine awp_seq ?_
        refine awp_region 4 mixed (by kernel_rfl) ?_
        refine rg_q (q_m rfl) (rg_q (q_move (x := .d (.sl _ _)) rfl) ?_)
        refine rg_q (q_len isl72 rfl (by exact len_map _ _)) ?_
        refine rg_q (q_lss rfl rfl) ?_
        refine rn ?_
        change Awp _ _ _ _ _
        refine awp_len (t := 133) rfl (fun hl133 => ?_)
        (try simp only [List.length_map] at hl133)
        refine awp_cond rfl (fun hc20 => ?_) (fun hc20 => ?_)
        ·
         (try simp only [nb, ne_eq] at hc20)
         have hlt : k < clN t := by simpa using hc20
         have hx : (List.replicate (clN t) ((0 : Nat), (0 : Nat)))[k]? = some (0, 0) := List.getElem?_replicate_of_lt hlt
         refine awp_skip ?_
         change Awp _ _ _ _ _
         refine awp_seq ?_
         refine awp_block ?_
         refine awp_seq ?_
         refine awp_region 6 mixed (by kernel_rfl) ?_
         refine rg_q (q_move (x := .d (.sl _ _)) rfl) (rg_q (q_m rfl) ?_)
         refine rg_q (q_indexAddr sl72 rfl rfl (by omega) (map_at (by omega) hx)) ?_
         refine rg_q (q_load sz46 rfl rfl) ?_
         refine rg_q (q_call en26 (.cons rfl (.cons rfl .nil)) rfl (sameBits_p 0 0 0 0)) ?_
         refine rg_q (q_not rfl) ?_
         refine rn ?_
         change Awp _ _ _ _ _
         refine awp_cond rfl (fun hc22 => ?_) (fun hc22 => ?_)
         ·
          simp [sbB] at hc22
         ·
          (try simp only [nb, ne_eq] at hc22)
          refine awp_skip ?_
          change Awp _ _ _ _ _
          refine awp_region 3 mixed (by kernel_rfl) ?_
          refine rg_q (q_m rfl) ?_
          refine rg_q (q_add rfl rfl (In64.mk (by omega) (by omega))) ?_
          refine rg_q (q_a rfl) ?_
          refine rn ?_
          refine ⟨k + 1, by omega, by omega, ?_⟩
          exact le_head (ms := []) (by repeat (first | exact Out.head rfl rfl | (refine Out.put ?_ rfl))) ⟨(by rfl), trivial⟩ trivial rfl rfl rfl rfl
        ·
         (try simp only [nb, ne_eq] at hc20)
         refine awp_exit ?_
         change Awp _ _ _ _ _
         refine awp_seq ?_
         refine awp_region 7 mixed (by kernel_rfl) ?_
         refine rg_q (q_move (x := .d (.sl _ _)) rfl) ?_
         refine rg_q (q_len isl72 rfl (by exact len_map _ _)) ?_
         refine rg_q (q_fieldAddr fld37_2 rfl) ?_
         refine rg_q (q_loadA (ds := [_, _, _, _, _]) sz35 rfl rfl rfl) ?_
         refine rg_q (q_call en56 (.cons rfl .nil) rfl (rcells_p _ (by assumption))) ?_
         refine rg_q (q_eql rfl rfl) (rg_q (q_a rfl) ?_)
         refine rn ?_
         change Awp _ _ _ _ _
         refine awp_len (t := 144) rfl (fun hl144 => ?_)
         (try simp only [List.length_map] at hl144)
         refine awp_ret ?_
         refine ⟨_, (.cons (.tmp (by exact .d _)) .nil), ?_⟩
         simp [retD]; omega
   ·
    (try simp only [nb, ne_eq] at hc8)
    have hw : deE t dd = (ckT t).2 := by unfold deE; rw [if_pos hc8]
    refine awp_skip ?_
    change Awp _ _ _ _ _
    refine awp_seq ?_
    refine awp_seq ?_
    refine awp_region 2 mixed (by kernel_rfl) ?_
    refine rg_q (q_m rfl) (rg_q (q_neq rfl rfl) ?_)
    refine rn ?_
    change Awp _ _ _ _ _
    refine awp_cond rfl (fun hc10 => ?_) (fun hc10 => ?_)
    ·
     (try simp only [nb, ne_eq] at hc10)
     have hz1 : coR t dd = ([], (ckT t).2) := by unfold coR; rw [hw, if_pos hc8]
     have hz2 : woR t dd = ([], (ckT t).2) := by unfold woR; rw [hw, if_pos hc8]
     rw [hz1, hz2]
     refine awp_seq ?_
     refine awp_region 17 mixed (by kernel_rfl) ?_
     refine rg_q (q_m rfl) (rg_q (q_m rfl) (rg_q (q_eql rfl rfl) (rg_q (q_m rfl) ?_)))
     refine rg_g rfl rfl (fun hG => (q_m rfl)) ?_
     refine rg_g rfl rfl (fun hG => (q_m rfl)) ?_
     refine rg_g rfl rfl (fun hG => (q_eql rfl rfl)) ?_
     refine rg_pick rfl rfl rfl rfl rfl rfl ?_
     refine rg_q (q_m rfl) ?_
     refine rg_g rfl rfl (fun hG => (q_move (x := .d (.sl _ _)) rfl)) ?_
     refine rg_g rfl rfl (fun hG => (q_len isl77 rfl (by exact len_map _ _))) ?_
     refine rg_g rfl rfl (fun hG => (q_move (x := .d (.sl _ _)) rfl)) ?_
     refine rg_g rfl rfl (fun hG => (q_len isl72 rfl (by exact len_map _ _))) ?_
     refine rg_g rfl rfl (fun hG => (q_add rfl rfl (In64.mk (by simp only [List.length_nil]; omega) (by simp only [List.length_nil]; omega)))) ?_
     refine rg_g rfl rfl (fun hG => (q_eql rfl rfl)) ?_
     refine rg_pick rfl rfl rfl rfl rfl rfl ?_
     refine rg_q (q_a rfl) ?_
     refine rn ?_
     change Awp _ _ _ _ _
     refine awp_ret ?_
     refine ⟨_, (.cons (.tmp (by exact .d _)) .nil), ?_⟩
     simp [retD]
    ·
     (try simp only [nb, ne_eq] at hc10)
     exact absurd hc10 hc8
end Go.Proofs.YtphlaicnmmglhaaGreat.Am.M
