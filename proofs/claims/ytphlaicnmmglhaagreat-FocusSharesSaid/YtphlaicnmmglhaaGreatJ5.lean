/- Contracts over the abstract machine, joined. Conditions: none. -/
import Derived.Test.YtphlaicnmmglhaaGreatJ4
import Derived.Test.YtphlaicnmmglhaaGreatAmF
import Derived.Test.YtphlaicnmmglhaaGreatJ1
set_option linter.unusedVariables false
set_option linter.unusedSimpArgs false
-- mini
namespace Go.Proofs.YtphlaicnmmglhaaGreat.Am.M
open Go

theorem lt_q {M Q : Nat} (hQ : 0 < Q) (h : 16777216 * Q ≤ M) : 2047 * Q < M := by omega
theorem nan_of {b : Nat} {s : Bool} {t : Nat} (h : Ieee.single.read b = .nan s t) : (FloatKind.f32.decode b).isNaN = true := by
  have e : FloatKind.f32.decode b = Ieee.single.read b := rfl
  rw [e, h]; rfl
set_option maxRecDepth 100000 in
theorem rsampleN_p (b : Nat) (h : (FloatKind.f32.decode b).isNaN = true) : PC Tryz.prog 235 [fd b] (.v (.int .i64 (25))) := by
 refine pc_of_awp Tryz.func235 rfl Tryz.ntmps235 (rs := [.tmp 2]) Tryz.results235 (by simp) fun w0 => ?_
 refine awp_seq ?_
 refine awp_region 1 mixed (by kernel_rfl) ?_
 refine rg_q (q_a rfl) ?_
 refine rn ?_
 change Awp _ _ _ _ _
 refine awp_seq ?_
 refine awp_seq ?_
 refine awp_region 4 mixed (by kernel_rfl) ?_
 refine rg_q (q_m rfl) ?_
 refine rg_q (q_convffN flt117 flt167 (by decide) rfl h) ?_
 refine rg_q (q_call en194 (.cons rfl .nil) rfl (isWholeN_p)) ?_
 refine rg_q (q_not rfl) ?_
 refine rn ?_
 change Awp _ _ _ _ _
 refine awp_cond rfl (fun hc1 => ?_) (fun hc1 => ?_)
 ·
  (try simp only [nb, ne_eq] at hc1)
  refine awp_seq ?_
  refine awp_region 1 mixed (by kernel_rfl) ?_
  refine rg_q (q_a rfl) ?_
  refine rn ?_
  change Awp _ _ _ _ _
  refine awp_ret ?_
  refine ⟨_, (.cons (.tmp (by exact .d _)) .nil), ?_⟩
  rfl
 ·
  simp at hc1
set_option maxRecDepth 100000 in
theorem rsampleB_p (b b' : Nat) (w c1 c2 : Bool) (hc : floatToFloatBits .f32 b .f64 = some b') (hw : whD b' = w) (h1 : ordB .lss (FloatKind.f32.format.order b 3305103360) = c1) (h2 : ordB .gtr (FloatKind.f32.format.order b 1157619712) = c2) : PC Tryz.prog 235 [fd b] (.v (.int .i64 (if w = true then (if (c1 || c2) = true then 2 else 0) else 25))) := by
 refine pc_of_awp Tryz.func235 rfl Tryz.ntmps235 (rs := [.tmp 2]) Tryz.results235 (by simp) fun w0 => ?_
 refine awp_seq ?_
 refine awp_region 1 mixed (by kernel_rfl) ?_
 refine rg_q (q_a rfl) ?_
 refine rn ?_
 change Awp _ _ _ _ _
 refine awp_seq ?_
 refine awp_seq ?_
 refine awp_region 4 mixed (by kernel_rfl) ?_
 refine rg_q (q_m rfl) ?_
 refine rg_q (q_convff flt117 flt167 rfl hc) ?_
 refine rg_q (q_call en194 (.cons rfl .nil) rfl ((by have h := isWhole_p b'; rw [hw] at h; exact h))) ?_
 refine rg_q (q_not rfl) ?_
 refine rn ?_
 change Awp _ _ _ _ _
 refine awp_cond rfl (fun hc1 => ?_) (fun hc1 => ?_)
 ·
  (try simp only [nb, ne_eq] at hc1)
  rw [if_neg (by rw [hc1]; decide)]
  refine awp_seq ?_
  refine awp_region 1 mixed (by kernel_rfl) ?_
  refine rg_q (q_a rfl) ?_
  refine rn ?_
  change Awp _ _ _ _ _
  refine awp_ret ?_
  refine ⟨_, (.cons (.tmp (by exact .d _)) .nil), ?_⟩
  rfl
 ·
  (try simp only [nb, ne_eq] at hc1)
  rw [if_pos hc1]
  refine awp_skip ?_
  change Awp _ _ _ _ _
  refine awp_seq ?_
  refine awp_seq ?_
  refine awp_region 6 mixed (by kernel_rfl) ?_
  refine rg_q (q_m rfl) ?_
  refine rg_q (q_fcmp (by decide) rfl rfl h1) ?_
  refine rg_q (q_m rfl) ?_
  refine rg_g rfl rfl (fun hG => (q_m rfl)) ?_
  refine rg_g rfl rfl (fun hG => (q_fcmp (by decide) rfl rfl h2)) ?_
  refine rg_pick rfl rfl rfl rfl rfl rfl ?_
  refine rn ?_
  change Awp _ _ _ _ _
  refine awp_cond rfl (fun hc3 => ?_) (fun hc3 => ?_)
  ·
   (try simp only [nb, ne_eq] at hc3)
   rw [if_pos (show (c1 || c2) = true by simpa using hc3)]
   refine awp_seq ?_
   refine awp_region 1 mixed (by kernel_rfl) ?_
   refine rg_q (q_a rfl) ?_
   refine rn ?_
   change Awp _ _ _ _ _
   refine awp_ret ?_
   refine ⟨_, (.cons (.tmp (by exact .d _)) .nil), ?_⟩
   rfl
  ·
   (try simp only [nb, ne_eq] at hc3)
   rw [if_neg (show ¬ (c1 || c2) = true by simpa using hc3)]
   refine awp_skip ?_
   change Awp _ _ _ _ _
   refine awp_seq ?_
   refine awp_region 1 mixed (by kernel_rfl) ?_
   refine rg_q (q_a rfl) ?_
   refine rn ?_
   change Awp _ _ _ _ _
   refine awp_ret ?_
   refine ⟨_, (.cons (.tmp (by exact .d _)) .nil), ?_⟩
   rfl

theorem out_M {s : Bool} {M : Nat} (K : Nat) : (decide (sgI s M < sgI true K) || decide (sgI false K < sgI s M)) = decide (K < M) := by
  rw [← Bool.decide_or]
  refine decide_eq_decide.2 ?_
  unfold sgI
  cases s <;> simp <;> omega
theorem rsampleErr5_p (b : Nat) : PC Tryz.prog 235 [fd b] (.v (.int .i64 (sE b))) := by
  cases hr : Ieee.single.read b with
  | nan s t =>
    have e : sE b = 25 := by unfold sE; rw [hr]
    rw [e]
    exact rsampleN_p b (nan_of hr)
  | infinity s =>
    have e : sE b = 25 := by unfold sE; rw [hr]
    rw [e]
    obtain ⟨b', h1, h2⟩ := wide_inf hr
    exact rsampleB_p b b' false _ _ h1 (by unfold whD; rw [h2]) rfl rfl
  | number s m e =>
    obtain ⟨M, hM⟩ : ∃ M, m * 2 ^ (e + KK).toNat = M := ⟨_, rfl⟩
    have hn := num_of fmS LS hr
    rw [hM] at hn
    have e1 : sE b = sEM M := by unfold sE; rw [hr]; simp only [hM]
    rw [e1]
    obtain ⟨b', h1, m', e', h2, h3⟩ := wide_num hr
    have h := rsampleB_p b b' (decide (M % QQ = 0)) _ _ h1 (by unfold whD; rw [h2]; simp only [h3, hM]) (ob_lss hn num_m2047) (ob_gtr hn num_2047)
    rw [out_M] at h
    have e2 : (if decide (M % QQ = 0) = true then (if decide (2047 * QQ < M) = true then (2 : Int) else 0) else 25) = sEM M := by
      unfold sEM
      by_cases h4 : M % QQ = 0
      · rw [if_pos (decide_eq_true h4), if_neg (c := M % QQ ≠ 0) (fun q => q h4)]
        by_cases h5 : 16777216 * QQ ≤ M
        · have h6 : decide (2047 * QQ < M) = true := by
            revert h5
            have hq := QQ_pos
            generalize QQ = q at hq ⊢
            exact fun h5 => decide_eq_true (lt_q hq h5)
          rw [if_pos h5, if_pos (show decide (2047 * QQ < M) = true from h6)]
        · rw [if_neg h5]
          by_cases h6 : 2047 * QQ < M
          · rw [if_pos (decide_eq_true h6), if_pos h6]
          · rw [if_neg (by rw [decide_eq_false h6]; decide), if_neg h6]
      · have h5 : ¬ 16777216 * QQ ≤ M := fun q => h4 (big_whole fmS hr hM (Nat.le_trans (Nat.mul_le_mul_right QQ (show 2 ^ (23 + 1) ≤ 16777216 by decide)) q))
        rw [if_neg (by rw [decide_eq_false h4]; decide), if_neg h5, if_pos (c := M % QQ ≠ 0) h4]
    rw [e2] at h
    exact h
set_option maxRecDepth 100000 in
theorem rsamples5_p (l : List Nat) : PC Tryz.prog 169 [.sl 1 (l.map fC)] (.tup [.v (.int .i64 ((ssE 0 l).1)), .v (.int .i64 ((ssE 0 l).2))]) := by
 refine pc_of_awp Tryz.func169 rfl Tryz.ntmps169 (rs := [.tmp 2, .tmp 3]) Tryz.results169 (by simp) fun w0 => ?_
 refine awp_seq ?_
 refine awp_region 2 mixed (by kernel_rfl) ?_
 refine rg_q (q_a rfl) (rg_q (q_a rfl) ?_)
 refine rn ?_
 change Awp _ _ _ _ _
 refine awp_seq ?_
 refine awp_seq ?_
 refine awp_region 1 mixed (by kernel_rfl) ?_
 refine rg_q (q_a rfl) ?_
 refine rn ?_
 change Awp _ _ _ _ _
 refine awp_block ?_
 refine awp_loopH [2, 3, 4, 5, 6, 7, 8, 9, 10, 11, 12, 13, 14, 15, 16, 17, 18, 19, 20] [] (α := Nat) (fun k => [(4, T.i (k : Int))]) (fun k => []) (fun k => k ≤ l.length ∧ ssE 0 l = ssE k (l.drop k)) (fun k => l.length - k) 0 ⟨Nat.zero_le _, rfl⟩ ?_ ?_
 · exact le_head (ms := []) (by repeat (exact Out.refl _)) ⟨(by rfl), trivial⟩ trivial rfl rfl rfl rfl
 ·
  intro k ⟨hk, hf⟩
  refine awp_seq ?_
  refine awp_seq ?_
  refine awp_region 4 mixed (by kernel_rfl) ?_
  refine rg_q (q_m rfl) (rg_q (q_move (x := .d (.sl _ _)) rfl) ?_)
  refine rg_q (q_len isl29 rfl (by exact len_map _ _)) ?_
  refine rg_q (q_lss rfl rfl) ?_
  refine rn ?_
  change Awp _ _ _ _ _
  refine awp_len (t := 7) rfl (fun hl7 => ?_)
  (try simp only [List.length_map] at hl7)
  refine awp_cond rfl (fun hc2 => ?_) (fun hc2 => ?_)
  ·
   (try simp only [nb, ne_eq] at hc2)
   have hlt : k < l.length := by omega
   obtain ⟨x, hx⟩ : ∃ x, l[k]? = some x := ⟨_, List.getElem?_eq_getElem hlt⟩
   have hd := ssE_at hx
   refine awp_skip ?_
   change Awp _ _ _ _ _
   refine awp_seq ?_
   refine awp_block ?_
   refine awp_seq ?_
   refine awp_region 6 mixed (by kernel_rfl) ?_
   refine rg_q (q_move (x := .d (.sl _ _)) rfl) (rg_q (q_m rfl) ?_)
   refine rg_q (q_indexAddr sl29 rfl rfl (by omega) (map_at (by omega) hx)) ?_
   refine rg_q (q_load sz117 rfl rfl) ?_
   refine rg_q (q_call en235 (.cons rfl .nil) rfl (rsampleErr5_p _)) ?_
   refine rg_q (q_a rfl) ?_
   refine rs (awp_region 2 mixed (by kernel_rfl) ?_)
   refine rg_q (q_m rfl) (rg_q (q_neq rfl rfl) ?_)
   refine rn ?_
   change Awp _ _ _ _ _
   refine awp_cond rfl (fun hc5 => ?_) (fun hc5 => ?_)
   ·
    (try simp only [nb, ne_eq] at hc5)
    have hb : sE x ≠ 0 := hc5
    have hz : ssE 0 l = ((k : Int), sE x) := by rw [hf, hd, if_pos hb]
    rw [hz]
    refine awp_seq ?_
    refine awp_region 4 mixed (by kernel_rfl) ?_
    refine rg_q (q_m rfl) (rg_q (q_m rfl) (rg_q (q_a rfl) (rg_q (q_a rfl) ?_)))
    refine rn ?_
    change Awp _ _ _ _ _
    refine awp_ret ?_
    refine ⟨_, (.cons (.tmp (by exact .d _)) (.cons (.tmp (by exact .d _)) .nil)), ?_⟩
    rfl
   ·
    (try simp only [nb, ne_eq] at hc5)
    have hb : sE x = 0 := hc5
    refine awp_skip ?_
    change Awp _ _ _ _ _
    refine awp_region 3 mixed (by kernel_rfl) ?_
    refine rg_q (q_m rfl) ?_
    refine rg_q (q_add rfl rfl (In64.mk (by omega) (by omega))) ?_
    refine rg_q (q_a rfl) ?_
    refine rn ?_
    refine ⟨k + 1, ⟨by omega, by rw [hf, hd, if_neg (by rw [hb]; simp)]⟩, by omega, ?_⟩
    exact le_head (ms := []) (by repeat (first | exact Out.head rfl rfl | (refine Out.put ?_ rfl))) ⟨(by rfl), trivial⟩ trivial rfl rfl rfl rfl
  ·
   (try simp only [nb, ne_eq] at hc2)
   have hk0 : ssE 0 l = (0, 0) := by rw [hf, List.drop_of_length_le (by omega)]; rfl
   rw [hk0]
   refine awp_exit ?_
   change Awp _ _ _ _ _
   refine awp_seq ?_
   refine awp_region 2 mixed (by kernel_rfl) ?_
   refine rg_q (q_a rfl) (rg_q (q_a rfl) ?_)
   refine rn ?_
   change Awp _ _ _ _ _
   refine awp_ret ?_
   refine ⟨_, (.cons (.tmp (by exact .d _)) (.cons (.tmp (by exact .d _)) .nil)), ?_⟩
   rfl
set_option maxRecDepth 100000 in
theorem rcheckMatrix5_p (ne : Int) (l : List Nat) : PC Tryz.prog 93 [.agg [.v (.int .i64 (ne)), .sl 1 (l.map fC)]] (.tup [.v (.int .i64 ((ckM ne l).1)), .v (.int .i64 ((ckM ne l).2))]) := by
 have hu : ckM ne l = if inR 1 ne 16 = true then (if (l.length : Int) ≠ ne * ne * 64 then (0, 10) else ssE 0 l) else (0, 2) := rfl
 refine pc_of_awp Tryz.func93 rfl Tryz.ntmps93 (rs := [.tmp 2, .tmp 3]) Tryz.results93 (by simp) fun w0 => ?_
 refine awp_seq ?_
 refine awp_region 3 mixed (by kernel_rfl) ?_
 refine rg_q (q_box rfl (by exact .inr ⟨_, rfl⟩)) ?_
 refine rg_q (q_a rfl) (rg_q (q_a rfl) ?_)
 refine rn ?_
 change Awp _ _ _ _ _
 refine awp_seq ?_
 refine awp_seq ?_
 refine awp_region 4 mixed (by kernel_rfl) ?_
 refine rg_q (q_fieldAddr fld31_0 rfl) (rg_q (q_load sz3 rfl rfl) ?_)
 refine rg_q (q_call en31 (.cons rfl (.cons rfl (.cons rfl .nil))) rfl (within4_p _ _ _)) ?_
 refine rg_q (q_not rfl) ?_
 refine rn ?_
 change Awp _ _ _ _ _
 refine awp_cond rfl (fun hc1 => ?_) (fun hc1 => ?_)
 ·
  (try simp only [nb, ne_eq] at hc1)
  rw [if_neg (by simpa using hc1)] at hu
  rw [hu]
  refine awp_seq ?_
  refine awp_region 2 mixed (by kernel_rfl) ?_
  refine rg_q (q_a rfl) (rg_q (q_a rfl) ?_)
  refine rn ?_
  change Awp _ _ _ _ _
  refine awp_ret ?_
  refine ⟨_, (.cons (.tmp (by exact .d _)) (.cons (.tmp (by exact .d _)) .nil)), ?_⟩
  rfl
 ·
  (try simp only [nb, ne_eq] at hc1)
  have hr1 : inR 1 ne 16 = true := by simpa using hc1
  rw [if_pos hr1] at hu
  obtain ⟨hn1, hn2⟩ := inR_iff.1 hr1
  have hm := mulb (a := ne) (b := ne) (A := 16) (B := 16) (by omega) (by omega) (by omega) (by omega)
  refine awp_skip ?_
  change Awp _ _ _ _ _
  refine awp_seq ?_
  refine awp_seq ?_
  refine awp_region 10 mixed (by kernel_rfl) ?_
  refine rg_q (q_fieldAddr fld31_1 rfl) (rg_q (q_load sz29 rfl rfl) ?_)
  refine rg_q (q_len isl29 rfl (by exact len_map _ _)) ?_
  refine rg_q (q_fieldAddr fld31_0 rfl) (rg_q (q_load sz3 rfl rfl) (rg_q (q_fieldAddr fld31_0 rfl) (rg_q (q_load sz3 rfl rfl) ?_)))
  refine rg_q (q_mul rfl rfl (In64.mk (by omega) (by omega))) ?_
  refine rg_q (q_mul rfl rfl (In64.mk (by omega) (by omega))) ?_
  refine rg_q (q_neq rfl rfl) ?_
  refine rn ?_
  change Awp _ _ _ _ _
  refine awp_len (t := 9) rfl (fun hl9 => ?_)
  (try simp only [List.length_map] at hl9)
  refine awp_cond rfl (fun hc3 => ?_) (fun hc3 => ?_)
  ·
   (try simp only [nb, ne_eq] at hc3)
   rw [if_pos (by simpa using hc3)] at hu
   rw [hu]
   refine awp_seq ?_
   refine awp_region 2 mixed (by kernel_rfl) ?_
   refine rg_q (q_a rfl) (rg_q (q_a rfl) ?_)
   refine rn ?_
   change Awp _ _ _ _ _
   refine awp_ret ?_
   refine ⟨_, (.cons (.tmp (by exact .d _)) (.cons (.tmp (by exact .d _)) .nil)), ?_⟩
   rfl
  ·
   (try simp only [nb, ne_eq] at hc3)
   rw [if_neg (by simpa using hc3)] at hu
   rw [hu]
   refine awp_skip ?_
   change Awp _ _ _ _ _
   refine awp_seq ?_
   refine awp_region 7 mixed (by kernel_rfl) ?_
   refine rg_q (q_fieldAddr fld31_1 rfl) (rg_q (q_load sz29 rfl rfl) ?_)
   refine rg_q (q_call en169 (.cons rfl .nil) rfl (rsamples5_p l)) ?_
   refine rg_q (q_extract rfl rfl) (rg_q (q_extract rfl rfl) (rg_q (q_a rfl) (rg_q (q_a rfl) ?_)))
   refine rn ?_
   change Awp _ _ _ _ _
   refine awp_ret ?_
   refine ⟨_, (.cons (.tmp (by exact .d _)) (.cons (.tmp (by exact .d _)) .nil)), ?_⟩
   rfl

def brkB (g : Grd) (th : Int) : Bool := !inR 1 g.fz (th - 1) || !inR 1 (spI g (g.co * g.ro - 1)).2 (th - 1)
theorem brk_is {g : Grd} (hg : GrdOk g) {th : Int} : brkB g th = true ↔ (g.fz < 1 ∨ th - 1 < (spI g (g.co * g.ro - 1)).2) := by
  unfold brkB
  rw [sp_last hg]
  have h1 := hg.r1
  have h2 := hg.s1
  have h3 := Int.mul_nonneg (show 0 ≤ g.ro - 1 by omega) (show 0 ≤ g.st by omega)
  simp only [inR, Bool.or_eq_true, Bool.not_eq_true', Bool.and_eq_false_iff, decide_eq_false_iff_not]
  omega
set_option maxRecDepth 100000 in
theorem rcheckTask_p (t : Tsk) : PC Tryz.prog 22 [.agg (tskC t)] (.tup [.v (.int .i64 ((ckT t).1)), .v (.int .i64 ((ckT t).2))]) := by
 have hu : ckT t = if (ckArr t.ar).2 ≠ 0 then ckArr t.ar
  else if (ckM t.ne t.bf).2 ≠ 0 then (0, (ckM t.ne t.bf).2)
  else if (t.ar.el.length : Int) ≠ t.ne then (0, 13)
  else if ckG t.g ≠ 0 then (0, ckG t.g)
  else (0, whenI (!inR 1 t.g.fz (t.ar.ou.t - 1) || !inR 1 (spI t.g (t.g.co * t.g.ro - 1)).2 (t.ar.ou.t - 1)) 22) := rfl
 refine pc_of_awpN Tryz.func22 rfl Tryz.ntmps22 (rs := [.tmp 2, .tmp 3]) Tryz.results22 (by simp) fun w0 hmine hrnd hpn => ?_
 refine awp_seq ?_
 refine awp_region 3 mixed (by kernel_rfl) ?_
 refine rg_q (q_box rfl (by exact .inr ⟨_, rfl⟩)) ?_
 refine rg_q (q_a rfl) (rg_q (q_a rfl) ?_)
 refine rn ?_
 change Awp _ _ _ _ _
 refine awp_seq ?_
 refine awp_seq ?_
 refine awp_region 8 mixed (by kernel_rfl) ?_
 refine rg_q (q_fieldAddr fld37_0 rfl) ?_
 refine rg_q (q_loadA (ds := [_, _, _, _, _, _, _, _, _, _, _]) sz28 rfl rfl rfl) ?_
 refine rg_q (q_call en92 (.cons rfl .nil) rfl (rcheckArr_p t.ar)) ?_
 refine rg_q (q_move (x := .d (.tup _)) rfl) (rg_q (q_extract rfl rfl) (rg_q (q_extract rfl rfl) (rg_q (q_a rfl) (rg_q (q_a rfl) ?_))))
 refine rs (awp_region 2 mixed (by kernel_rfl) ?_)
 refine rg_q (q_m rfl) (rg_q (q_neq rfl rfl) ?_)
 refine rn ?_
 change Awp _ _ _ _ _
 refine awp_cond rfl (fun hc2 => ?_) (fun hc2 => ?_)
 ·
  (try simp only [nb, ne_eq] at hc2)
  have h1 : (ckArr t.ar).2 ≠ 0 := hc2
  rw [if_pos h1] at hu
  rw [hu]
  refine awp_seq ?_
  refine awp_region 4 mixed (by kernel_rfl) ?_
  refine rg_q (q_m rfl) (rg_q (q_m rfl) (rg_q (q_a rfl) (rg_q (q_a rfl) ?_)))
  refine rn ?_
  change Awp _ _ _ _ _
  refine awp_ret ?_
  refine ⟨_, (.cons (.tmp (by exact .d _)) (.cons (.tmp (by exact .d _)) .nil)), ?_⟩
  rfl
 ·
  (try simp only [nb, ne_eq] at hc2)
  have h1 : ¬ (ckArr t.ar).2 ≠ 0 := fun q => q hc2
  rw [if_neg h1] at hu
  refine awp_skip ?_
  change Awp _ _ _ _ _
  refine awp_seq ?_
  refine awp_seq ?_
  refine awp_region 8 mixed (by kernel_rfl) ?_
  refine rg_q (q_fieldAddr fld37_1 rfl) ?_
  refine rg_q (q_loadA (ds := [_, _]) sz31 rfl rfl rfl) ?_
  refine rg_q (q_call en93 (.cons rfl .nil) rfl (rcheckMatrix5_p t.ne t.bf)) ?_
  refine rg_q (q_move (x := .d (.tup _)) rfl) (rg_q (q_extract rfl rfl) (rg_q (q_extract rfl rfl) (rg_q (q_a rfl) (rg_q (q_a rfl) ?_))))
  refine rs (awp_region 2 mixed (by kernel_rfl) ?_)
  refine rg_q (q_m rfl) (rg_q (q_neq rfl rfl) ?_)
  refine rn ?_
  change Awp _ _ _ _ _
  refine awp_cond rfl (fun hc5 => ?_) (fun hc5 => ?_)
  ·
   (try simp only [nb, ne_eq] at hc5)
   have h2 : (ckM t.ne t.bf).2 ≠ 0 := hc5
   rw [if_pos h2] at hu
   rw [hu]
   refine awp_seq ?_
   refine awp_region 3 mixed (by kernel_rfl) ?_
   refine rg_q (q_m rfl) (rg_q (q_a rfl) (rg_q (q_a rfl) ?_))
   refine rn ?_
   change Awp _ _ _ _ _
   refine awp_ret ?_
   refine ⟨_, (.cons (.tmp (by exact .d _)) (.cons (.tmp (by exact .d _)) .nil)), ?_⟩
   rfl
  ·
   (try simp only [nb, ne_eq] at hc5)
   have h2 : ¬ (ckM t.ne t.bf).2 ≠ 0 := fun q => q hc5
   rw [if_neg h2] at hu
   refine awp_skip ?_
   change Awp _ _ _ _ _
   refine awp_seq ?_
   refine awp_seq ?_
   refine awp_region 8 mixed (by kernel_rfl) ?_
   refine rg_q (q_fieldAddr fld37_1 rfl) (rg_q (q_fieldAddr fld31_0 rfl) (rg_q (q_load sz3 rfl rfl) (rg_q (q_fieldAddr fld37_0 rfl) (rg_q (q_fieldAddr fld28_0 rfl) (rg_q (q_load sz22 rfl rfl) ?_)))))
   refine rg_q (q_len isl22 rfl (by exact len_map _ _)) ?_
   refine rg_q (q_neq rfl rfl) ?_
   refine rn ?_
   change Awp _ _ _ _ _
   refine awp_len (t := 33) rfl (fun hl33 => ?_)
   (try simp only [List.length_map] at hl33)
   refine awp_cond rfl (fun hc7 => ?_) (fun hc7 => ?_)
   ·
    (try simp only [nb, ne_eq] at hc7)
    have h3 : (t.ar.el.length : Int) ≠ t.ne := by omega
    rw [if_pos h3] at hu
    rw [hu]
    refine awp_seq ?_
    refine awp_region 2 mixed (by kernel_rfl) ?_
    refine rg_q (q_a rfl) (rg_q (q_a rfl) ?_)
    refine rn ?_
    change Awp _ _ _ _ _
    refine awp_ret ?_
    refine ⟨_, (.cons (.tmp (by exact .d _)) (.cons (.tmp (by exact .d _)) .nil)), ?_⟩
    rfl
   ·
    (try simp only [nb, ne_eq] at hc7)
    have h3 : ¬ (t.ar.el.length : Int) ≠ t.ne := by omega
    rw [if_neg h3] at hu
    refine awp_skip ?_
    change Awp _ _ _ _ _
    refine awp_seq ?_
    refine awp_seq ?_
    refine awp_region 4 mixed (by kernel_rfl) ?_
    refine rg_q (q_fieldAddr fld37_2 rfl) ?_
    refine rg_q (q_loadA (ds := [_, _, _, _, _]) sz35 rfl rfl rfl) ?_
    refine rg_q (q_call en74 (.cons rfl .nil) rfl (rcheckGrid_p t.g)) ?_
    refine rg_q (q_a rfl) ?_
    refine rs (awp_region 2 mixed (by kernel_rfl) ?_)
    refine rg_q (q_m rfl) (rg_q (q_neq rfl rfl) ?_)
    refine rn ?_
    change Awp _ _ _ _ _
    refine awp_cond rfl (fun hc10 => ?_) (fun hc10 => ?_)
    ·
     (try simp only [nb, ne_eq] at hc10)
     have h4 : ckG t.g ≠ 0 := hc10
     rw [if_pos h4] at hu
     rw [hu]
     refine awp_seq ?_
     refine awp_region 3 mixed (by kernel_rfl) ?_
     refine rg_q (q_m rfl) (rg_q (q_a rfl) (rg_q (q_a rfl) ?_))
     refine rn ?_
     change Awp _ _ _ _ _
     refine awp_ret ?_
     refine ⟨_, (.cons (.tmp (by exact .d _)) (.cons (.tmp (by exact .d _)) .nil)), ?_⟩
     rfl
    ·
     (try simp only [nb, ne_eq] at hc10)
     have h4 : ¬ ckG t.g ≠ 0 := fun q => q hc10
     rw [if_neg h4] at hu
     obtain ⟨hao, _⟩ := ckArr_ok (Decidable.not_not.1 h1)
     have ht1 := hao.ou.t1
     have ht2 := hao.ou.t2
     obtain ⟨hg, hg1, hg2⟩ := ckG_ok (Decidable.not_not.1 h4)
     have hci := cells_in hg
     have hz : ckT t = (0, whenI (brkB t.g t.ar.ou.t) 22) := hu
     refine awp_skip ?_
     change Awp _ _ _ _ _
     refine awp_seq ?_
     refine awp_seq ?_
     refine awp_region 21 mixed (by kernel_rfl) ?_
     refine rg_q (q_fieldAddr fld37_2 rfl) (rg_q (q_fieldAddr fld35_0 rfl) (rg_q (q_fieldAddr fld33_1 rfl) (rg_q (q_load sz3 rfl rfl) (rg_q (q_lss rfl rfl) (rg_q (q_m rfl) ?_)))))
     refine rg_g rfl rfl (fun hG => (q_fieldAddr fld37_2 rfl)) ?_
     refine rg_g rfl rfl (fun hG => (q_loadA (ds := [_, _, _, _, _]) sz35 rfl rfl rfl)) ?_
     refine rg_g rfl rfl (fun hG => (q_fieldAddr fld37_2 rfl)) ?_
     refine rg_g rfl rfl (fun hG => (q_loadA (ds := [_, _, _, _, _]) sz35 rfl rfl rfl)) ?_
     refine rg_g rfl rfl (fun hG => (q_call en56 (.cons rfl .nil) rfl (rcells_p _ (by assumption)))) ?_
     refine rg_g rfl rfl (fun hG => (q_sub rfl rfl (In64.mk (by (have hg0 := T.bool_inj (a := _) hG.1; (try simp only [nb, ne_eq] at hg0); omega)) (by (have hg0 := T.bool_inj (a := _) hG.1; (try simp only [nb, ne_eq] at hg0); omega))))) ?_
     refine rg_g rfl rfl (fun hG => (q_call en76 (.cons rfl (.cons rfl .nil)) rfl (rspot_p _ _ (by assumption) (by omega) (by omega)))) ?_
     refine rg_g rfl rfl (fun hG => (q_field fd33_1 sz3 rfl rfl)) ?_
     refine rg_g rfl rfl (fun hG => (q_fieldAddr fld37_0 rfl)) ?_
     refine rg_g rfl rfl (fun hG => (q_fieldAddr fld28_1 rfl)) ?_
     refine rg_g rfl rfl (fun hG => (q_fieldAddr fld24_3 rfl)) ?_
     refine rg_g rfl rfl (fun hG => (q_load sz3 rfl rfl)) ?_
     refine rg_g rfl rfl (fun hG => (q_sub rfl rfl (In64.mk (by (have hg0 := T.bool_inj (a := _) hG.1; (try simp only [nb, ne_eq] at hg0); omega)) (by (have hg0 := T.bool_inj (a := _) hG.1; (try simp only [nb, ne_eq] at hg0); omega))))) ?_
     refine rg_g rfl rfl (fun hG => (q_gtr rfl rfl)) ?_
     refine rg_pick rfl rfl rfl rfl rfl rfl ?_
     refine rn ?_
     change Awp _ _ _ _ _
     refine awp_cond rfl (fun hc12 => ?_) (fun hc12 => ?_)
     ·
      (try simp only [nb, ne_eq] at hc12)
      rw [(brk_is hg).2 hc12] at hz
      refine awp_seq ?_
      refine awp_region 2 mixed (by kernel_rfl) ?_
      refine rg_q (q_a rfl) (rg_q (q_a rfl) ?_)
      refine rn ?_
      change Awp _ _ _ _ _
      refine awp_ret ?_
      refine ⟨_, (.cons (.tmp (by exact .d _)) (.cons (.tmp (by exact .d _)) .nil)), ?_⟩
      rw [hz]; rfl
     ·
      (try simp only [nb, ne_eq] at hc12)
      have hb : brkB t.g t.ar.ou.t = false := by
       cases q : brkB t.g t.ar.ou.t with
       | false => rfl
       | true => have := (brk_is hg).1 q; omega
      rw [hb] at hz
      refine awp_skip ?_
      change Awp _ _ _ _ _
      refine awp_seq ?_
      refine awp_region 2 mixed (by kernel_rfl) ?_
      refine rg_q (q_a rfl) (rg_q (q_a rfl) ?_)
      refine rn ?_
      change Awp _ _ _ _ _
      refine awp_ret ?_
      refine ⟨_, (.cons (.tmp (by exact .d _)) (.cons (.tmp (by exact .d _)) .nil)), ?_⟩
      rw [hz]; rfl
set_option maxRecDepth 100000 in
theorem rtaskErr_p (t : Tsk) : PC Tryz.prog 24 [.agg (tskC t)] (.v (.int .i64 ((ckT t).2))) := by
 refine pc_of_awp Tryz.func24 rfl Tryz.ntmps24 (rs := [.tmp 2]) Tryz.results24 (by simp) fun w0 => ?_
 refine awp_seq ?_
 refine awp_region 2 mixed (by kernel_rfl) ?_
 refine rg_q (q_box rfl (by exact .inr ⟨_, rfl⟩)) ?_
 refine rg_q (q_a rfl) ?_
 refine rs (awp_region 7 mixed (by kernel_rfl) ?_)
 refine rg_q (q_loadA sz37 rfl rfl rfl) ?_
 refine rg_q (q_call en22 (.cons rfl .nil) rfl (rcheckTask_p _)) ?_
 refine rg_q (q_move (x := .d (.tup _)) rfl) (rg_q (q_extract rfl rfl) (rg_q (q_extract rfl rfl) (rg_q (q_a rfl) (rg_q (q_a rfl) ?_))))
 refine rs (awp_region 2 mixed (by kernel_rfl) ?_)
 refine rg_q (q_m rfl) (rg_q (q_a rfl) ?_)
 refine rn ?_
 change Awp _ _ _ _ _
 refine awp_ret ?_
 refine ⟨_, (.cons (.tmp (by exact .d _)) .nil), ?_⟩
 rfl
set_option maxRecDepth 100000 in
theorem copyMatrix5_p (ne : Int) (l : List Nat) (hl : l.length ≤ 10000) : PC Tryz.prog 62 [.agg [.v (.int .i64 (ne)), .sl 1 (l.map fC)]] (.agg (mtxC ne l)) := by
 refine pc_of_awp Tryz.func62 rfl Tryz.ntmps62 (rs := [.cell 2 31]) Tryz.results62 (by simp) fun w0 => ?_
 refine awp_seq ?_
 refine awp_region 1 mixed (by kernel_rfl) ?_
 refine rg_q (q_box rfl (by exact .inr ⟨_, rfl⟩)) ?_
 refine rg_nil ?_
 refine aops_alloc zr31 rfl rfl rfl ?_
 refine aops_nil ?_
 change Awp _ _ _ _ _
 refine awp_seq ?_
 refine awp_region 7 mixed (by kernel_rfl) ?_
 refine rg_q (q_fieldAddr fld31_0 rfl) (rg_q (q_load sz3 rfl rfl) ?_)
 refine rg_q (q_empty0 sl29 zr117) ?_
 refine rg_q (q_fieldAddr fld31_1 rfl) (rg_q (q_load sz29 rfl rfl) ?_)
 refine rg_q (q_append0 sl29 zr117 by117 rfl (by decide) rfl rfl rfl (by (try simp only [List.length_map]); omega) (by (try simp only [List.length_map]); omega)) ?_
 refine rg_q (q_build (cs := [_, _]) pl31 zr31 rfl (.cons rfl (by exact .inl rfl) (.cons rfl (by exact .inl rfl) .nil)) ⟨⟨rfl, by decide⟩, ⟨rfl, by decide⟩, trivial⟩ rfl) ?_
 refine rg_nil ?_
 refine aops_store sz31 rfl rfl (by exact .inr ⟨_, rfl⟩) rfl rfl (by decide) rfl ?_
 refine aops_nil ?_
 change Awp _ _ _ _ _
 refine awp_ret ?_
 refine ⟨_, (.cons (.cellA rfl rfl sz31 rfl) .nil), ?_⟩
 rfl
set_option maxRecDepth 100000 in
theorem rcopyT_p (t : Tsk) (h1 : t.ar.el.length ≤ 1000) (h2 : t.bf.length ≤ 10000) : PC Tryz.prog 21 [.agg (tskC t)] (.agg (tskC t)) := by
 refine pc_of_awp Tryz.func21 rfl Tryz.ntmps21 (rs := [.cell 2 37]) Tryz.results21 (by simp) fun w0 => ?_
 refine awp_seq ?_
 refine awp_region 1 mixed (by kernel_rfl) ?_
 refine rg_q (q_box rfl (by exact .inr ⟨_, rfl⟩)) ?_
 refine rg_nil ?_
 refine aops_alloc zr37 rfl rfl rfl ?_
 refine aops_nil ?_
 change Awp _ _ _ _ _
 refine awp_seq ?_
 refine awp_region 9 mixed (by kernel_rfl) ?_
 refine rg_q (q_fieldAddr fld37_0 rfl) ?_
 refine rg_q (q_loadA (ds := [_, _, _, _, _, _, _, _, _, _, _]) sz28 rfl rfl rfl) ?_
 refine rg_q (q_call en79 (.cons rfl .nil) rfl (copyArr_p t.ar h1)) ?_
 refine rg_q (q_fieldAddr fld37_1 rfl) ?_
 refine rg_q (q_loadA (ds := [_, _]) sz31 rfl rfl rfl) ?_
 refine rg_q (q_call en62 (.cons rfl .nil) rfl (copyMatrix5_p t.ne t.bf h2)) ?_
 refine rg_q (q_fieldAddr fld37_2 rfl) ?_
 refine rg_q (q_loadA (ds := [_, _, _, _, _]) sz35 rfl rfl rfl) ?_
 refine rg_q (q_build pl37 zr37 rfl (.cons rfl (by exact .inr ⟨_, rfl⟩) (.cons rfl (by exact .inr ⟨_, rfl⟩) (.cons rfl (by exact .inr ⟨_, rfl⟩) .nil))) ⟨⟨rfl, by decide⟩, ⟨rfl, by decide⟩, ⟨rfl, by decide⟩, trivial⟩ rfl) ?_
 refine rg_nil ?_
 refine aops_store sz37 rfl rfl (by exact .inr ⟨_, rfl⟩) rfl rfl (by decide) rfl ?_
 refine aops_nil ?_
 change Awp _ _ _ _ _
 refine awp_ret ?_
 refine ⟨_, (.cons (.cellA rfl rfl sz37 rfl) .nil), ?_⟩
 rfl

def smlB (g : Grd) : Bool := if (!inR 1 g.co 40 || !inR 1 g.ro 40) = true then true else decide (g.co * g.ro ≤ 12)
def litB (t : Tsk) : Bool := (decide (t.ar.el.length ≤ 2) || (decide (16 < t.ar.el.length) && decide (t.ar.el.length ≤ 18))) && decide (t.bf.length ≤ 260) && smlB t.g
theorem lit_le {t : Tsk} (h : litB t = true) : t.ar.el.length ≤ 18 ∧ t.bf.length ≤ 260 := by
  unfold litB at h
  simp only [Bool.and_eq_true, Bool.or_eq_true, decide_eq_true_eq] at h
  omega
set_option maxRecDepth 100000 in
theorem small5_p (g : Grd) : PC Tryz.prog 40 [.agg (grdC g)] (.v (.bool (smlB g))) := by
 refine pc_of_awp Tryz.func40 rfl Tryz.ntmps40 (rs := [.tmp 2]) Tryz.results40 (by simp) fun w0 => ?_
 refine awp_seq ?_
 refine awp_region 2 mixed (by kernel_rfl) ?_
 refine rg_q (q_box rfl (by exact .inr ⟨_, rfl⟩)) ?_
 refine rg_q (q_a rfl) ?_
 refine rn ?_
 change Awp _ _ _ _ _
 refine awp_seq ?_
 refine awp_seq ?_
 refine awp_region 10 mixed (by kernel_rfl) ?_
 refine rg_q (q_fieldAddr fld35_1 rfl) (rg_q (q_load sz3 rfl rfl) ?_)
 refine rg_q (q_call en31 (.cons rfl (.cons rfl (.cons rfl .nil))) rfl (within4_p _ _ _)) ?_
 refine rg_q (q_not rfl) (rg_q (q_m rfl) ?_)
 refine rg_g rfl rfl (fun hG => (q_fieldAddr fld35_2 rfl)) ?_
 refine rg_g rfl rfl (fun hG => (q_load sz3 rfl rfl)) ?_
 refine rg_g rfl rfl (fun hG => (q_call en31 (.cons rfl (.cons rfl (.cons rfl .nil))) rfl (within4_p _ _ _))) ?_
 refine rg_g rfl rfl (fun hG => (q_not rfl)) ?_
 refine rg_pick rfl rfl rfl rfl rfl rfl ?_
 refine rn ?_
 change Awp _ _ _ _ _
 refine awp_cond rfl (fun hc1 => ?_) (fun hc1 => ?_)
 ·
  (try simp only [nb, ne_eq] at hc1)
  have hz : smlB g = true := by unfold smlB; rw [if_pos (by rcases hc1 with q | q <;> simp [q])]
  refine awp_seq ?_
  refine awp_region 1 mixed (by kernel_rfl) ?_
  refine rg_q (q_a rfl) ?_
  refine rn ?_
  change Awp _ _ _ _ _
  refine awp_ret ?_
  refine ⟨_, (.cons (.tmp (by exact .d _)) .nil), ?_⟩
  rw [hz]; rfl
 ·
  (try simp only [nb, ne_eq] at hc1)
  obtain ⟨q1, q2⟩ := hc1
  have hz : smlB g = decide (g.co * g.ro ≤ 12) := by unfold smlB; rw [if_neg (by rw [q1, q2]; decide)]
  obtain ⟨a1, a2⟩ := inR_iff.1 q1
  obtain ⟨a3, a4⟩ := inR_iff.1 q2
  have hm := mulb (a := g.co) (b := g.ro) (A := 40) (B := 40) (by omega) (by omega) (by omega) (by omega)
  refine awp_skip ?_
  change Awp _ _ _ _ _
  refine awp_seq ?_
  refine awp_region 7 mixed (by kernel_rfl) ?_
  refine rg_q (q_fieldAddr fld35_1 rfl) (rg_q (q_load sz3 rfl rfl) (rg_q (q_fieldAddr fld35_2 rfl) (rg_q (q_load sz3 rfl rfl) ?_)))
  refine rg_q (q_mul rfl rfl (In64.mk (by omega) (by omega))) ?_
  refine rg_q (q_leq rfl rfl) (rg_q (q_a rfl) ?_)
  refine rn ?_
  change Awp _ _ _ _ _
  refine awp_ret ?_
  refine ⟨_, (.cons (.tmp (by exact .d _)) .nil), ?_⟩
  rw [hz]; rfl
set_option maxRecDepth 100000 in
theorem light_p (t : Tsk) : PC Tryz.prog 19 [.agg (tskC t)] (.v (.bool (litB t))) := by
 refine pc_of_awp Tryz.func19 rfl Tryz.ntmps19 (rs := [.tmp 2]) Tryz.results19 (by simp) fun w0 => ?_
 refine awp_seq ?_
 refine awp_region 2 mixed (by kernel_rfl) ?_
 refine rg_q (q_box rfl (by exact .inr ⟨_, rfl⟩)) ?_
 refine rg_q (q_a rfl) ?_
 refine rs (awp_region 32 mixed (by kernel_rfl) ?_)
 refine rg_q (q_fieldAddr fld37_0 rfl) (rg_q (q_fieldAddr fld28_0 rfl) (rg_q (q_load sz22 rfl rfl) ?_))
 refine rg_q (q_len isl22 rfl (by exact len_map _ _)) ?_
 refine rg_q (q_leq rfl rfl) (rg_q (q_m rfl) ?_)
 refine rg_g rfl rfl (fun hG => (q_fieldAddr fld37_0 rfl)) ?_
 refine rg_g rfl rfl (fun hG => (q_fieldAddr fld28_0 rfl)) ?_
 refine rg_g rfl rfl (fun hG => (q_load sz22 rfl rfl)) ?_
 refine rg_g rfl rfl (fun hG => (q_len isl22 rfl (by exact len_map _ _))) ?_
 refine rg_g rfl rfl (fun hG => (q_gtr rfl rfl)) ?_
 refine rg_g rfl rfl (fun hG => (q_m rfl)) ?_
 refine rg_g rfl rfl (fun hG => (q_fieldAddr fld37_0 rfl)) ?_
 refine rg_g rfl rfl (fun hG => (q_fieldAddr fld28_0 rfl)) ?_
 refine rg_g rfl rfl (fun hG => (q_load sz22 rfl rfl)) ?_
 refine rg_g rfl rfl (fun hG => (q_len isl22 rfl (by exact len_map _ _))) ?_
 refine rg_g rfl rfl (fun hG => (q_leq rfl rfl)) ?_
 refine rg_pickg rfl rfl rfl rfl rfl rfl rfl rfl ?_
 refine rg_pick rfl rfl rfl rfl rfl rfl ?_
 refine rg_q (q_m rfl) ?_
 refine rg_g rfl rfl (fun hG => (q_fieldAddr fld37_1 rfl)) ?_
 refine rg_g rfl rfl (fun hG => (q_fieldAddr fld31_1 rfl)) ?_
 refine rg_g rfl rfl (fun hG => (q_load sz29 rfl rfl)) ?_
 refine rg_g rfl rfl (fun hG => (q_len isl29 rfl (by exact len_map _ _))) ?_
 refine rg_g rfl rfl (fun hG => (q_leq rfl rfl)) ?_
 refine rg_pick rfl rfl rfl rfl rfl rfl ?_
 refine rg_q (q_m rfl) ?_
 refine rg_g rfl rfl (fun hG => (q_fieldAddr fld37_2 rfl)) ?_
 refine rg_g rfl rfl (fun hG => (q_loadA (ds := [_, _, _, _, _]) sz35 rfl rfl rfl)) ?_
 refine rg_g rfl rfl (fun hG => (q_call en40 (.cons rfl .nil) rfl (small5_p _))) ?_
 refine rg_pick rfl rfl rfl rfl rfl rfl ?_
 refine rg_q (q_a rfl) ?_
 refine rn ?_
 change Awp _ _ _ _ _
 refine awp_len (t := 5) rfl (fun hl5 => ?_)
 (try simp only [List.length_map] at hl5)
 refine awp_ret ?_
 refine ⟨_, (.cons (.tmp (by exact .d _)) .nil), ?_⟩
 have e1 : decide (t.ar.el.length ≤ 2) = decide ((t.ar.el.length : Int) ≤ 2) := decide_eq_decide.2 (by omega)
 have e2 : decide (16 < t.ar.el.length) = decide (16 < (t.ar.el.length : Int)) := decide_eq_decide.2 (by omega)
 have e3 : decide (t.ar.el.length ≤ 18) = decide ((t.ar.el.length : Int) ≤ 18) := decide_eq_decide.2 (by omega)
 have e4 : decide (t.bf.length ≤ 260) = decide ((t.bf.length : Int) ≤ 260) := decide_eq_decide.2 (by omega)
 unfold litB; rw [e1, e2, e3, e4]; simp only [bif_and, bif_or]; rfl
end Go.Proofs.YtphlaicnmmglhaaGreat.Am.M
-- mini
namespace Go.Proofs.YtphlaicnmmglhaaGreat.Am.M
open Go

theorem chK_at {l : List Nat} {i k : Nat} (hk : k < 64) : (chK l i)[k]? = l[64 * i + k]? := by
  unfold chK
  rw [List.getElem?_drop, List.getElem?_take, if_pos (by omega)]
def off5 (n f r : Int) : Int := (f * n + r) * 64
theorem off5_in {n f r : Int} (hn : n ≤ 16) (f0 : 0 ≤ f) (f1 : f < n) (r0 : 0 ≤ r) (r1 : r < n) : (0 ≤ f * n ∧ f * n ≤ 256) ∧ 0 ≤ off5 n f r ∧ off5 n f r + 64 ≤ n * n * 64 := by
  have h1 := Int.mul_nonneg f0 (show 0 ≤ n by omega)
  have h2 := Int.mul_le_mul_of_nonneg_right (show f ≤ n - 1 by omega) (show 0 ≤ n by omega)
  have h3 : (n - 1) * n = n * n - n := by grind
  have h4 := Int.mul_le_mul_of_nonneg_right hn (show 0 ≤ n by omega)
  unfold off5
  omega
theorem flat5 (V : List Int) : (D.agg (V.map fv)).Flat := .agg _ (fun d hd => by
  obtain ⟨x, _, rfl⟩ := List.mem_map.1 hd
  exact .v _)
theorem fv_at {V : List Int} {k : Nat} {v : Int} (h : V[k]? = some v) : (V.map fv)[0 + (k : Int).toNat * 1]? = some (fv v) := by rw [Int.toNat_natCast, Nat.zero_add, Nat.mul_one, List.getElem?_map, h]; rfl
theorem sAt_at {S : List Int} (hS : S.length = 64) {i : Nat} (hi : i < 64) : S[i]? = some (sAt S i) := by
  unfold sAt
  rw [List.getD_eq_getElem?_getD, List.getElem?_eq_getElem (by omega)]; rfl
set_option maxRecDepth 100000 in
theorem at5_p (ne : Int) (l : List Nat) (p : Int × Int) (hn : ne ≤ 16) (p1 : 0 ≤ p.1 ∧ p.1 < ne) (p2 : 0 ≤ p.2 ∧ p.2 < ne) : PC Tryz.prog 241 [.agg (mtxC ne l), .v (.int .i64 (p.1)), .v (.int .i64 (p.2))] (.v (.int .i64 (off5 ne p.1 p.2))) := by
 obtain ⟨⟨a1, a2⟩, a3, a4⟩ := off5_in hn p1.1 p1.2 p2.1 p2.2
 have hn2 := mulb (a := ne) (b := ne) (A := 16) (B := 16) (by omega) (by omega) (by omega) (by omega)
 refine pc_of_awp Tryz.func241 rfl Tryz.ntmps241 (rs := [.tmp 6]) Tryz.results241 (by simp) fun w0 => ?_
 refine awp_seq ?_
 refine awp_region 2 mixed (by kernel_rfl) ?_
 refine rg_q (q_box rfl (by exact .inr ⟨_, rfl⟩)) ?_
 refine rg_q (q_a rfl) ?_
 refine rs (awp_region 8 mixed (by kernel_rfl) ?_)
 refine rg_q (q_m rfl) (rg_q (q_fieldAddr fld31_0 rfl) (rg_q (q_load sz3 rfl rfl) ?_))
 refine rg_q (q_mul rfl rfl (In64.mk (by omega) (by omega))) ?_
 refine rg_q (q_m rfl) ?_
 refine rg_q (q_add rfl rfl (In64.mk (by omega) (by omega))) ?_
 refine rg_q (q_mul rfl rfl (In64.mk (by omega) (by omega))) ?_
 refine rg_q (q_a rfl) ?_
 refine rn ?_
 change Awp _ _ _ _ _
 refine awp_ret ?_
 refine ⟨_, (.cons (.tmp (by exact .d _)) .nil), ?_⟩
 rfl
set_option maxRecDepth 100000 in
theorem trace5_p (S : List Int) (hS : S.length = 64) : PC Tryz.prog 242 [.sl 1 (S.map iC)] (.agg (S.map fv)) := by
 refine pc_of_awp Tryz.func242 rfl Tryz.ntmps242 (rs := [.cell 2 236]) Tryz.results242 (by simp) fun w0 => ?_
 refine awp_seq ?_
 refine awp_region 0 mixed (by kernel_rfl) ?_
 refine rg_nil ?_
 refine aops_alloc zr236 rfl rfl rfl ?_
 refine aops_nil ?_
 change Awp _ _ _ _ _
 refine awp_seq ?_
 refine awp_region 0 mixed (by kernel_rfl) ?_
 refine rg_nil ?_
 refine aops_alloc zr236 rfl rfl rfl ?_
 refine aops_nil ?_
 change Awp _ _ _ _ _
 refine awp_seq ?_
 refine awp_seq ?_
 refine awp_region 1 mixed (by kernel_rfl) ?_
 refine rg_q (q_a rfl) ?_
 refine rn ?_
 change Awp _ _ _ _ _
 refine awp_block ?_
 refine awp_loopH [4, 5, 6, 7, 8, 9, 10, 11, 12, 13, 14, 15, 16, 17, 18, 19, 20, 21] [3] (α := Nat) (fun k => [(4, T.i (k : Int))]) (fun k => [(3, .box (outT S k))]) (fun k => k ≤ 64) (fun k => 64 - k) 0 (Nat.zero_le _) ?_ ?_
 · exact le_head (ms := [3]) (by repeat (exact Out.refl _)) ⟨(by rfl), trivial⟩ ⟨(by rfl), trivial⟩ rfl rfl rfl rfl
 ·
  intro k hk
  refine awp_seq ?_
  refine awp_seq ?_
  refine awp_region 8 mixed (by kernel_rfl) ?_
  refine rg_q (q_m rfl) (rg_q (q_lss rfl rfl) (rg_q (q_m rfl) ?_))
  refine rg_g rfl rfl (fun hG => (q_m rfl)) ?_
  refine rg_g rfl rfl (fun hG => (q_move (x := .d (.sl _ _)) rfl)) ?_
  refine rg_g rfl rfl (fun hG => (q_len isl77 rfl (by exact len_map _ _))) ?_
  refine rg_g rfl rfl (fun hG => (q_lss rfl rfl)) ?_
  refine rg_pick rfl rfl rfl rfl rfl rfl ?_
  refine rn ?_
  change Awp _ _ _ _ _
  refine awp_cond rfl (fun hc3 => ?_) (fun hc3 => ?_)
  ·
   (try simp only [nb, ne_eq] at hc3)
   have hlt : k < S.length := by omega
   obtain ⟨x, hx⟩ : ∃ x, S[k]? = some x := ⟨_, List.getElem?_eq_getElem hlt⟩
   have hst := outT_set hS hx
   have hol : (outT S k).length = 64 := by unfold outT; rw [List.length_append, List.length_map, List.length_take, List.length_replicate]; omega
   refine awp_skip ?_
   change Awp _ _ _ _ _
   refine awp_seq ?_
   refine awp_block ?_
   refine awp_region 7 mixed (by kernel_rfl) ?_
   refine rg_q (q_m rfl) (rg_q (q_move (x := .d (.sl _ _)) rfl) (rg_q (q_m rfl) ?_))
   refine rg_q (q_indexAddr sl77 rfl rfl (by omega) (map_at (by omega) hx)) ?_
   refine rg_q (q_load sz3 rfl rfl) ?_
   refine rg_q (q_convf int3 flt117 rfl) ?_
   refine rg_q (q_indexAddr_aref ar236 rfl rfl (by omega) (by omega)) ?_
   refine rg_nil ?_
   refine aops_store (cs' := outT S (k + 1)) sz117 rfl rfl (by exact .inl rfl) rfl rfl (by rw [hol]; omega) hst ?_
   refine aops_nil ?_
   change Awp _ _ _ _ _
   refine awp_region 3 mixed (by kernel_rfl) ?_
   refine rg_q (q_m rfl) ?_
   refine rg_q (q_add rfl rfl (In64.mk (by omega) (by omega))) ?_
   refine rg_q (q_a rfl) ?_
   refine rn ?_
   refine ⟨k + 1, by omega, by omega, ?_⟩
   exact le_head (ms := [3]) (by repeat (first | exact Out.head rfl rfl | (refine Out.put ?_ rfl) | (refine Out.site ?_ rfl))) ⟨(by rfl), trivial⟩ ⟨(by rfl), trivial⟩ rfl rfl rfl rfl
  ·
   (try simp only [nb, ne_eq] at hc3)
   have hk64 : k = 64 := by omega
   subst hk64
   rw [outT_all hS]
   refine awp_exit ?_
   change Awp _ _ _ _ _
   refine awp_seq ?_
   refine awp_region 1 mixed (by kernel_rfl) ?_
   refine rg_q (q_load_refA (ds := S.map fv) sz236 rfl rfl (by rw [List.drop_zero]; exact List.take_of_length_le (by rw [List.length_map]; omega)) (by rw [List.length_map]; exact hS)) ?_
   refine rg_nil ?_
   refine aops_store (cs' := S.map fv) sz236 rfl rfl (by exact .inr ⟨_, rfl⟩) (by show (S.map fv).length = 64; rw [List.length_map]; exact hS) rfl (Nat.le_of_ble_eq_true rfl) (setCs_all (by show (S.map fv).length = 64; rw [List.length_map]; exact hS)) ?_
   refine aops_nil ?_
   change Awp _ _ _ _ _
   refine awp_ret ?_
   refine ⟨_, (.cons (.cellA rfl rfl sz236 (by show (S.map fv).length = _; rw [List.length_map]; exact hS)) .nil), ?_⟩
   rfl
set_option maxRecDepth 100000 in
theorem rtraceOf5_p (ne : Int) (l : List Nat) (p : Int × Int) (hn : ne ≤ 16) (p1 : 0 ≤ p.1 ∧ p.1 < ne) (p2 : 0 ≤ p.2 ∧ p.2 < ne) (hw : WhlL l) (hl : (l.length : Int) = ne * ne * 64) : PC Tryz.prog 177 [.agg (mtxC ne l), .agg (shC p)] (.agg (((chK l (p.1 * ne + p.2).toNat).map vI).map fv)) := by
 obtain ⟨⟨a1, a2⟩, a3, a4⟩ := off5_in hn p1.1 p1.2 p2.1 p2.2
 have hn2 := mulb (a := ne) (b := ne) (A := 16) (B := 16) (by omega) (by omega) (by omega) (by omega)
 have ho : off5 ne p.1 p.2 = (p.1 * ne + p.2) * 64 := rfl
 have hBl : l.length ≤ 100000 := by omega
 have hml : (l.map fC).length = l.length := List.length_map _
 have hV : ((chK l (p.1 * ne + p.2).toNat).map vI).length = 64 := by rw [List.length_map]; exact chK_len (m := (ne * ne).toNat) (by omega) (by omega)
 refine pc_of_awpN Tryz.func177 rfl Tryz.ntmps177 (rs := [.cell 4 236]) Tryz.results177 (by simp) fun w0 hmine hrnd hpn => ?_
 refine awp_seq ?_
 refine awp_region 2 mixed (by kernel_rfl) ?_
 refine rg_q (q_box rfl (by exact .inr ⟨_, rfl⟩)) ?_
 refine rg_q (q_box rfl (by exact .inr ⟨_, rfl⟩)) ?_
 refine rg_nil ?_
 refine aops_alloc zr236 rfl rfl rfl ?_
 refine aops_nil ?_
 change Awp _ _ _ _ _
 refine awp_seq ?_
 refine awp_region 1 mixed (by kernel_rfl) ?_
 refine rg_q (q_assign_nil) ?_
 refine rn ?_
 change Awp _ _ _ _ _
 refine Awp.le (le_own (k := 5) (e := 3) (sz := 1) rfl rfl) ?_
 refine awp_seq ?_
 refine awp_seq ?_
 refine awp_region 1 mixed (by kernel_rfl) ?_
 refine rg_q (q_a rfl) ?_
 refine rn ?_
 change Awp _ _ _ _ _
 refine awp_block ?_
 refine awp_loopH [5, 6, 7, 8, 9, 10, 11, 12, 13, 14, 15, 16, 17, 18, 19, 20, 21, 22, 23, 24, 25, 26] [5] (α := Nat) (fun k => [(6, T.i (k : Int)), (5, .rs 5)]) (fun k => [(5, .row 3 1 ((((chK l (p.1 * ne + p.2).toNat).map vI).take k).map iC))]) (fun k => k ≤ 64) (fun k => 64 - k) 0 (Nat.zero_le _) ?_ ?_
 · exact le_head (ms := [5]) (by repeat (exact Out.refl _)) ⟨(by rfl), (by rfl), trivial⟩ ⟨(by rfl), trivial⟩ rfl rfl rfl rfl
 ·
  intro k hk
  refine awp_seq ?_
  refine awp_seq ?_
  refine awp_region 2 mixed (by kernel_rfl) ?_
  refine rg_q (q_m rfl) (rg_q (q_lss rfl rfl) ?_)
  refine rn ?_
  change Awp _ _ _ _ _
  refine awp_cond rfl (fun hc3 => ?_) (fun hc3 => ?_)
  ·
   (try simp only [nb, ne_eq] at hc3)
   have hlt : k < 64 := by omega
   have hin : 64 * (p.1 * ne + p.2).toNat + k < l.length := by omega
   obtain ⟨x, hx⟩ : ∃ x, l[64 * (p.1 * ne + p.2).toNat + k]? = some x := ⟨_, List.getElem?_eq_getElem hin⟩
   have hx1 := hw x (List.mem_of_getElem? hx)
   have hxv : ((chK l (p.1 * ne + p.2).toNat).map vI)[k]? = some (vI x) := vI_at (by rw [chK_at hlt]; exact hx)
   have hcast : ((64 * (p.1 * ne + p.2).toNat + k : Nat) : Int) = off5 ne p.1 p.2 + (k : Int) := by omega
   have hs1 : (((chK l (p.1 * ne + p.2).toNat).map vI).take k).map iC ++ [iC (vI x)] = (((chK l (p.1 * ne + p.2).toNat).map vI).take (k + 1)).map iC := by rw [List.take_succ_eq_append_getElem (by omega), (List.getElem?_eq_some_iff.1 hxv).2, List.map_append]; rfl
   have htl : (((chK l (p.1 * ne + p.2).toNat).map vI).take k).length ≤ 64 := by rw [List.length_take]; omega
   refine awp_skip ?_
   change Awp _ _ _ _ _
   refine awp_seq ?_
   refine awp_block ?_
   refine awp_region 15 mixed (by kernel_rfl) ?_
   refine rg_q (q_move (x := .rs _) rfl) (rg_q (q_fieldAddr fld31_1 rfl) (rg_q (q_load sz29 rfl rfl) ?_))
   refine rg_q (q_loadA (ds := [_, _]) sz31 rfl rfl rfl) ?_
   refine rg_q (q_indexAddr_ar ar63 rfl rfl (by omega) (by omega)) ?_
   refine rg_q (q_load sz3 rfl rfl) ?_
   refine rg_q (q_indexAddr_ar ar63 rfl rfl (by omega) (by omega)) ?_
   refine rg_q (q_load sz3 rfl rfl) ?_
   refine rg_q (q_call en241 (.cons rfl (.cons rfl (.cons rfl .nil))) rfl (at5_p ne l p hn p1 p2)) ?_
   refine rg_q (q_m rfl) ?_
   refine rg_q (q_add rfl rfl (In64.mk (by omega) (by omega))) ?_
   refine rg_q (q_indexAddr sl29 rfl rfl (by omega) (map_at (k := 64 * (p.1 * ne + p.2).toNat + k) (by omega) hx)) ?_
   refine rg_q (q_load sz117 rfl rfl) ?_
   refine rg_q (q_convfi flt117 int3 rfl hx1.int) ?_
   refine rg_q (q_buildSlice sl77 zr3 rfl rfl (by decide) (.cons rfl (by exact .inl rfl) .nil) ⟨rfl, rfl, trivial⟩ rfl (by decide) rfl) ?_
   refine rg_nil ?_
   refine aops_append sl77 zr3 by3 rfl (by decide) rfl rfl rfl rfl (by (try simp only [List.length_map, List.length_append, List.length_cons, List.length_nil]); omega) (by (try simp only [List.length_map, List.length_append, List.length_cons, List.length_nil]); omega) rfl rfl ?_
   refine aops_q rfl (q_assign (x := .rs _) rfl) ?_
   refine aops_nil ?_
   change Awp _ _ _ _ _
   refine awp_region 3 mixed (by kernel_rfl) ?_
   refine rg_q (q_m rfl) ?_
   refine rg_q (q_add rfl rfl (In64.mk (by omega) (by omega))) ?_
   refine rg_q (q_a rfl) ?_
   refine rn ?_
   refine ⟨k + 1, by omega, by omega, ?_⟩
   exact le_head (ms := [5]) (by repeat (first | exact Out.head rfl rfl | (refine Out.put ?_ rfl) | (refine Out.site ?_ rfl) | (refine Out.killS ?_ rfl))) ⟨(by rfl), (by rfl), trivial⟩ ⟨(by (show Site.row _ _ _ = Site.row _ _ _; rw [← hs1]; rfl)), trivial⟩ rfl rfl rfl rfl
  ·
   (try simp only [nb, ne_eq] at hc3)
   have hk64 : k = 64 := by omega
   subst hk64
   rw [List.take_of_length_le (by omega)]
   refine awp_exit ?_
   change Awp _ _ _ _ _
   refine awp_seq ?_
   refine awp_region 2 mixed (by kernel_rfl) ?_
   refine rg_q (q_move (x := .rs _) rfl) ?_
   refine rg_q (q_callF en242 (.cons (by exact .rs rfl) .nil) rfl (trace5_p ((chK l (p.1 * ne + p.2).toNat).map vI) hV) (by exact flat5 ((chK l (p.1 * ne + p.2).toNat).map vI))) ?_
   refine rg_nil ?_
   refine aops_store (cs' := ((chK l (p.1 * ne + p.2).toNat).map vI).map fv) sz236 rfl rfl (by exact .inr ⟨_, rfl⟩) (by show (((chK l (p.1 * ne + p.2).toNat).map vI).map fv).length = 64; rw [List.length_map]; exact hV) rfl (Nat.le_of_ble_eq_true rfl) (setCs_all (by show (((chK l (p.1 * ne + p.2).toNat).map vI).map fv).length = 64; rw [List.length_map]; exact hV)) ?_
   refine aops_nil ?_
   change Awp _ _ _ _ _
   refine awp_ret ?_
   refine ⟨_, (.cons (.cellA rfl rfl sz236 (by show (((chK l (p.1 * ne + p.2).toNat).map vI).map fv).length = _; rw [List.length_map]; exact hV)) .nil), ?_⟩
   rfl
set_option maxRecDepth 100000 in
theorem ints64_p (V : List Int) (hV : V.length = 64) (hb : ∀ v ∈ V, -2047 ≤ v ∧ v ≤ 2047) : PC Tryz.prog 240 [.agg (V.map fv)] (.sl 1 (V.map iC)) := by
 refine pc_of_awpN Tryz.func240 rfl Tryz.ntmps240 (rs := [.tmp 2]) Tryz.results240 (by simp) fun w0 hmine hrnd hpn => ?_
 refine awp_seq ?_
 refine awp_region 2 mixed (by kernel_rfl) ?_
 refine rg_q (q_box rfl (by exact .inr ⟨_, rfl⟩)) ?_
 refine rg_q (q_assign (x := .d (.sl _ _)) rfl) ?_
 refine rs (awp_region 1 mixed (by kernel_rfl) ?_)
 refine rg_q (q_assign_nil) ?_
 refine rn ?_
 change Awp _ _ _ _ _
 refine Awp.le (le_own (k := 3) (e := 3) (sz := 1) rfl rfl) ?_
 refine awp_seq ?_
 refine awp_seq ?_
 refine awp_region 1 mixed (by kernel_rfl) ?_
 refine rg_q (q_a rfl) ?_
 refine rn ?_
 change Awp _ _ _ _ _
 refine awp_block ?_
 refine awp_loopH [3, 4, 5, 6, 7, 8, 9, 10, 11, 12, 13, 14, 15] [3] (α := Nat) (fun k => [(4, T.i (k : Int)), (3, .rs 3)]) (fun k => [(3, .row 3 1 ((V.take k).map iC))]) (fun k => k ≤ 64) (fun k => 64 - k) 0 (Nat.zero_le _) ?_ ?_
 · exact le_head (ms := [3]) (by repeat (exact Out.refl _)) ⟨(by rfl), (by rfl), trivial⟩ ⟨(by rfl), trivial⟩ rfl rfl rfl rfl
 ·
  intro k hk
  refine awp_seq ?_
  refine awp_seq ?_
  refine awp_region 2 mixed (by kernel_rfl) ?_
  refine rg_q (q_m rfl) (rg_q (q_lss rfl rfl) ?_)
  refine rn ?_
  change Awp _ _ _ _ _
  refine awp_cond rfl (fun hc3 => ?_) (fun hc3 => ?_)
  ·
   (try simp only [nb, ne_eq] at hc3)
   have hlt : k < 64 := by omega
   obtain ⟨x, hx⟩ : ∃ x, V[k]? = some x := ⟨_, List.getElem?_eq_getElem (by omega)⟩
   obtain ⟨hx1, hx2⟩ := hb x (List.mem_of_getElem? hx)
   have hld := fv_at hx
   have hs1 : (V.take k).map iC ++ [iC x] = (V.take (k + 1)).map iC := by rw [List.take_succ_eq_append_getElem (by omega), (List.getElem?_eq_some_iff.1 hx).2, List.map_append]; rfl
   have htl : (V.take k).length ≤ 64 := by rw [List.length_take]; omega
   refine awp_skip ?_
   change Awp _ _ _ _ _
   refine awp_seq ?_
   refine awp_block ?_
   refine awp_region 6 mixed (by kernel_rfl) ?_
   refine rg_q (q_move (x := .rs _) rfl) (rg_q (q_m rfl) ?_)
   refine rg_q (q_indexAddr_ar ar236 rfl rfl (by omega) (by omega)) ?_
   refine rg_q (q_load sz117 rfl hld) ?_
   refine rg_q (q_convfi flt117 int3 rfl (f32_int (f32_of (by omega) (by omega)))) ?_
   refine rg_q (q_buildSlice sl77 zr3 rfl rfl (by decide) (.cons rfl (by exact .inl rfl) .nil) ⟨rfl, rfl, trivial⟩ rfl (by decide) rfl) ?_
   refine rg_nil ?_
   refine aops_append sl77 zr3 by3 rfl (by decide) rfl rfl rfl rfl (by (try simp only [List.length_map, List.length_append, List.length_cons, List.length_nil]); omega) (by (try simp only [List.length_map, List.length_append, List.length_cons, List.length_nil]); omega) rfl rfl ?_
   refine aops_q rfl (q_assign (x := .rs _) rfl) ?_
   refine aops_nil ?_
   change Awp _ _ _ _ _
   refine awp_region 3 mixed (by kernel_rfl) ?_
   refine rg_q (q_m rfl) ?_
   refine rg_q (q_add rfl rfl (In64.mk (by omega) (by omega))) ?_
   refine rg_q (q_a rfl) ?_
   refine rn ?_
   refine ⟨k + 1, by omega, by omega, ?_⟩
   exact le_head (ms := [3]) (by repeat (first | exact Out.head rfl rfl | (refine Out.put ?_ rfl) | (refine Out.site ?_ rfl) | (refine Out.killS ?_ rfl))) ⟨(by rfl), (by rfl), trivial⟩ ⟨(by (show Site.row _ _ _ = Site.row _ _ _; rw [← hs1]; rfl)), trivial⟩ rfl rfl rfl rfl
  ·
   (try simp only [nb, ne_eq] at hc3)
   have hk64 : k = 64 := by omega
   subst hk64
   rw [List.take_of_length_le (by omega)]
   refine awp_exit ?_
   change Awp _ _ _ _ _
   refine awp_seq ?_
   refine awp_region 2 mixed (by kernel_rfl) ?_
   refine rg_q (q_move (x := .rs _) rfl) (rg_q (q_assign (x := .rs _) rfl) ?_)
   refine rn ?_
   change Awp _ _ _ _ _
   refine awp_ret ?_
   refine ⟨_, (.cons (.tmp (by exact .rs rfl)) .nil), ?_⟩
   rfl

def prtF (V : List Int) (k : Nat) : List (Int × Int) := (List.range k).map fun i => (reI V i, imI V i)
theorem prtF_succ (V : List Int) (k : Nat) : prtF V (k + 1) = prtF V k ++ [(reI V k, imI V k)] := by unfold prtF; rw [List.range_succ, List.map_append]; rfl
theorem prtF_len (V : List Int) (k : Nat) : (prtF V k).length = k := by unfold prtF; rw [List.length_map, List.length_range]
theorem prtF_at {V : List Int} {n k : Nat} (h : k < n) : (prtF V n)[k]? = some (reI V k, imI V k) := by unfold prtF; rw [List.getElem?_map, List.getElem?_range h]; rfl
set_option maxRecDepth 100000 in
theorem parts5_p (V : List Int) (hV : V.length = 64) (hb : ∀ v ∈ V, -2047 ≤ v ∧ v ≤ 2047) : PC Tryz.prog 176 [.agg (V.map fv)] (.sl 2 ((prtF V 61).map shC)) := by
 refine pc_of_awpN Tryz.func176 rfl Tryz.ntmps176 (rs := [.tmp 2]) Tryz.results176 (by simp) fun w0 hmine hrnd hpn => ?_
 refine awp_seq ?_
 refine awp_region 2 mixed (by kernel_rfl) ?_
 refine rg_q (q_box rfl (by exact .inr ⟨_, rfl⟩)) ?_
 refine rg_q (q_assign (x := .d (.sl _ _)) rfl) ?_
 refine rs (awp_region 3 mixed (by kernel_rfl) ?_)
 refine rg_q (q_loadA (ds := V.map fv) sz236 rfl (by rw [List.drop_zero]; exact List.take_of_length_le (by show (V.map fv).length ≤ 64; rw [List.length_map]; omega)) (by rw [List.length_map]; exact hV)) ?_
 refine rg_q (q_call en240 (.cons rfl .nil) rfl (ints64_p V hV hb)) ?_
 refine rg_q (q_assign (x := .d (.sl _ _)) rfl) ?_
 refine rs (awp_region 1 mixed (by kernel_rfl) ?_)
 refine rg_q (q_assign_nil) ?_
 refine rn ?_
 change Awp _ _ _ _ _
 refine Awp.le (le_own (k := 4) (e := 63) (sz := 2) rfl rfl) ?_
 refine awp_seq ?_
 refine awp_seq ?_
 refine awp_region 1 mixed (by kernel_rfl) ?_
 refine rg_q (q_a rfl) ?_
 refine rn ?_
 change Awp _ _ _ _ _
 refine awp_block ?_
 refine awp_loopH [4, 5, 8, 9, 10, 11, 12, 13, 14, 15, 16, 17, 18, 19, 20, 21, 22, 23, 24, 25, 26, 27, 28, 29, 30, 31, 32, 33, 34, 35, 36] [4] (α := Nat) (fun k => [(5, T.i (k : Int)), (4, .rs 4)]) (fun k => [(4, .row 63 2 ((prtF V k).map shC))]) (fun k => k ≤ 61) (fun k => 61 - k) 0 (Nat.zero_le _) ?_ ?_
 · exact le_head (ms := [4]) (by repeat (exact Out.refl _)) ⟨(by rfl), (by rfl), trivial⟩ ⟨(by rfl), trivial⟩ rfl rfl rfl rfl
 ·
  intro k hk
  refine awp_seq ?_
  refine awp_seq ?_
  refine awp_region 2 mixed (by kernel_rfl) ?_
  refine rg_q (q_m rfl) (rg_q (q_lss rfl rfl) ?_)
  refine rn ?_
  change Awp _ _ _ _ _
  refine awp_cond rfl (fun hc4 => ?_) (fun hc4 => ?_)
  ·
   (try simp only [nb, ne_eq] at hc4)
   have hlt : k < 61 := by omega
   have h0 := sAt_at hV (show k < 64 by omega)
   have h1 := sAt_at hV (show k + 1 < 64 by omega)
   have h2 := sAt_at hV (show k + 2 < 64 by omega)
   have h3 := sAt_at hV (show k + 3 < 64 by omega)
   have b0 := sAt_in hb k
   have b1 := sAt_in hb (k + 1)
   have b2 := sAt_in hb (k + 2)
   have b3 := sAt_in hb (k + 3)
   have hml : (V.map iC).length = V.length := List.length_map _
   have hs1 : (prtF V k).map shC ++ [shC (reI V k, imI V k)] = (prtF V (k + 1)).map shC := by rw [prtF_succ, List.map_append]; rfl
   have htl := prtF_len V k
   refine awp_skip ?_
   change Awp _ _ _ _ _
   refine awp_seq ?_
   refine awp_block ?_
   refine awp_region 24 mixed (by kernel_rfl) ?_
   refine rg_q (q_move (x := .rs _) rfl) (rg_q (q_move (x := .d (.sl _ _)) rfl) (rg_q (q_m rfl) ?_))
   refine rg_q (q_indexAddr sl77 rfl rfl (by omega) (map_at (k := k) (by omega) h0)) ?_
   refine rg_q (q_load sz3 rfl rfl) (rg_q (q_move (x := .d (.sl _ _)) rfl) (rg_q (q_m rfl) ?_))
   refine rg_q (q_add rfl rfl (In64.mk (by omega) (by omega))) ?_
   refine rg_q (q_indexAddr sl77 rfl rfl (by omega) (map_at (k := k + 2) (by omega) h2)) ?_
   refine rg_q (q_load sz3 rfl rfl) ?_
   refine rg_q (q_sub rfl rfl (In64.mk (by omega) (by omega))) ?_
   refine rg_q (q_move (x := .d (.sl _ _)) rfl) (rg_q (q_m rfl) ?_)
   refine rg_q (q_add rfl rfl (In64.mk (by omega) (by omega))) ?_
   refine rg_q (q_indexAddr sl77 rfl rfl (by omega) (map_at (k := k + 1) (by omega) h1)) ?_
   refine rg_q (q_load sz3 rfl rfl) (rg_q (q_move (x := .d (.sl _ _)) rfl) (rg_q (q_m rfl) ?_))
   refine rg_q (q_add rfl rfl (In64.mk (by omega) (by omega))) ?_
   refine rg_q (q_indexAddr sl77 rfl rfl (by omega) (map_at (k := k + 3) (by omega) h3)) ?_
   refine rg_q (q_load sz3 rfl rfl) ?_
   refine rg_q (q_sub rfl rfl (In64.mk (by omega) (by omega))) ?_
   refine rg_q (q_buildA (cs := [_, _]) ar63 zr63 rfl (.cons rfl (by exact .inl rfl) (.cons rfl (by exact .inl rfl) .nil)) ⟨⟨rfl, by decide⟩, ⟨rfl, by decide⟩, trivial⟩ rfl) ?_
   refine rg_q (q_buildSlice sl140 zr63 rfl rfl (by decide) (.cons rfl (by exact .inr ⟨_, rfl⟩) .nil) ⟨rfl, rfl, trivial⟩ rfl (by decide) rfl) ?_
   refine rg_nil ?_
   refine aops_append sl140 zr63 by63 rfl (by decide) rfl rfl rfl rfl (by (try simp only [List.length_map, List.length_append, List.length_cons, List.length_nil]); omega) (by (try simp only [List.length_map, List.length_append, List.length_cons, List.length_nil]); omega) rfl rfl ?_
   refine aops_q rfl (q_assign (x := .rs _) rfl) ?_
   refine aops_nil ?_
   change Awp _ _ _ _ _
   refine awp_region 3 mixed (by kernel_rfl) ?_
   refine rg_q (q_m rfl) ?_
   refine rg_q (q_add rfl rfl (In64.mk (by omega) (by omega))) ?_
   refine rg_q (q_a rfl) ?_
   refine rn ?_
   refine ⟨k + 1, by omega, by omega, ?_⟩
   exact le_head (ms := [4]) (by repeat (first | exact Out.head rfl rfl | (refine Out.put ?_ rfl) | (refine Out.site ?_ rfl) | (refine Out.killS ?_ rfl))) ⟨(by rfl), (by rfl), trivial⟩ ⟨(by (show Site.row _ _ _ = Site.row _ _ _; rw [← hs1]; rfl)), trivial⟩ rfl rfl rfl rfl
  ·
   (try simp only [nb, ne_eq] at hc4)
   have hk64 : k = 61 := by omega
   subst hk64
   refine awp_exit ?_
   change Awp _ _ _ _ _
   refine awp_seq ?_
   refine awp_region 2 mixed (by kernel_rfl) ?_
   refine rg_q (q_move (x := .rs _) rfl) (rg_q (q_assign (x := .rs _) rfl) ?_)
   refine rn ?_
   change Awp _ _ _ _ _
   refine awp_ret ?_
   refine ⟨_, (.cons (.tmp (by exact .rs rfl)) .nil), ?_⟩
   rfl

theorem smpS_len {t : Tsk} (h : TskOk t) {y : Int × Int} (hp : (0 ≤ y.1 ∧ y.1 < t.ne) ∧ 0 ≤ y.2 ∧ y.2 < t.ne) : (smpS t y).length = 64 := by
  obtain ⟨h1, h2, h3⟩ := tsk_len h
  obtain ⟨⟨q1, q2⟩, q3⟩ := pr_idx h (j := y.2.toNat) hp.1.1 hp.1.2 (by omega)
  unfold smpS
  rw [List.length_map]
  exact chK_len h1 (by omega)
theorem smpS_in {t : Tsk} (h : TskOk t) (y : Int × Int) : ∀ v ∈ smpS t y, -2047 ≤ v ∧ v ≤ 2047 := vI_in (chK_wh h.wh _)
set_option maxRecDepth 100000 in
theorem rpartsOf_p (t : Tsk) (y : Int × Int) (h : TskOk t) (hp : (0 ≤ y.1 ∧ y.1 < t.ne) ∧ 0 ≤ y.2 ∧ y.2 < t.ne) : PC Tryz.prog 107 [.agg (tskC t), .agg (shC y)] (.sl 2 ((prtF (smpS t y) 61).map shC)) := by
 refine pc_of_awpN Tryz.func107 rfl Tryz.ntmps107 (rs := [.tmp 4]) Tryz.results107 (by simp) fun w0 hmine hrnd hpn => ?_
 refine awp_seq ?_
 refine awp_region 3 mixed (by kernel_rfl) ?_
 refine rg_q (q_box rfl (by exact .inr ⟨_, rfl⟩)) ?_
 refine rg_q (q_box rfl (by exact .inr ⟨_, rfl⟩)) ?_
 refine rg_q (q_assign (x := .d (.sl _ _)) rfl) ?_
 refine rs (awp_region 6 mixed (by kernel_rfl) ?_)
 refine rg_q (q_fieldAddr fld37_1 rfl) ?_
 refine rg_q (q_loadA (ds := [_, _]) sz31 rfl rfl rfl) ?_
 refine rg_q (q_loadA (ds := [_, _]) sz63 rfl rfl rfl) ?_
 refine rg_q (q_call en177 (.cons rfl (.cons rfl .nil)) rfl (rtraceOf5_p t.ne t.bf y h.n2 hp.1 hp.2 h.wh h.nl)) ?_
 refine rg_q (q_call en176 (.cons rfl .nil) rfl (parts5_p (smpS t y) (smpS_len h hp) (smpS_in h y))) ?_
 refine rg_q (q_assign (x := .d (.sl _ _)) rfl) ?_
 refine rn ?_
 change Awp _ _ _ _ _
 refine awp_ret ?_
 refine ⟨_, (.cons (.tmp (by exact .d _)) .nil), ?_⟩
 rfl

def nuR (t : Tsk) (c : Int) (y : Int × Int) : Int × Int := if inR 0 (smpI t.ar (spI t.g c) y) 60 = true then (smpI t.ar (spI t.g c) y, 0) else (0, 12)
theorem cell_pr {t : Tsk} (h : TskOk t) {c : Int} {pr : Int × Int} (hc : clE t.g c = 0) (hp : (0 ≤ pr.1 ∧ pr.1 < t.ne) ∧ 0 ≤ pr.2 ∧ pr.2 < t.ne) : ArrOk t.ar ∧ ((0 ≤ pr.1 ∧ pr.1 < t.ar.el.length) ∧ 0 ≤ pr.2 ∧ pr.2 < t.ar.el.length) ∧ spotE (spI t.g c) = 0 ∧ plateE (spI t.g c).2 t.ar.ou.t = 0 := by
  obtain ⟨c1, c2⟩ := clE_ok hc
  obtain ⟨i1, i2, i3, i4⟩ := sp_in h c1 c2
  obtain ⟨hao, _⟩ := ckArr_ok h.ck
  have hel := h.el
  exact ⟨hao, by omega, spot_ok.2 ⟨i1, i2⟩, plate_ok.2 ⟨i3, i4⟩⟩
set_option maxRecDepth 100000 in
theorem rnumberAt_p (t : Tsk) (c : Int) (y : Int × Int) (h : TskOk t) (hc : clE t.g c = 0) (hp : (0 ≤ y.1 ∧ y.1 < t.ne) ∧ 0 ≤ y.2 ∧ y.2 < t.ne) : PC Tryz.prog 35 [.agg (tskC t), .v (.int .i64 (c)), .agg (shC y)] (.tup [.v (.int .i64 ((nuR t c y).1)), .v (.int .i64 ((nuR t c y).2))]) := by
 obtain ⟨hg, _, _⟩ := ckG_ok h.gr
 obtain ⟨c1, c2⟩ := clE_ok hc
 have hci := cells_in hg
 obtain ⟨hok, hpk, hs, hpl⟩ := cell_pr h hc hp
 refine pc_of_awpN Tryz.func35 rfl Tryz.ntmps35 (rs := [.tmp 6, .tmp 7]) Tryz.results35 (by simp) fun w0 hmine hrnd hpn => ?_
 refine awp_seq ?_
 refine awp_region 4 mixed (by kernel_rfl) ?_
 refine rg_q (q_box rfl (by exact .inr ⟨_, rfl⟩)) ?_
 refine rg_q (q_box rfl (by exact .inr ⟨_, rfl⟩)) ?_
 refine rg_q (q_a rfl) (rg_q (q_a rfl) ?_)
 refine rs (awp_region 9 mixed (by kernel_rfl) ?_)
 refine rg_q (q_fieldAddr fld37_0 rfl) ?_
 refine rg_q (q_loadA (ds := [_, _, _, _, _, _, _, _, _, _, _]) sz28 rfl rfl rfl) ?_
 refine rg_q (q_fieldAddr fld37_2 rfl) ?_
 refine rg_q (q_loadA (ds := [_, _, _, _, _]) sz35 rfl rfl rfl) ?_
 refine rg_q (q_m rfl) ?_
 refine rg_q (q_call en76 (.cons rfl (.cons rfl .nil)) rfl (rspot_p t.g c hg c1 (by omega))) ?_
 refine rg_q (q_loadA (ds := [_, _]) sz63 rfl rfl rfl) ?_
 refine rg_q (q_call en111 (.cons rfl (.cons rfl (.cons rfl .nil))) rfl (rsampleOf_p t.ar (spI t.g c) y hok hpk hs hpl)) ?_
 refine rg_q (q_a rfl) ?_
 refine rn ?_
 change Awp _ _ _ _ _
 refine awp_seq ?_
 refine awp_seq ?_
 refine awp_region 3 mixed (by kernel_rfl) ?_
 refine rg_q (q_m rfl) ?_
 refine rg_q (q_call en31 (.cons rfl (.cons rfl (.cons rfl .nil))) rfl (within4_p _ _ _)) ?_
 refine rg_q (q_not rfl) ?_
 refine rn ?_
 change Awp _ _ _ _ _
 refine awp_cond rfl (fun hc2 => ?_) (fun hc2 => ?_)
 ·
  (try simp only [nb, ne_eq] at hc2)
  have hz : nuR t c y = (0, 12) := by unfold nuR; rw [if_neg (by rw [hc2]; decide)]
  refine awp_seq ?_
  refine awp_region 2 mixed (by kernel_rfl) ?_
  refine rg_q (q_a rfl) (rg_q (q_a rfl) ?_)
  refine rn ?_
  change Awp _ _ _ _ _
  refine awp_ret ?_
  refine ⟨_, (.cons (.tmp (by exact .d _)) (.cons (.tmp (by exact .d _)) .nil)), ?_⟩
  rw [hz]; rfl
 ·
  (try simp only [nb, ne_eq] at hc2)
  have hz : nuR t c y = (smpI t.ar (spI t.g c) y, 0) := by unfold nuR; rw [if_pos hc2]
  refine awp_skip ?_
  change Awp _ _ _ _ _
  refine awp_seq ?_
  refine awp_region 3 mixed (by kernel_rfl) ?_
  refine rg_q (q_m rfl) (rg_q (q_a rfl) (rg_q (q_a rfl) ?_))
  refine rn ?_
  change Awp _ _ _ _ _
  refine awp_ret ?_
  refine ⟨_, (.cons (.tmp (by exact .d _)) (.cons (.tmp (by exact .d _)) .nil)), ?_⟩
  rw [hz]; rfl
def prB (fs dd : List Int) (y : Int × Int) : Bool := decide (y.1 ∈ fs) && !decide (y.1 ∈ dd) && !decide (y.2 ∈ dd)
def pqD (fs dd : List Int) (n i : Nat) : List (Int × Int) := ((List.range i).flatMap fun u : Nat => pqR (u : Int) n).filter (prB fs dd)
theorem pqD_succ (fs dd : List Int) (n i : Nat) : pqD fs dd n (i + 1) = pqD fs dd n i ++ (pqR (i : Int) n).filter (prB fs dd) := by
  unfold pqD
  rw [List.range_succ, List.flatMap_append, List.filter_append]; simp
theorem prR_succ (fs dd : List Int) (x : Int) (j : Nat) : (pqR x (j + 1)).filter (prB fs dd) = (pqR x j).filter (prB fs dd) ++ (if prB fs dd (x, (j : Int)) = true then [(x, (j : Int))] else []) := by
  rw [pqR_succ, List.filter_append]
  congr 1
  by_cases h : prB fs dd (x, (j : Int)) = true
  · rw [if_pos h]; simp [h]
  · rw [if_neg h]; simp [h]
theorem pqR_len (x : Int) (j : Nat) : (pqR x j).length = j := by unfold pqR; rw [List.length_map, List.length_range]
theorem pqD_len (fs dd : List Int) (n : Nat) : ∀ i, (pqD fs dd n i).length ≤ i * n
  | 0 => Nat.zero_le _
  | i + 1 => by
    have ih := pqD_len fs dd n i
    have h := List.length_filter_le (prB fs dd) (pqR (i : Int) n)
    rw [pqR_len] at h
    rw [pqD_succ, List.length_append, Nat.succ_mul]; omega
set_option maxRecDepth 100000 in
theorem rpairs_p (n : Nat) (hn : n ≤ 16) (fs dd : List Int) : PC Tryz.prog 135 [.v (.int .i64 ((n : Int))), .sl 1 (fs.map iC), .sl 1 (dd.map iC)] (.sl 2 ((pqD fs dd n n).map shC)) := by
 refine pc_of_awpN Tryz.func135 rfl Tryz.ntmps135 (rs := [.tmp 6]) Tryz.results135 (by simp) fun w0 hmine hrnd hpn => ?_
 refine awp_seq ?_
 refine awp_region 1 mixed (by kernel_rfl) ?_
 refine rg_q (q_assign (x := .d (.sl _ _)) rfl) ?_
 refine rs (awp_region 1 mixed (by kernel_rfl) ?_)
 refine rg_q (q_assign_nil) ?_
 refine rn ?_
 change Awp _ _ _ _ _
 refine Awp.le (le_own (k := 7) (e := 63) (sz := 2) rfl rfl) ?_
 refine awp_seq ?_
 refine awp_seq ?_
 refine awp_region 1 mixed (by kernel_rfl) ?_
 refine rg_q (q_a rfl) ?_
 refine rn ?_
 change Awp _ _ _ _ _
 refine awp_block ?_
 refine awp_loopH [7, 8, 9, 10, 11, 12, 13, 14, 15, 16, 17, 18, 19, 20, 21, 22, 23, 24, 25, 26, 27, 28, 29, 30, 31, 32, 33, 34, 35, 36, 37, 38, 39, 40] [7] (α := Nat) (fun i => [(8, T.i (i : Int)), (7, .rs 7)]) (fun i => [(7, .row 63 2 ((pqD fs dd n i).map shC))]) (fun i => i ≤ n) (fun i => n - i) 0 (Nat.zero_le _) ?_ ?_
 · exact le_head (ms := [7]) (by repeat (exact Out.refl _)) ⟨(by rfl), (by rfl), trivial⟩ ⟨(by rfl), trivial⟩ rfl rfl rfl rfl
 ·
  intro i hi
  refine awp_seq ?_
  refine awp_seq ?_
  refine awp_region 3 mixed (by kernel_rfl) ?_
  refine rg_q (q_m rfl) (rg_q (q_m rfl) (rg_q (q_lss rfl rfl) ?_))
  refine rn ?_
  change Awp _ _ _ _ _
  refine awp_cond rfl (fun hc3 => ?_) (fun hc3 => ?_)
  ·
   (try simp only [nb, ne_eq] at hc3)
   have hlt : i < n := by omega
   refine awp_skip ?_
   change Awp _ _ _ _ _
   refine awp_seq ?_
   refine awp_block ?_
   refine awp_seq ?_
   refine awp_region 1 mixed (by kernel_rfl) ?_
   refine rg_q (q_a rfl) ?_
   refine rn ?_
   change Awp _ _ _ _ _
   refine awp_block ?_
   refine awp_loopH [7, 9, 15, 16, 17, 18, 19, 20, 21, 22, 23, 24, 25, 26, 27, 28, 29, 30, 31, 32, 33, 34, 35, 36, 37, 38, 39, 40] [7] (α := Nat) (fun j => [(9, T.i (j : Int)), (7, .rs 7)]) (fun j => [(7, .row 63 2 ((pqD fs dd n i ++ (pqR (i : Int) j).filter (prB fs dd)).map shC))]) (fun j => j ≤ n) (fun j => n - j) 0 (Nat.zero_le _) ?_ ?_
   · exact le_head (ms := [7]) (by repeat (exact Out.refl _)) ⟨(by rfl), (by rfl), trivial⟩ ⟨(by ((show Site.row _ _ _ = Site.row _ _ _; (simp [pqR]; done)))), trivial⟩ rfl rfl rfl rfl
   ·
    intro j hj
    have hl1 := pqD_len fs dd n i
    have hl2 := List.length_filter_le (prB fs dd) (pqR (i : Int) j)
    rw [pqR_len] at hl2
    have hl3 := Nat.mul_le_mul (show i ≤ 16 by omega) hn
    refine awp_seq ?_
    refine awp_seq ?_
    refine awp_region 3 mixed (by kernel_rfl) ?_
    refine rg_q (q_m rfl) (rg_q (q_m rfl) (rg_q (q_lss rfl rfl) ?_))
    refine rn ?_
    change Awp _ _ _ _ _
    refine awp_cond rfl (fun hc6 => ?_) (fun hc6 => ?_)
    ·
     (try simp only [nb, ne_eq] at hc6)
     have hlj : j < n := by omega
     refine awp_skip ?_
     change Awp _ _ _ _ _
     refine awp_seq ?_
     refine awp_block ?_
     refine awp_seq ?_
     refine awp_region 15 mixed (by kernel_rfl) ?_
     refine rg_q (q_move (x := .d (.sl _ _)) rfl) (rg_q (q_m rfl) ?_)
     refine rg_q (q_call en134 (.cons rfl (.cons rfl .nil)) rfl (has5_p _ _)) ?_
     refine rg_q (q_m rfl) ?_
     refine rg_g rfl rfl (fun hG => (q_move (x := .d (.sl _ _)) rfl)) ?_
     refine rg_g rfl rfl (fun hG => (q_m rfl)) ?_
     refine rg_g rfl rfl (fun hG => (q_call en134 (.cons rfl (.cons rfl .nil)) rfl (has5_p _ _))) ?_
     refine rg_g rfl rfl (fun hG => (q_not rfl)) ?_
     refine rg_pick rfl rfl rfl rfl rfl rfl ?_
     refine rg_q (q_m rfl) ?_
     refine rg_g rfl rfl (fun hG => (q_move (x := .d (.sl _ _)) rfl)) ?_
     refine rg_g rfl rfl (fun hG => (q_m rfl)) ?_
     refine rg_g rfl rfl (fun hG => (q_call en134 (.cons rfl (.cons rfl .nil)) rfl (has5_p _ _))) ?_
     refine rg_g rfl rfl (fun hG => (q_not rfl)) ?_
     refine rg_pick rfl rfl rfl rfl rfl rfl ?_
     refine rn ?_
     change Awp _ _ _ _ _
     refine awp_cond rfl (fun hc8 => ?_) (fun hc8 => ?_)
     ·
      (try simp only [nb, ne_eq] at hc8)
      have hb : prB fs dd ((i : Int), (j : Int)) = true := by unfold prB; simp [hc8]
      have hsk : (pqD fs dd n i ++ (pqR (i : Int) (j + 1)).filter (prB fs dd)).map shC = (pqD fs dd n i ++ (pqR (i : Int) j).filter (prB fs dd)).map shC ++ [shC ((i : Int), (j : Int))] := by rw [prR_succ, if_pos hb, ← List.append_assoc, List.map_append]; rfl
      refine awp_region 5 mixed (by kernel_rfl) ?_
      refine rg_q (q_move (x := .rs _) rfl) (rg_q (q_m rfl) (rg_q (q_m rfl) ?_))
      refine rg_q (q_buildA (cs := [_, _]) ar63 zr63 rfl (.cons rfl (by exact .inl rfl) (.cons rfl (by exact .inl rfl) .nil)) ⟨⟨rfl, by decide⟩, ⟨rfl, by decide⟩, trivial⟩ rfl) ?_
      refine rg_q (q_buildSlice sl140 zr63 rfl rfl (by decide) (.cons rfl (by exact .inr ⟨_, rfl⟩) .nil) ⟨rfl, rfl, trivial⟩ rfl (by decide) rfl) ?_
      refine rg_nil ?_
      refine aops_append sl140 zr63 by63 rfl (by decide) rfl rfl rfl rfl (by (try simp only [List.length_map, List.length_append, List.length_cons, List.length_nil]); omega) (by (try simp only [List.length_map, List.length_append, List.length_cons, List.length_nil]); omega) rfl rfl ?_
      refine aops_q rfl (q_assign (x := .rs _) rfl) ?_
      refine aops_nil ?_
      change Awp _ _ _ _ _
      refine awp_region 3 mixed (by kernel_rfl) ?_
      refine rg_q (q_m rfl) ?_
      refine rg_q (q_add rfl rfl (In64.mk (by omega) (by omega))) ?_
      refine rg_q (q_a rfl) ?_
      refine rn ?_
      refine ⟨j + 1, by omega, by omega, ?_⟩
      exact le_head (ms := [7]) (by repeat (first | exact Out.head rfl rfl | (refine Out.put ?_ rfl) | (refine Out.site ?_ rfl) | (refine Out.killS ?_ rfl))) ⟨(by rfl), (by rfl), trivial⟩ ⟨(by ((show Site.row _ _ _ = Site.row _ _ _; (rw [hsk]; rfl)))), trivial⟩ rfl rfl rfl rfl
     ·
      (try simp only [nb, ne_eq] at hc8)
      have hb : ¬ prB fs dd ((i : Int), (j : Int)) = true := by
       intro q
       unfold prB at q
       simp at q
       simp_all
      have hsk : (pqD fs dd n i ++ (pqR (i : Int) (j + 1)).filter (prB fs dd)).map shC = (pqD fs dd n i ++ (pqR (i : Int) j).filter (prB fs dd)).map shC := by rw [prR_succ, if_neg hb, List.append_nil]
      refine awp_skip ?_
      change Awp _ _ _ _ _
      refine awp_region 3 mixed (by kernel_rfl) ?_
      refine rg_q (q_m rfl) ?_
      refine rg_q (q_add rfl rfl (In64.mk (by omega) (by omega))) ?_
      refine rg_q (q_a rfl) ?_
      refine rn ?_
      refine ⟨j + 1, by omega, by omega, ?_⟩
      exact le_head (ms := [7]) (by repeat (first | exact Out.head rfl rfl | (refine Out.put ?_ rfl))) ⟨(by rfl), (by rfl), trivial⟩ ⟨(by ((show Site.row _ _ _ = Site.row _ _ _; (rw [hsk]; done)))), trivial⟩ rfl rfl rfl rfl
    ·
     (try simp only [nb, ne_eq] at hc6)
     have hjn : j = n := by omega
     subst hjn
     have hsk : (pqD fs dd j (i + 1)).map shC = (pqD fs dd j i ++ (pqR (i : Int) j).filter (prB fs dd)).map shC := by rw [pqD_succ]
     refine awp_exit ?_
     change Awp _ _ _ _ _
     refine awp_region 3 mixed (by kernel_rfl) ?_
     refine rg_q (q_m rfl) ?_
     refine rg_q (q_add rfl rfl (In64.mk (by omega) (by omega))) ?_
     refine rg_q (q_a rfl) ?_
     refine rn ?_
     refine ⟨i + 1, by omega, by omega, ?_⟩
     exact le_head (ms := [7]) (by repeat (first | exact Out.head rfl rfl | (refine Out.put ?_ rfl) | (refine Out.headIn ?_ rfl rfl rfl))) ⟨(by rfl), (by rfl), trivial⟩ ⟨(by ((show Site.row _ _ _ = Site.row _ _ _; (rw [hsk]; done)))), trivial⟩ rfl rfl rfl rfl
  ·
   (try simp only [nb, ne_eq] at hc3)
   have hin : i = n := by omega
   subst hin
   refine awp_exit ?_
   change Awp _ _ _ _ _
   refine awp_seq ?_
   refine awp_region 2 mixed (by kernel_rfl) ?_
   refine rg_q (q_move (x := .rs _) rfl) (rg_q (q_assign (x := .rs _) rfl) ?_)
   refine rn ?_
   change Awp _ _ _ _ _
   refine awp_ret ?_
   refine ⟨_, (.cons (.tmp (by exact .rs rfl)) .nil), ?_⟩
   rfl

set_option maxRecDepth 100000 in
theorem rnum_p (re im : Int) : PC Tryz.prog 101 [.v (.int .i64 (re)), .v (.int .i64 (im))] (cz re im) := by
 refine pc_of_awp Tryz.func101 rfl Tryz.ntmps101 (rs := [.tmp 4]) Tryz.results101 (by simp) fun w0 => ?_
 refine awp_seq ?_
 refine awp_region 1 mixed (by kernel_rfl) ?_
 refine rg_q (q_a rfl) ?_
 refine rs (awp_region 6 mixed (by kernel_rfl) ?_)
 refine rg_q (q_m rfl) ?_
 refine rg_q (q_convf int3 flt167 rfl) ?_
 refine rg_q (q_m rfl) ?_
 refine rg_q (q_convf int3 flt167 rfl) ?_
 refine rg_q (q_complex rfl rfl) ?_
 refine rg_q (q_a rfl) ?_
 refine rn ?_
 change Awp _ _ _ _ _
 refine awp_ret ?_
 refine ⟨_, (.cons (.tmp (by exact .d _)) .nil), ?_⟩
 rfl

theorem vlF_nil (t : Tsk) (c : Int) (s : (Int × Int) × Int) (y : Int × Int) : vlF t c [] s y = if inR 0 (smpI t.ar (spI t.g c) y) 60 = true then ((s.1.1 + reI (smpS t y) (smpI t.ar (spI t.g c) y).toNat, s.1.2 + imI (smpS t y) (smpI t.ar (spI t.g c) y).toNat), s.2 + 1) else s := if_neg (show ¬ (hasI [] y.1 || hasI [] y.2) = true from Bool.false_ne_true)
def PrsOk (t : Tsk) (l : List (Int × Int)) : Prop := (∀ y ∈ l, (0 ≤ y.1 ∧ y.1 < t.ne) ∧ 0 ≤ y.2 ∧ y.2 < t.ne) ∧ l.length ≤ 1600
set_option maxRecDepth 100000 in
theorem rsum_p (t : Tsk) (c : Int) (l : List (Int × Int)) (h : TskOk t) (hc : clE t.g c = 0) (hl : PrsOk t l) : PC Tryz.prog 99 [.agg (tskC t), .v (.int .i64 (c)), .sl 2 (l.map shC)] (.tup [.v (.int .i64 ((vlA t c [] (l)).1.1)), .v (.int .i64 ((vlA t c [] (l)).1.2)), .v (.int .i64 ((vlA t c [] (l)).2))]) := by
 obtain ⟨hl1, hl2⟩ := hl
 refine pc_of_awpN Tryz.func99 rfl Tryz.ntmps99 (rs := [.tmp 6, .tmp 7, .tmp 8]) Tryz.results99 (by simp) fun w0 hmine hrnd hpn => ?_
 refine awp_seq ?_
 refine awp_region 4 mixed (by kernel_rfl) ?_
 refine rg_q (q_box rfl (by exact .inr ⟨_, rfl⟩)) ?_
 refine rg_q (q_a rfl) (rg_q (q_a rfl) (rg_q (q_a rfl) ?_))
 refine rs (awp_region 3 mixed (by kernel_rfl) ?_)
 refine rg_q (q_a rfl) (rg_q (q_a rfl) (rg_q (q_a rfl) ?_))
 refine rn ?_
 change Awp _ _ _ _ _
 refine awp_seq ?_
 refine awp_seq ?_
 refine awp_region 1 mixed (by kernel_rfl) ?_
 refine rg_q (q_a rfl) ?_
 refine rn ?_
 change Awp _ _ _ _ _
 refine awp_block ?_
 refine awp_loopH [9, 10, 11, 12, 13, 14, 15, 16, 17, 18, 19, 20, 21, 22, 23, 24, 25, 26, 27, 28, 29, 30, 31, 32, 33, 34, 35, 36, 37, 38, 39, 40, 41, 42, 43, 44, 45, 46, 47, 48, 49, 50, 51, 52] [] (α := Nat) (fun k => [(12, T.i (k : Int)), (9, .d (.v (.int .i64 ((vlA t c [] (l.take k)).1.1)))), (10, .d (.v (.int .i64 ((vlA t c [] (l.take k)).1.2)))), (11, .d (.v (.int .i64 ((vlA t c [] (l.take k)).2))))]) (fun k => []) (fun k => k ≤ l.length) (fun k => l.length - k) 0 (Nat.zero_le _) ?_ ?_
 · exact le_head (ms := []) (by repeat (exact Out.refl _)) ⟨(by rfl), (by rfl), (by rfl), (by rfl), trivial⟩ trivial rfl rfl rfl rfl
 ·
  intro k hk
  refine awp_seq ?_
  refine awp_seq ?_
  refine awp_region 4 mixed (by kernel_rfl) ?_
  refine rg_q (q_m rfl) (rg_q (q_move (x := .d (.sl _ _)) rfl) ?_)
  refine rg_q (q_len isl140 rfl (by exact len_map _ _)) ?_
  refine rg_q (q_lss rfl rfl) ?_
  refine rn ?_
  change Awp _ _ _ _ _
  refine awp_len (t := 17) rfl (fun hl17 => ?_)
  (try simp only [List.length_map] at hl17)
  refine awp_cond rfl (fun hc3 => ?_) (fun hc3 => ?_)
  ·
   (try simp only [nb, ne_eq] at hc3)
   have hlt : k < l.length := by omega
   obtain ⟨y, hy⟩ : ∃ y, l[k]? = some y := ⟨_, List.getElem?_eq_getElem hlt⟩
   have hp := hl1 y (List.mem_of_getElem? hy)
   obtain ⟨⟨b1, b2⟩, ⟨b3, b4⟩, b5, b6⟩ := vlA_in h (c := c) (dd := []) (l := l) k (by omega)
   obtain ⟨⟨hre1, hre2⟩, him1, him2⟩ := reim_in h y (smpI t.ar (spI t.g c) y).toNat
   have hst := vlA_snoc (t := t) (c := c) (dd := []) hy
   rw [vlF_nil] at hst
   refine awp_skip ?_
   change Awp _ _ _ _ _
   refine awp_seq ?_
   refine awp_block ?_
   refine awp_seq ?_
   refine awp_region 12 mixed (by kernel_rfl) ?_
   refine rg_q (q_loadA sz37 rfl rfl rfl) ?_
   refine rg_q (q_m rfl) (rg_q (q_move (x := .d (.sl _ _)) rfl) (rg_q (q_m rfl) ?_))
   refine rg_q (q_indexAddr sl140 rfl rfl (by omega) (map_at (by omega) hy)) ?_
   refine rg_q (q_loadA (ds := [_, _]) sz63 rfl rfl rfl) ?_
   refine rg_q (q_call en35 (.cons rfl (.cons rfl (.cons rfl .nil))) rfl (rnumberAt_p t c y h hc hp)) ?_
   refine rg_q (q_move (x := .d (.tup _)) rfl) (rg_q (q_extract rfl rfl) (rg_q (q_extract rfl rfl) (rg_q (q_a rfl) (rg_q (q_a rfl) ?_))))
   refine rn ?_
   change Awp _ _ _ _ _
   refine awp_seq ?_
   refine awp_seq ?_
   refine awp_region 2 mixed (by kernel_rfl) ?_
   refine rg_q (q_m rfl) (rg_q (q_neq rfl rfl) ?_)
   refine rn ?_
   change Awp _ _ _ _ _
   refine awp_cond rfl (fun hc6 => ?_) (fun hc6 => ?_)
   ·
    (try simp only [nb, ne_eq] at hc6)
    have hin : ¬ inR 0 (smpI t.ar (spI t.g c) y) 60 = true := fun q => by unfold nuR at hc6; rw [if_pos q] at hc6; exact hc6 rfl
    rw [if_neg hin] at hst
    refine awp_exit ?_
    change Awp _ _ _ _ _
    refine awp_region 3 mixed (by kernel_rfl) ?_
    refine rg_q (q_m rfl) ?_
    refine rg_q (q_add rfl rfl (In64.mk (by omega) (by omega))) ?_
    refine rg_q (q_a rfl) ?_
    refine rn ?_
    refine ⟨k + 1, by omega, by omega, ?_⟩
    exact le_head (ms := []) (by repeat (first | exact Out.head rfl rfl | (refine Out.put ?_ rfl))) ⟨(by rfl), (by (show T.d _ = T.d _; (rw [hst]; done))), (by (show T.d _ = T.d _; (rw [hst]; done))), (by (show T.d _ = T.d _; (rw [hst]; done))), trivial⟩ trivial rfl rfl rfl rfl
   ·
    (try simp only [nb, ne_eq] at hc6)
    have hin : inR 0 (smpI t.ar (spI t.g c) y) 60 = true := by
     cases q : inR 0 (smpI t.ar (spI t.g c) y) 60 with
     | true => rfl
     | false => unfold nuR at hc6; rw [q, if_neg (by decide)] at hc6; cases hc6
    rw [if_pos hin] at hst
    obtain ⟨n1, n2⟩ := inR_iff.1 hin
    have hnu : nuR t c y = (smpI t.ar (spI t.g c) y, 0) := by unfold nuR; rw [if_pos hin]
    have hpt := prtF_at (V := smpS t y) (n := 61) (k := (smpI t.ar (spI t.g c) y).toNat) (by omega)
    rw [hnu]
    refine awp_skip ?_
    change Awp _ _ _ _ _
    refine awp_seq ?_
    refine awp_regionM 11 [none, none, none, none, none, none, none, none, none, some 15, some 15] mixed (by kernel_rfl) ?_
    refine rgm_q rfl (q_loadA sz37 rfl rfl rfl) ?_
    refine rgm_q rfl (q_move (x := .d (.sl _ _)) rfl) ?_
    refine rgm_q rfl (q_m rfl) ?_
    refine rgm_q rfl (q_indexAddr sl140 rfl rfl (by omega) (map_at (by omega) hy)) ?_
    refine rgm_q rfl (q_loadA (ds := [_, _]) sz63 rfl rfl rfl) ?_
    refine rgm_q rfl (q_call en107 (.cons rfl (.cons rfl .nil)) rfl (rpartsOf_p t y h hp)) ?_
    refine rgm_q rfl (q_m rfl) ?_
    refine rgm_q rfl (q_indexAddr sl140 rfl rfl (by omega) (map_at (k := (smpI t.ar (spI t.g c) y).toNat) (by omega) hpt)) ?_
    refine rgm_q rfl (q_loadA (ds := [_, _]) sz63 rfl rfl rfl) ?_
    refine rgm_m (k := 15) rfl rfl (by rfl) (m_alloc zr63 rfl rfl) ?_
    refine rgm_m (k := 15) rfl rfl (by rfl) (m_store sz63 rfl rfl (by exact .inr ⟨_, rfl⟩) rfl rfl (by decide) rfl) ?_
    refine rgm_nil (aops_nil ?_)
    change Awp _ _ _ _ _
    refine Awp.le (le_freeze 15 15 0 (cs := [.v (.int .i64 (reI (smpS t y) (smpI t.ar (spI t.g c) y).toNat)), .v (.int .i64 (imI (smpS t y) (smpI t.ar (spI t.g c) y).toNat))]) rfl rfl rfl rfl hmine) ?_
    refine awp_region 13 mixed (by kernel_rfl) ?_
    refine rg_q (q_m rfl) ?_
    refine rg_q (q_indexAddr_ar ar63 rfl rfl (by omega) (by omega)) ?_
    refine rg_q (q_load sz3 rfl rfl) ?_
    refine rg_q (q_add rfl rfl (In64.mk (by omega) (by omega))) ?_
    refine rg_q (q_m rfl) ?_
    refine rg_q (q_indexAddr_ar ar63 rfl rfl (by omega) (by omega)) ?_
    refine rg_q (q_load sz3 rfl rfl) ?_
    refine rg_q (q_add rfl rfl (In64.mk (by omega) (by omega))) ?_
    refine rg_q (q_m rfl) ?_
    refine rg_q (q_add rfl rfl (In64.mk (by omega) (by omega))) ?_
    refine rg_q (q_a rfl) (rg_q (q_a rfl) (rg_q (q_a rfl) ?_))
    refine rn ?_
    change Awp _ _ _ _ _
    refine awp_region 3 mixed (by kernel_rfl) ?_
    refine rg_q (q_m rfl) ?_
    refine rg_q (q_add rfl rfl (In64.mk (by omega) (by omega))) ?_
    refine rg_q (q_a rfl) ?_
    refine rn ?_
    refine ⟨k + 1, by omega, by omega, ?_⟩
    exact le_head (ms := []) (by repeat (first | exact Out.head rfl rfl | (refine Out.put ?_ rfl) | (refine Out.site ?_ rfl) | (refine Out.headIn ?_ rfl rfl rfl))) ⟨(by rfl), (by (show T.d _ = T.d _; (rw [hst]; done))), (by (show T.d _ = T.d _; (rw [hst]; done))), (by (show T.d _ = T.d _; (rw [hst]; done))), trivial⟩ trivial rfl rfl rfl rfl
  ·
   (try simp only [nb, ne_eq] at hc3)
   have hkl : k = l.length := by omega
   subst hkl
   rw [List.take_length] at *
   refine awp_exit ?_
   change Awp _ _ _ _ _
   refine awp_seq ?_
   refine awp_region 6 mixed (by kernel_rfl) ?_
   refine rg_q (q_m rfl) (rg_q (q_m rfl) (rg_q (q_m rfl) (rg_q (q_a rfl) (rg_q (q_a rfl) (rg_q (q_a rfl) ?_)))))
   refine rn ?_
   change Awp _ _ _ _ _
   refine awp_ret ?_
   refine ⟨_, (.cons (.tmp (by exact .d _)) (.cons (.tmp (by exact .d _)) (.cons (.tmp (by exact .d _)) .nil))), ?_⟩
   rfl
set_option maxRecDepth 100000 in
theorem open5_p (t : Tsk) (hw : (ckT t).2 ≠ 0) : PC Tryz.prog 112 [.agg (tskC t)] (.tup [.v (.pointer none), .v (.int .i64 ((ckT t).2))]) := by
 refine pc_of_awpN Tryz.func112 rfl Tryz.ntmps112 (rs := [.tmp 2, .tmp 3]) Tryz.results112 (by simp) fun w0 hmine hrnd hpn => ?_
 refine awp_seq ?_
 refine awp_region 3 mixed (by kernel_rfl) ?_
 refine rg_q (q_box rfl (by exact .inr ⟨_, rfl⟩)) ?_
 refine rg_q (q_a rfl) (rg_q (q_a rfl) ?_)
 refine rn ?_
 change Awp _ _ _ _ _
 refine awp_seq ?_
 refine awp_seq ?_
 refine awp_region 7 mixed (by kernel_rfl) ?_
 refine rg_q (q_loadA sz37 rfl rfl rfl) ?_
 refine rg_q (q_call en20 (.cons rfl .nil) rfl (checkTask5_p t)) ?_
 refine rg_q (q_move (x := .d (.tup _)) rfl) (rg_q (q_extract rfl rfl) (rg_q (q_extract rfl rfl) (rg_q (q_a rfl) (rg_q (q_a rfl) ?_))))
 refine rs (awp_region 2 mixed (by kernel_rfl) ?_)
 refine rg_q (q_m rfl) (rg_q (q_neq rfl rfl) ?_)
 refine rn ?_
 change Awp _ _ _ _ _
 refine awp_cond rfl (fun hc2 => ?_) (fun hc2 => ?_)
 ·
  (try simp only [nb, ne_eq] at hc2)
  refine awp_seq ?_
  refine awp_region 3 mixed (by kernel_rfl) ?_
  refine rg_q (q_m rfl) (rg_q (q_a rfl) (rg_q (q_a rfl) ?_))
  refine rn ?_
  change Awp _ _ _ _ _
  refine awp_ret ?_
  refine ⟨_, (.cons (.tmp (by exact .d _)) (.cons (.tmp (by exact .d _)) .nil)), ?_⟩
  rfl
 ·
  (try simp only [nb, ne_eq] at hc2)
  exact absurd hc2 hw
def cvD (z : Nat × Nat) : D := .v (.complex .f64 z.1 z.2)
def czP (x : Int × Int) : Nat × Nat := (FloatKind.f64.nearest x.1, FloatKind.f64.nearest x.2)
end Go.Proofs.YtphlaicnmmglhaaGreat.Am.M
-- mini
namespace Go.Proofs.YtphlaicnmmglhaaGreat.Am.M
open Go

theorem clE_of {g : Grd} {c : Int} (h1 : 0 ≤ c) (h2 : c ≤ g.co * g.ro - 1) : clE g c = 0 := by
  unfold clE
  rw [when_zero (by decide), Bool.not_eq_false']
  exact inR_iff.2 ⟨h1, h2⟩
def cvC (z : Nat × Nat) : List D := [cvD z]
def vlsF (t : Tsk) (fs dd : List Int) (k : Nat) : List (Int × Int) := (List.range k).map fun c : Nat => (vlA t (c : Int) dd (pqL fs t.ne.toNat)).1
theorem vlsF_succ (t : Tsk) (fs dd : List Int) (k : Nat) : vlsF t fs dd (k + 1) = vlsF t fs dd k ++ [(vlA t (k : Int) dd (pqL fs t.ne.toNat)).1] := by unfold vlsF; rw [List.range_succ, List.map_append]; rfl
theorem vlsF_len (t : Tsk) (fs dd : List Int) (k : Nat) : (vlsF t fs dd k).length = k := by unfold vlsF; rw [List.length_map, List.length_range]
def clN (t : Tsk) : Nat := (t.g.co * t.g.ro).toNat
def vlsL (t : Tsk) (fs dd : List Int) : List (Int × Int) := vlsF t fs dd (clN t)
set_option maxRecDepth 100000 in
theorem values_p (t : Tsk) (fs dd : List Int) (h : TskOk t) (hf : ∀ x ∈ fs, 0 ≤ x ∧ x < t.ne) (hfl : fs.length ≤ 100) : PC Tryz.prog 114 [.pt (tkC t) 0, .sl 1 (fs.map iC), .sl 1 (dd.map iC)] (.sl 2 ((vlsL t fs dd).map shC)) := by
 obtain ⟨hg, _, _⟩ := ckG_ok h.gr
 have hci := cells_in hg
 have hcn : ((clN t : Nat) : Int) = t.g.co * t.g.ro := by unfold clN; omega
 refine pc_of_awpN Tryz.func114 rfl Tryz.ntmps114 (rs := [.tmp 6]) Tryz.results114 (by simp) fun w0 hmine hrnd hpn => ?_
 refine awp_seq ?_
 refine awp_region 1 mixed (by kernel_rfl) ?_
 refine rg_q (q_assign (x := .d (.sl _ _)) rfl) ?_
 refine rs (awp_region 1 mixed (by kernel_rfl) ?_)
 refine rg_q (q_assign_nil) ?_
 refine rn ?_
 change Awp _ _ _ _ _
 refine Awp.le (le_own (k := 7) (e := 160) (sz := 2) rfl rfl) ?_
 refine awp_seq ?_
 refine awp_seq ?_
 refine awp_region 6 mixed (by kernel_rfl) ?_
 refine rg_q (q_move (x := .d (.pt _ _)) rfl) (rg_q (q_nilCheck rfl) (rg_q (q_fieldAddr fld202_0 rfl) ?_))
 refine rg_q (q_loadA (ds := [_, _, _, _, _]) sz150 rfl rfl rfl) ?_
 refine rg_q (q_call en91 (.cons rfl .nil) rfl (fcells_p t.g hg)) ?_
 refine rg_q (q_m rfl) ?_
 refine rn ?_
 change Awp _ _ _ _ _
 refine awp_block ?_
 refine awp_loopH [7, 8, 9, 10, 16, 17, 18, 19, 20, 21, 22, 23, 24, 25, 26, 27, 28, 29, 30, 31] [7] (α := Nat) (fun k => [(16, T.i (k : Int)), (7, .rs 7)]) (fun k => [(7, .row 160 2 ((vlsF t fs dd k).map shC))]) (fun k => k ≤ clN t) (fun k => clN t - k) 0 (Nat.zero_le _) ?_ ?_
 · exact le_head (ms := [7]) (by repeat (exact Out.refl _)) ⟨(by rfl), (by rfl), trivial⟩ ⟨(by rfl), trivial⟩ rfl rfl rfl rfl
 ·
  intro k hk
  have hvl := vlsF_len t fs dd k
  refine awp_seq ?_
  refine awp_region 1 mixed (by kernel_rfl) ?_
  refine rg_q (q_lss rfl rfl) ?_
  refine rn ?_
  change Awp _ _ _ _ _
  refine awp_seq ?_
  refine awp_cond rfl (fun hc3 => ?_) (fun hc3 => ?_)
  ·
   (try simp only [nb, ne_eq] at hc3)
   have hlt : k < clN t := by omega
   have hck : clE t.g (k : Int) = 0 := clE_of (by omega) (by omega)
   have hsk : (vlsF t fs dd (k + 1)).map shC = (vlsF t fs dd k).map shC ++ [shC (vlA t (k : Int) dd (pqL fs t.ne.toNat)).1] := by rw [vlsF_succ, List.map_append]; rfl
   refine awp_skip ?_
   change Awp _ _ _ _ _
   refine awp_seq ?_
   refine awp_block ?_
   refine awp_seq ?_
   refine awp_region 2 mixed (by kernel_rfl) ?_
   refine rg_q (q_m rfl) (rg_q (q_a rfl) ?_)
   refine rs (awp_region 8 mixed (by kernel_rfl) ?_)
   refine rg_q (q_move (x := .d (.pt _ _)) rfl) (rg_q (q_m rfl) (rg_q (q_move (x := .d (.sl _ _)) rfl) (rg_q (q_move (x := .d (.sl _ _)) rfl) ?_)))
   refine rg_q (q_call en95 (.cons rfl (.cons rfl (.cons rfl (.cons rfl .nil)))) rfl (value_p t k fs dd h hck hf hfl)) ?_
   refine rg_q (q_move (x := .d (.tup _)) rfl) (rg_q (q_extract rfl rfl) (rg_q (q_extract rfl rfl) ?_))
   refine rg_nil ?_
   refine aops_allocD zr160 rfl sz160 rfl rfl (by exact .inr ⟨_, rfl⟩) rfl rfl ?_
   refine aops_q rfl (q_a rfl) ?_
   refine aops_nil ?_
   change Awp _ _ _ _ _
   refine awp_region 3 mixed (by kernel_rfl) ?_
   refine rg_q (q_move (x := .rs _) rfl) ?_
   refine rg_q (q_loadA (ds := [_, _]) sz160 rfl rfl rfl) ?_
   refine rg_q (q_buildSlice sl189 zr160 rfl rfl (by decide) (.cons rfl (by exact .inr ⟨_, rfl⟩) .nil) ⟨rfl, rfl, trivial⟩ rfl (by decide) rfl) ?_
   refine rg_nil ?_
   refine aops_append sl189 zr160 by160 rfl (by decide) rfl rfl rfl rfl (by (try simp only [List.length_map, List.length_append, List.length_cons, List.length_nil]); omega) (by (try simp only [List.length_map, List.length_append, List.length_cons, List.length_nil]); omega) rfl rfl ?_
   refine aops_q rfl (q_assign (x := .rs _) rfl) ?_
   refine aops_nil ?_
   change Awp _ _ _ _ _
   refine awp_region 2 mixed (by kernel_rfl) ?_
   refine rg_q (q_add rfl rfl (In64.mk (by omega) (by omega))) ?_
   refine rg_q (q_m rfl) ?_
   refine rn ?_
   refine ⟨k + 1, by omega, by omega, ?_⟩
   exact le_head (ms := [7]) (by repeat (first | exact Out.head rfl rfl | (refine Out.put ?_ rfl) | (refine Out.site ?_ rfl) | (refine Out.killS ?_ rfl))) ⟨(by rfl), (by rfl), trivial⟩ ⟨(by ((show Site.row _ _ _ = Site.row _ _ _; (rw [hsk]; rfl)))), trivial⟩ rfl rfl rfl rfl
  ·
   (try simp only [nb, ne_eq] at hc3)
   have hkn : k = clN t := by omega
   subst hkn
   refine awp_exit ?_
   change Awp _ _ _ _ _
   refine awp_seq ?_
   refine awp_region 2 mixed (by kernel_rfl) ?_
   refine rg_q (q_move (x := .rs _) rfl) (rg_q (q_assign (x := .rs _) rfl) ?_)
   refine rn ?_
   change Awp _ _ _ _ _
   refine awp_ret ?_
   refine ⟨_, (.cons (.tmp (by exact .rs rfl)) .nil), ?_⟩
   rfl
set_option maxRecDepth 100000 in
theorem numbersOf5_p (l : List (Int × Int)) (hl : l.length ≤ 10000) : PC Tryz.prog 113 [.sl 2 (l.map shC)] (.sl 1 ((l.map czP).map cvC)) := by
 refine pc_of_awpN Tryz.func113 rfl Tryz.ntmps113 (rs := [.tmp 2]) Tryz.results113 (by simp) fun w0 hmine hrnd hpn => ?_
 refine awp_seq ?_
 refine awp_region 1 mixed (by kernel_rfl) ?_
 refine rg_q (q_assign (x := .d (.sl _ _)) rfl) ?_
 refine rs (awp_region 1 mixed (by kernel_rfl) ?_)
 refine rg_q (q_assign_nil) ?_
 refine rn ?_
 change Awp _ _ _ _ _
 refine Awp.le (le_own (k := 3) (e := 46) (sz := 1) rfl rfl) ?_
 refine awp_seq ?_
 refine awp_seq ?_
 refine awp_region 3 mixed (by kernel_rfl) ?_
 refine rg_q (q_move (x := .d (.sl _ _)) rfl) ?_
 refine rg_q (q_len isl189 rfl (by exact len_map _ _)) ?_
 refine rg_q (q_m rfl) ?_
 refine rn ?_
 change Awp _ _ _ _ _
 refine awp_len (t := 6) rfl (fun hl6 => ?_)
 (try simp only [List.length_map] at hl6)
 refine awp_block ?_
 refine awp_loopH [3, 5, 8, 9, 10, 11, 12, 13, 14, 15, 16, 17] [3] (α := Nat) (fun k => [(8, T.i (k : Int)), (3, .rs 3)]) (fun k => [(3, .row 46 1 (((l.take k).map czP).map cvC))]) (fun k => k ≤ l.length) (fun k => l.length - k) 0 (Nat.zero_le _) ?_ ?_
 · exact le_head (ms := [3]) (by repeat (exact Out.refl _)) ⟨(by rfl), (by rfl), trivial⟩ ⟨(by rfl), trivial⟩ rfl rfl rfl rfl
 ·
  intro k hk
  have htl : (l.take k).length ≤ k := by rw [List.length_take]; omega
  refine awp_seq ?_
  refine awp_region 1 mixed (by kernel_rfl) ?_
  refine rg_q (q_lss rfl rfl) ?_
  refine rn ?_
  change Awp _ _ _ _ _
  refine awp_seq ?_
  refine awp_cond rfl (fun hc3 => ?_) (fun hc3 => ?_)
  ·
   (try simp only [nb, ne_eq] at hc3)
   have hlt : k < l.length := by omega
   obtain ⟨x, hx⟩ : ∃ x, l[k]? = some x := ⟨_, List.getElem?_eq_getElem hlt⟩
   have hsk : ((l.take (k + 1)).map czP).map cvC = ((l.take k).map czP).map cvC ++ [cvC (czP x)] := by rw [takeSnoc hx, List.map_append, List.map_append]; rfl
   refine awp_skip ?_
   change Awp _ _ _ _ _
   refine awp_seq ?_
   refine awp_block ?_
   refine awp_seq ?_
   refine awp_region 2 mixed (by kernel_rfl) ?_
   refine rg_q (q_indexAddr sl189 rfl rfl (by omega) (map_at (by omega) hx)) ?_
   refine rg_q (q_loadA (ds := [_, _]) sz160 rfl rfl rfl) ?_
   refine rg_nil ?_
   refine aops_allocD zr160 rfl sz160 rfl rfl (by exact .inr ⟨_, rfl⟩) rfl rfl ?_
   refine aops_nil ?_
   change Awp _ _ _ _ _
   refine awp_region 4 mixed (by kernel_rfl) ?_
   refine rg_q (q_move (x := .rs _) rfl) ?_
   refine rg_q (q_loadA (ds := [_, _]) sz160 rfl rfl rfl) ?_
   refine rg_q (q_call en97 (.cons rfl .nil) rfl (fnumber_p x.1 x.2)) ?_
   refine rg_q (q_buildSlice sl72 zr46 rfl rfl (by decide) (.cons rfl (by exact .inl rfl) .nil) ⟨rfl, rfl, trivial⟩ rfl (by decide) rfl) ?_
   refine rg_nil ?_
   refine aops_append sl72 zr46 by46 rfl (by decide) rfl rfl rfl rfl (by (try simp only [List.length_map, List.length_append, List.length_cons, List.length_nil]); omega) (by (try simp only [List.length_map, List.length_append, List.length_cons, List.length_nil]); omega) rfl rfl ?_
   refine aops_q rfl (q_assign (x := .rs _) rfl) ?_
   refine aops_nil ?_
   change Awp _ _ _ _ _
   refine awp_region 2 mixed (by kernel_rfl) ?_
   refine rg_q (q_add rfl rfl (In64.mk (by omega) (by omega))) ?_
   refine rg_q (q_m rfl) ?_
   refine rn ?_
   refine ⟨k + 1, by omega, by omega, ?_⟩
   exact le_head (ms := [3]) (by repeat (first | exact Out.head rfl rfl | (refine Out.put ?_ rfl) | (refine Out.site ?_ rfl) | (refine Out.killS ?_ rfl))) ⟨(by rfl), (by rfl), trivial⟩ ⟨(by ((show Site.row _ _ _ = Site.row _ _ _; (rw [hsk]; rfl)))), trivial⟩ rfl rfl rfl rfl
  ·
   (try simp only [nb, ne_eq] at hc3)
   have hkn : k = l.length := by omega
   subst hkn
   rw [List.take_length]
   refine awp_exit ?_
   change Awp _ _ _ _ _
   refine awp_seq ?_
   refine awp_region 2 mixed (by kernel_rfl) ?_
   refine rg_q (q_move (x := .rs _) rfl) (rg_q (q_assign (x := .rs _) rfl) ?_)
   refine rn ?_
   change Awp _ _ _ _ _
   refine awp_ret ?_
   refine ⟨_, (.cons (.tmp (by exact .rs rfl)) .nil), ?_⟩
   rfl

theorem cl_le {t : Tsk} (h : TskOk t) : clN t ≤ 1600 := by
  obtain ⟨hg, _, _⟩ := ckG_ok h.gr
  have := cells_in hg
  unfold clN; omega
def imL (t : Tsk) (fs dd : List Int) : List (Nat × Nat) := (vlsL t fs dd).map czP
theorem imL_len (t : Tsk) (fs dd : List Int) : (imL t fs dd).length = clN t := by unfold imL vlsL; rw [List.length_map, vlsF_len]
def evI (t : Tsk) : List Int := allL t.ne.toNat
set_option maxRecDepth 100000 in
theorem imageK_p (t : Tsk) (h : TskOk t) : PC Tryz.prog 37 [.agg (tskC t)] (.tup [.sl 1 ((imL t (evI t) []).map cvC), .v (.int .i64 (0))]) := by
 obtain ⟨ha1, ha2⟩ := allL_ok h
 have hn1 := h.n1
 have hn2 := h.n2
 have hcl := cl_le h
 have hvl : (vlsL t (allL t.ne.toNat) []).length ≤ 10000 := by unfold vlsL; rw [vlsF_len]; omega
 refine pc_of_awpN Tryz.func37 rfl Tryz.ntmps37 (rs := [.tmp 2, .tmp 3]) Tryz.results37 (by simp) fun w0 hmine hrnd hpn => ?_
 refine awp_seq ?_
 refine awp_region 3 mixed (by kernel_rfl) ?_
 refine rg_q (q_box rfl (by exact .inr ⟨_, rfl⟩)) ?_
 refine rg_q (q_assign (x := .d (.sl _ _)) rfl) (rg_q (q_a rfl) ?_)
 refine rs (awp_region 7 mixed (by kernel_rfl) ?_)
 refine rg_q (q_loadA sz37 rfl rfl rfl) ?_
 refine rg_q (q_call en112 (.cons rfl .nil) rfl (open_p t h)) ?_
 refine rg_q (q_move (x := .d (.tup _)) rfl) (rg_q (q_extract rfl rfl) (rg_q (q_extract rfl rfl) (rg_q (q_assign (x := .d (.pt _ _)) rfl) (rg_q (q_a rfl) ?_))))
 refine rn ?_
 change Awp _ _ _ _ _
 refine awp_seq ?_
 refine awp_seq ?_
 refine awp_region 2 mixed (by kernel_rfl) ?_
 refine rg_q (q_m rfl) (rg_q (q_neq rfl rfl) ?_)
 refine rn ?_
 change Awp _ _ _ _ _
 refine awp_cond rfl (fun hc2 => ?_) (fun hc2 => ?_)
 ·
  simp at hc2
 ·
  (try simp only [nb, ne_eq] at hc2)
  refine awp_skip ?_
  change Awp _ _ _ _ _
  refine awp_seq ?_
  refine awp_region 7 mixed (by kernel_rfl) ?_
  refine rg_q (q_move (x := .d (.pt _ _)) rfl) (rg_q (q_move (x := .d (.pt _ _)) rfl) ?_)
  refine rg_q (q_call en96 (.cons rfl .nil) rfl (all_p t hn1 hn2)) ?_
  refine rg_q (q_call en114 (.cons rfl (.cons rfl (.cons rfl .nil))) rfl (values_p t (allL t.ne.toNat) [] h ha1 (by omega))) ?_
  refine rg_q (q_call en113 (.cons rfl .nil) rfl (numbersOf5_p _ hvl)) ?_
  refine rg_q (q_assign (x := .d (.sl _ _)) rfl) (rg_q (q_a rfl) ?_)
  refine rn ?_
  change Awp _ _ _ _ _
  refine awp_ret ?_
  refine ⟨_, (.cons (.tmp (by exact .d _)) (.cons (.tmp (by exact .d _)) .nil)), ?_⟩
  rfl
set_option maxRecDepth 100000 in
theorem imageW_p (t : Tsk) (hw : (ckT t).2 ≠ 0) : PC Tryz.prog 37 [.agg (tskC t)] (.tup [.sl 1 (([] : List (Nat × Nat)).map cvC), .v (.int .i64 ((ckT t).2))]) := by
 refine pc_of_awpN Tryz.func37 rfl Tryz.ntmps37 (rs := [.tmp 2, .tmp 3]) Tryz.results37 (by simp) fun w0 hmine hrnd hpn => ?_
 refine awp_seq ?_
 refine awp_region 3 mixed (by kernel_rfl) ?_
 refine rg_q (q_box rfl (by exact .inr ⟨_, rfl⟩)) ?_
 refine rg_q (q_assign (x := .d (.sl _ _)) rfl) (rg_q (q_a rfl) ?_)
 refine rs (awp_region 7 mixed (by kernel_rfl) ?_)
 refine rg_q (q_loadA sz37 rfl rfl rfl) ?_
 refine rg_q (q_call en112 (.cons rfl .nil) rfl (open5_p t hw)) ?_
 refine rg_q (q_move (x := .d (.tup _)) rfl) (rg_q (q_extract rfl rfl) (rg_q (q_extract rfl rfl) (rg_q (q_a rfl) (rg_q (q_a rfl) ?_))))
 refine rn ?_
 change Awp _ _ _ _ _
 refine awp_seq ?_
 refine awp_seq ?_
 refine awp_region 2 mixed (by kernel_rfl) ?_
 refine rg_q (q_m rfl) (rg_q (q_neq rfl rfl) ?_)
 refine rn ?_
 change Awp _ _ _ _ _
 refine awp_cond rfl (fun hc2 => ?_) (fun hc2 => ?_)
 ·
  (try simp only [nb, ne_eq] at hc2)
  refine awp_seq ?_
  refine awp_region 3 mixed (by kernel_rfl) ?_
  refine rg_q (q_m rfl) (rg_q (q_assign (x := .d (.sl _ _)) rfl) (rg_q (q_a rfl) ?_))
  refine rn ?_
  change Awp _ _ _ _ _
  refine awp_ret ?_
  refine ⟨_, (.cons (.tmp (by exact .d _)) (.cons (.tmp (by exact .d _)) .nil)), ?_⟩
  rfl
 ·
  (try simp only [nb, ne_eq] at hc2)
  exact absurd hc2 hw

def imgR (t : Tsk) : List (Nat × Nat) × Int := if (ckT t).2 ≠ 0 then ([], (ckT t).2) else (imL t (evI t) [], 0)
theorem image5_p (t : Tsk) : PC Tryz.prog 37 [.agg (tskC t)] (.tup [.sl 1 ((imgR t).1.map cvC), .v (.int .i64 (imgR t).2)]) := by
  by_cases hw : (ckT t).2 ≠ 0
  · have hv : imgR t = ([], (ckT t).2) := by unfold imgR; rw [if_pos hw]
    rw [hv]
    exact imageW_p t hw
  · have hv : imgR t = (imL t (evI t) [], 0) := by unfold imgR; rw [if_neg hw]
    rw [hv]
    exact imageK_p t (ckT_ok (Decidable.not_not.1 hw))
def rimF (t : Tsk) (l : List (Int × Int)) (k : Nat) : List (Nat × Nat) := (List.range k).map fun c : Nat => czP (vlA t (c : Int) [] l).1
theorem rimF_succ (t : Tsk) (l : List (Int × Int)) (k : Nat) : rimF t l (k + 1) = rimF t l k ++ [czP (vlA t (k : Int) [] l).1] := by unfold rimF; rw [List.range_succ, List.map_append]; rfl
theorem rimF_len (t : Tsk) (l : List (Int × Int)) (k : Nat) : (rimF t l k).length = k := by unfold rimF; rw [List.length_map, List.length_range]
theorem rim_ev (t : Tsk) : rimF t (evL t) (clN t) = imL t (evI t) [] := by unfold rimF imL vlsL vlsF; rw [List.map_map]; rfl
set_option maxRecDepth 100000 in
theorem rimageOf_p (t : Tsk) (l : List (Int × Int)) (h : TskOk t) (hl : PrsOk t l) : PC Tryz.prog 115 [.agg (tskC t), .sl 2 (l.map shC)] (.sl 1 ((rimF t l (clN t)).map cvC)) := by
 obtain ⟨hg, _, _⟩ := ckG_ok h.gr
 have hci := cells_in hg
 have hcn : ((clN t : Nat) : Int) = t.g.co * t.g.ro := by unfold clN; omega
 refine pc_of_awpN Tryz.func115 rfl Tryz.ntmps115 (rs := [.tmp 4]) Tryz.results115 (by simp) fun w0 hmine hrnd hpn => ?_
 refine awp_seq ?_
 refine awp_region 2 mixed (by kernel_rfl) ?_
 refine rg_q (q_box rfl (by exact .inr ⟨_, rfl⟩)) ?_
 refine rg_q (q_assign (x := .d (.sl _ _)) rfl) ?_
 refine rs (awp_region 1 mixed (by kernel_rfl) ?_)
 refine rg_q (q_assign_nil) ?_
 refine rn ?_
 change Awp _ _ _ _ _
 refine Awp.le (le_own (k := 5) (e := 46) (sz := 1) rfl rfl) ?_
 refine awp_seq ?_
 refine awp_seq ?_
 refine awp_region 1 mixed (by kernel_rfl) ?_
 refine rg_q (q_a rfl) ?_
 refine rn ?_
 change Awp _ _ _ _ _
 refine awp_block ?_
 refine awp_loopH [5, 6, 7, 8, 9, 10, 11, 12, 13, 14, 15, 16, 17, 18, 19, 20, 21, 22, 23, 24, 25, 26, 27, 28, 29, 30] [5] (α := Nat) (fun k => [(6, T.i (k : Int)), (5, .rs 5)]) (fun k => [(5, .row 46 1 ((rimF t l k).map cvC))]) (fun k => k ≤ clN t) (fun k => clN t - k) 0 (Nat.zero_le _) ?_ ?_
 · exact le_head (ms := [5]) (by repeat (exact Out.refl _)) ⟨(by rfl), (by rfl), trivial⟩ ⟨(by rfl), trivial⟩ rfl rfl rfl rfl
 ·
  intro k hk
  have hvl := rimF_len t l k
  refine awp_seq ?_
  refine awp_seq ?_
  refine awp_region 5 mixed (by kernel_rfl) ?_
  refine rg_q (q_m rfl) (rg_q (q_fieldAddr fld37_2 rfl) ?_)
  refine rg_q (q_loadA (ds := [_, _, _, _, _]) sz35 rfl rfl rfl) ?_
  refine rg_q (q_call en56 (.cons rfl .nil) rfl (rcells_p t.g hg)) ?_
  refine rg_q (q_lss rfl rfl) ?_
  refine rn ?_
  change Awp _ _ _ _ _
  refine awp_cond rfl (fun hc3 => ?_) (fun hc3 => ?_)
  ·
   (try simp only [nb, ne_eq] at hc3)
   have hlt : k < clN t := by omega
   have hck : clE t.g (k : Int) = 0 := clE_of (by omega) (by omega)
   have hsk : (rimF t l (k + 1)).map cvC = (rimF t l k).map cvC ++ [cvC (czP (vlA t (k : Int) [] l).1)] := by rw [rimF_succ, List.map_append]; rfl
   refine awp_skip ?_
   change Awp _ _ _ _ _
   refine awp_seq ?_
   refine awp_block ?_
   refine awp_seq ?_
   refine awp_region 11 mixed (by kernel_rfl) ?_
   refine rg_q (q_loadA sz37 rfl rfl rfl) ?_
   refine rg_q (q_m rfl) (rg_q (q_move (x := .d (.sl _ _)) rfl) ?_)
   refine rg_q (q_call en99 (.cons rfl (.cons rfl (.cons rfl .nil))) rfl (rsum_p t k l h hck hl)) ?_
   refine rg_q (q_move (x := .d (.tup _)) rfl) (rg_q (q_extract rfl rfl) (rg_q (q_extract rfl rfl) (rg_q (q_extract rfl rfl) (rg_q (q_a rfl) (rg_q (q_a rfl) ?_)))))
   refine rg_q (q_a rfl) ?_
   refine rn ?_
   change Awp _ _ _ _ _
   refine awp_region 5 mixed (by kernel_rfl) ?_
   refine rg_q (q_move (x := .rs _) rfl) (rg_q (q_m rfl) (rg_q (q_m rfl) ?_))
   refine rg_q (q_call en101 (.cons rfl (.cons rfl .nil)) rfl (rnum_p _ _)) ?_
   refine rg_q (q_buildSlice sl72 zr46 rfl rfl (by decide) (.cons rfl (by exact .inl rfl) .nil) ⟨rfl, rfl, trivial⟩ rfl (by decide) rfl) ?_
   refine rg_nil ?_
   refine aops_append sl72 zr46 by46 rfl (by decide) rfl rfl rfl rfl (by (try simp only [List.length_map, List.length_append, List.length_cons, List.length_nil]); omega) (by (try simp only [List.length_map, List.length_append, List.length_cons, List.length_nil]); omega) rfl rfl ?_
   refine aops_q rfl (q_assign (x := .rs _) rfl) ?_
   refine aops_nil ?_
   change Awp _ _ _ _ _
   refine awp_region 3 mixed (by kernel_rfl) ?_
   refine rg_q (q_m rfl) ?_
   refine rg_q (q_add rfl rfl (In64.mk (by omega) (by omega))) ?_
   refine rg_q (q_a rfl) ?_
   refine rn ?_
   refine ⟨k + 1, by omega, by omega, ?_⟩
   exact le_head (ms := [5]) (by repeat (first | exact Out.head rfl rfl | (refine Out.put ?_ rfl) | (refine Out.site ?_ rfl) | (refine Out.killS ?_ rfl))) ⟨(by rfl), (by rfl), trivial⟩ ⟨(by ((show Site.row _ _ _ = Site.row _ _ _; (rw [hsk]; rfl)))), trivial⟩ rfl rfl rfl rfl
  ·
   (try simp only [nb, ne_eq] at hc3)
   have hkn : k = clN t := by omega
   subst hkn
   refine awp_exit ?_
   change Awp _ _ _ _ _
   refine awp_seq ?_
   refine awp_region 2 mixed (by kernel_rfl) ?_
   refine rg_q (q_move (x := .rs _) rfl) (rg_q (q_assign (x := .rs _) rfl) ?_)
   refine rn ?_
   change Awp _ _ _ _ _
   refine awp_ret ?_
   refine ⟨_, (.cons (.tmp (by exact .rs rfl)) .nil), ?_⟩
   rfl
theorem sbB_is (x y : Nat × Nat) : sbB x.1 x.2 y.1 y.2 = decide (x = y) := by
  obtain ⟨a, b⟩ := x
  obtain ⟨c, d⟩ := y
  unfold sbB
  by_cases h1 : a = c
  · by_cases h2 : b = d
    · simp [h1, h2]
    · have : ¬ (b : Int) = d := by omega
      simp [h1, h2, this]
  · have : ¬ (a : Int) = c := by omega
    simp [h1, this]
set_option maxRecDepth 100000 in
theorem sameNums_p (l m : List (Nat × Nat)) : PC Tryz.prog 38 [.sl 1 (l.map cvC), .sl 1 (m.map cvC)] (.v (.bool (decide (l = m)))) := by
 refine pc_of_awp Tryz.func38 rfl Tryz.ntmps38 (rs := [.tmp 4]) Tryz.results38 (by simp) fun w0 => ?_
 refine awp_seq ?_
 refine awp_region 1 mixed (by kernel_rfl) ?_
 refine rg_q (q_a rfl) ?_
 refine rn ?_
 change Awp _ _ _ _ _
 refine awp_seq ?_
 refine awp_seq ?_
 refine awp_region 5 mixed (by kernel_rfl) ?_
 refine rg_q (q_move (x := .d (.sl _ _)) rfl) ?_
 refine rg_q (q_len isl72 rfl (by exact len_map _ _)) ?_
 refine rg_q (q_move (x := .d (.sl _ _)) rfl) ?_
 refine rg_q (q_len isl72 rfl (by exact len_map _ _)) ?_
 refine rg_q (q_neq rfl rfl) ?_
 refine rn ?_
 change Awp _ _ _ _ _
 refine awp_len (t := 6) rfl (fun hl6 => ?_)
 (try simp only [List.length_map] at hl6)
 refine awp_len (t := 8) rfl (fun hl8 => ?_)
 (try simp only [List.length_map] at hl8)
 refine awp_cond rfl (fun hc1 => ?_) (fun hc1 => ?_)
 ·
  (try simp only [nb, ne_eq] at hc1)
  have hz : decide (l = m) = false := decide_eq_false (fun e => by rw [e] at hc1; omega)
  refine awp_seq ?_
  refine awp_region 1 mixed (by kernel_rfl) ?_
  refine rg_q (q_a rfl) ?_
  refine rn ?_
  change Awp _ _ _ _ _
  refine awp_ret ?_
  refine ⟨_, (.cons (.tmp (by exact .d _)) .nil), ?_⟩
  rw [hz]; rfl
 ·
  (try simp only [nb, ne_eq] at hc1)
  have hlm : l.length = m.length := by omega
  refine awp_skip ?_
  change Awp _ _ _ _ _
  refine awp_seq ?_
  refine awp_seq ?_
  refine awp_region 1 mixed (by kernel_rfl) ?_
  refine rg_q (q_a rfl) ?_
  refine rn ?_
  change Awp _ _ _ _ _
  refine awp_block ?_
  refine awp_loopH [4, 5, 11, 12, 13, 14, 15, 16, 17, 18, 19, 20, 21, 22, 23, 24, 25, 26] [] (α := Nat) (fun k => [(5, T.i (k : Int))]) (fun k => []) (fun k => k ≤ l.length ∧ l.take k = m.take k) (fun k => l.length - k) 0 ⟨Nat.zero_le _, rfl⟩ ?_ ?_
  · exact le_head (ms := []) (by repeat (exact Out.refl _)) ⟨(by rfl), trivial⟩ trivial rfl rfl rfl rfl
  ·
   intro k ⟨hk, hf⟩
   refine awp_seq ?_
   refine awp_seq ?_
   refine awp_region 4 mixed (by kernel_rfl) ?_
   refine rg_q (q_m rfl) (rg_q (q_move (x := .d (.sl _ _)) rfl) ?_)
   refine rg_q (q_len isl72 rfl (by exact len_map _ _)) ?_
   refine rg_q (q_lss rfl rfl) ?_
   refine rn ?_
   change Awp _ _ _ _ _
   refine awp_len (t := 12) rfl (fun hl12 => ?_)
   (try simp only [List.length_map] at hl12)
   refine awp_cond rfl (fun hc4 => ?_) (fun hc4 => ?_)
   ·
    (try simp only [nb, ne_eq] at hc4)
    have hlt : k < l.length := by omega
    obtain ⟨x, hx⟩ : ∃ x, l[k]? = some x := ⟨_, List.getElem?_eq_getElem hlt⟩
    obtain ⟨y, hy⟩ : ∃ y, m[k]? = some y := ⟨_, List.getElem?_eq_getElem (by omega)⟩
    have hxy := sbB_is x y
    refine awp_skip ?_
    change Awp _ _ _ _ _
    refine awp_seq ?_
    refine awp_block ?_
    refine awp_seq ?_
    refine awp_region 10 mixed (by kernel_rfl) ?_
    refine rg_q (q_move (x := .d (.sl _ _)) rfl) (rg_q (q_m rfl) ?_)
    refine rg_q (q_indexAddr sl72 rfl rfl (by omega) (map_at (k := k) (by omega) hx)) ?_
    refine rg_q (q_load sz46 rfl rfl) (rg_q (q_move (x := .d (.sl _ _)) rfl) (rg_q (q_m rfl) ?_))
    refine rg_q (q_indexAddr sl72 rfl rfl (by omega) (map_at (k := k) (by omega) hy)) ?_
    refine rg_q (q_load sz46 rfl rfl) ?_
    refine rg_q (q_call en26 (.cons rfl (.cons rfl .nil)) rfl (sameBits_p x.1 x.2 y.1 y.2)) ?_
    refine rg_q (q_not rfl) ?_
    refine rn ?_
    change Awp _ _ _ _ _
    refine awp_cond rfl (fun hc6 => ?_) (fun hc6 => ?_)
    ·
     (try simp only [nb, ne_eq] at hc6)
     have hz : decide (l = m) = false := decide_eq_false (fun e => by rw [e, hy] at hx; have := Option.some.inj hx; subst this; rw [hc6] at hxy; simp at hxy)
     refine awp_seq ?_
     refine awp_region 1 mixed (by kernel_rfl) ?_
     refine rg_q (q_a rfl) ?_
     refine rn ?_
     change Awp _ _ _ _ _
     refine awp_ret ?_
     refine ⟨_, (.cons (.tmp (by exact .d _)) .nil), ?_⟩
     rw [hz]; rfl
    ·
     (try simp only [nb, ne_eq] at hc6)
     rw [hc6] at hxy
     have hxe : x = y := of_decide_eq_true hxy.symm
     have hnx : l.take (k + 1) = m.take (k + 1) := by rw [takeSnoc hx, takeSnoc hy, hf, hxe]
     refine awp_skip ?_
     change Awp _ _ _ _ _
     refine awp_region 3 mixed (by kernel_rfl) ?_
     refine rg_q (q_m rfl) ?_
     refine rg_q (q_add rfl rfl (In64.mk (by omega) (by omega))) ?_
     refine rg_q (q_a rfl) ?_
     refine rn ?_
     refine ⟨k + 1, ⟨by omega, hnx⟩, by omega, ?_⟩
     exact le_head (ms := []) (by repeat (first | exact Out.head rfl rfl | (refine Out.put ?_ rfl))) ⟨(by rfl), trivial⟩ trivial rfl rfl rfl rfl
   ·
    (try simp only [nb, ne_eq] at hc4)
    have hz : decide (l = m) = true := decide_eq_true (by rw [← List.take_of_length_le (l := l) (i := k) (by omega), hf, List.take_of_length_le (by omega)])
    refine awp_exit ?_
    change Awp _ _ _ _ _
    refine awp_seq ?_
    refine awp_region 1 mixed (by kernel_rfl) ?_
    refine rg_q (q_a rfl) ?_
    refine rn ?_
    change Awp _ _ _ _ _
    refine awp_ret ?_
    refine ⟨_, (.cons (.tmp (by exact .d _)) .nil), ?_⟩
    rw [hz]; rfl
end Go.Proofs.YtphlaicnmmglhaaGreat.Am.M
namespace Go.Proofs.YtphlaicnmmglhaaGreat.Am
open Go Go.RowKit
section
variable {P : Program} {w0 : Cx} {n : Nat} {s : Nat → Site} {ev : Operand → T} {dst : Option Tmp} {ty : TypeId} {pos : String} {after : Array Edge} {g : Option (Nat × Bool)}
theorem q_andNotE {t t' : TypeId} {x y : Operand} {k : IntKind} {a b c : Int} (hx : ev x = .d (.v (.int k a))) (hy : ev y = .d (.v (.int k b))) (h : bits .andNot k a b = c) : QOp P w0 n s ev ⟨dst, .binOp .andNot t x y t', ty, pos, after, g⟩ (.d (.v (.int k c))) :=
  q_bin hx hy (fun w => by
    subst h
    simp [eqGuard, binOp_andNot, intBits_andNot]) rfl
theorem q_extN {f : FuncId} {fn : Func} {e : Array Value → Sem Value} {y : Operand} {u : Value} {k : FloatKind} {at_ : Array TypeId} (hf : P.funcs[f]? = some fn) (hname : (fn.name == "runtime.NumGoroutine") = false) (hb : fn.body.isNone = true) (hn : Extern.findNext fn = none) (he : Extern.find fn = some e)
    (hev : ev (.func f) = .d (.fn (.func f) [])) (hy : ev y = .d (.v u)) (hr : ∀ w, ∃ b w', (e #[u]).run P w = .ok (.float k b) w' ∧ Ext w w' ∧ (k.decode b).isNaN = true) : QOp P w0 n s ev ⟨dst, .call ⟨.value (.func f), #[y], at_⟩, ty, pos, after, g⟩ (.d (.nan k)) :=
  .mk fun a w ok blk val h _ hnew => by
    have hv : a.eval y = u := RepT.v_eq (hy ▸ h y)
    obtain ⟨b, w', h1, h2, h3⟩ := hr w
    refine ⟨.float k b, w', ?_, h2, .nan k b h3⟩
    have hc := run_callFunc_extern (P := P) hf hname hb hn he #[u] w
    have hfv : a.eval (Operand.func f) = .func (.func f) #[] #[] := rfl
    simp [execOp, resolve, invoke, hv, hfv, Deferred.ofValue, hc, h1]
end
end Go.Proofs.YtphlaicnmmglhaaGreat.Am
namespace Go.Proofs.YtphlaicnmmglhaaGreat.Am.M
open Go

def absD : Ieee.Datum → Ieee.Datum
  | .number _ m e => .number false m e
  | .infinity _ => .infinity false
  | .nan _ t => .nan false t
theorem read_abs (b : Nat) : Ieee.double.read (b % 2 ^ 63) = absD (Ieee.double.read b) := by
  have e1 : Ieee.double.signWeight = 2 ^ 63 := rfl
  have h1 : b % 2 ^ 63 % 2 ^ 63 = b % 2 ^ 63 := Nat.mod_mod _ _
  have h2 : b % 2 ^ 63 / 2 ^ 63 % 2 = 0 := by rw [Nat.div_eq_of_lt (Nat.mod_lt _ (by decide))]
  unfold Ieee.Format.read
  simp only [e1, h1, h2]
  by_cases c1 : b % 2 ^ 63 < Ieee.double.binade
  · rw [if_pos c1, if_pos c1]; rfl
  · rw [if_neg c1, if_neg c1]
    by_cases c2 : b % 2 ^ 63 < Ieee.double.infRung
    · rw [if_pos c2, if_pos c2]; rfl
    · rw [if_neg c2, if_neg c2]
      by_cases c3 : b % 2 ^ 63 = Ieee.double.infRung
      · rw [if_pos c3, if_pos c3]; rfl
      · rw [if_neg c3, if_neg c3]; rfl
theorem num_abs {b : Nat} {s : Bool} {M : Nat} (h : Numb Ieee.double b s M) : Numb Ieee.double (b % 2 ^ 63) false M := by
  obtain ⟨m, e, h1, h2, h3⟩ := h
  exact ⟨m, e, by rw [read_abs, h1]; rfl, h2, h3⟩
def infB (b : Nat) : Bool := ordB .gtr (FloatKind.f64.format.order (b % 2 ^ 63) 9218868437227405311)
def MX : Nat := 9007199254740991 * 2 ^ (971 + KK)
theorem num_max : Numb Ieee.double 9218868437227405311 false MX := ⟨9007199254740991, 971, by decide +kernel, by omega, by
  rw [show ((971 : Int) + KK).toNat = 971 + KK by omega]; rfl⟩
theorem num_le {b : Nat} {s : Bool} {m : Nat} {e : Int} {M : Nat} (hr : Ieee.double.read b = .number s m e) (hM : m * 2 ^ (e + KK).toNat = M) : M ≤ MX := by
  obtain ⟨h1, h2, h3⟩ := read_num fmD hr
  have h4 : m ≤ 9007199254740991 := by
    have : (2 : Nat) ^ (52 + 1) = 9007199254740992 := by decide
    omega
  rw [← hM]
  unfold MX
  exact Nat.mul_le_mul h4 (Nat.pow_le_pow_right (by omega) (by omega))
theorem inf_num {b : Nat} {s : Bool} {m : Nat} {e : Int} {M : Nat} (hr : Ieee.double.read b = .number s m e) (hM : m * 2 ^ (e + KK).toNat = M) : infB b = false := by
  have hn := num_of fmD LD hr
  rw [hM] at hn
  have h := ob_gtr (num_abs hn) num_max
  have hle := num_le hr hM
  unfold infB
  refine h.trans (decide_eq_false ?_)
  unfold sgI
  rw [if_neg (by decide), if_neg (by decide)]
  omega
theorem inf_inf {b : Nat} {s : Bool} (hr : Ieee.double.read b = .infinity s) : infB b = true := by
  have h : Ieee.double.order (b % 2 ^ 63) 9218868437227405311 = some .gt := by
    unfold Ieee.Format.order
    rw [read_abs, hr]
    obtain ⟨m, e, h1, _, _⟩ := num_max
    rw [h1]; rfl
  have e : FloatKind.f64.format.order (b % 2 ^ 63) 9218868437227405311 = Ieee.double.order (b % 2 ^ 63) 9218868437227405311 := rfl
  unfold infB
  rw [e, h]; rfl
def tz64 (b : Nat) : Nat := Ieee.double.write ((Ieee.double.read b).integral .zero)
theorem tr_num {b : Nat} {s : Bool} {m : Nat} {e : Int} {M : Nat} (hr : Ieee.double.read b = .number s m e) (hM : m * 2 ^ (e + KK).toNat = M) : tz64 b = Ieee.double.nearest s (M / QQ) 0 := by
  have hge := (read_num fmD hr).2.1
  have hLD := LD
  unfold tz64
  rw [hr]
  unfold Ieee.Datum.integral
  simp only [cutz]
  show Ieee.double.nearest s _ 0 = _
  congr 1
  rw [Nat.shiftLeft_eq, ← hM]
  unfold QQ
  by_cases he : 0 ≤ e
  · have e1 : (-e).toNat = 0 := by omega
    have e2 : (e + KK).toNat = e.toNat + KK := by omega
    rw [e1, e2, Nat.pow_zero, Nat.div_one, Nat.pow_add, ← Nat.mul_assoc, Nat.mul_div_cancel _ (Nat.two_pow_pos _)]
  · have e1 : e.toNat = 0 := by omega
    obtain ⟨u, hu⟩ : ∃ u : Nat, u = (e + KK).toNat := ⟨_, rfl⟩
    obtain ⟨v, hv⟩ : ∃ v : Nat, v = (-e).toNat := ⟨_, rfl⟩
    have e2 : KK = u + v := by omega
    rw [e1, Nat.pow_zero, Nat.mul_one, ← hu, ← hv, e2, Nat.pow_add, Nat.mul_comm m, Nat.mul_div_mul_left _ _ (Nat.two_pow_pos _)]
theorem whole_num {f : Ieee.Format} {p L I : Nat} (h : Fm f p L I) (hL : L ≤ KK) {b : Nat} {s : Bool} {m : Nat} {e : Int} {M : Nat} (hr : f.read b = .number s m e) (hM : m * 2 ^ (e + KK).toNat = M) :
    Numb f (f.nearest s (M / QQ) 0) s (M / QQ * QQ) := by
  obtain ⟨h1, h2, h3⟩ := read_num h hr
  have hpl := h.pl
  have hli := h.li
  by_cases he : 0 ≤ e
  · have e2 : (e + KK).toNat = e.toNat + KK := by omega
    have hq : M / QQ = m * 2 ^ e.toNat := by
      rw [← hM, e2, Nat.pow_add, ← Nat.mul_assoc]
      exact Nat.mul_div_cancel _ QQ_pos
    have := num_near h s e.toNat 0 h1 hL (by omega) (fun _ => by omega) (fun h0 => by have := log_le h0 h1; omega)
    rw [show ((0 : Int) + KK).toNat = KK by omega, ← hq] at this
    exact this
  · have hlt : M / QQ < 2 ^ (p + 1) := by
      refine Nat.lt_of_le_of_lt ?_ h1
      refine Nat.div_le_of_le_mul ?_
      rw [← hM, Nat.mul_comm QQ]
      exact Nat.mul_le_mul_left _ (Nat.pow_le_pow_right (by omega) (by omega))
    have := num_near h s 0 0 hlt hL (by omega) (fun _ => by omega) (fun h0 => by have := log_le h0 hlt; omega)
    rw [Nat.pow_zero, Nat.mul_one, show ((0 : Int) + KK).toNat = KK by omega] at this
    exact this
def tneB (b : Nat) : Bool := if (FloatKind.f64.decode b).isNaN = true then true else ordB .neq (FloatKind.f64.format.order (tz64 b) b)
theorem tne_num {b : Nat} {s : Bool} {m : Nat} {e : Int} {M : Nat} (hr : Ieee.double.read b = .number s m e) (hM : m * 2 ^ (e + KK).toNat = M) : tneB b = !decide (M % QQ = 0) := by
  have hn := num_of fmD LD hr
  rw [hM] at hn
  have hw := whole_num fmD LD hr hM
  have h1 : (FloatKind.f64.decode b).isNaN = false := by
    show (Ieee.double.read b).isNaN = false
    rw [hr]; rfl
  unfold tneB
  rw [if_neg (by rw [h1]; decide), tr_num hr hM]
  have h2 : FloatKind.f64.format.order (Ieee.double.nearest s (M / QQ) 0) b = some (compare (sgI s (M / QQ * QQ)) (sgI s M)) := order_num hw hn
  rw [h2]
  have hd := Nat.div_add_mod M QQ
  rw [Nat.mul_comm] at hd
  have h3 := (cmp_some (sgI s (M / QQ * QQ)) (sgI s M)).1
  unfold ordB
  show (some (compare _ _) != some .eq) = _
  rw [bne, h3]
  congr 1
  refine decide_eq_decide.2 ?_
  rw [sg_eq]
  omega
theorem wh_is (b : Nat) : whD b = !(tneB b || infB b) := by
  cases hr : Ieee.double.read b with
  | nan s t =>
    have h1 : (FloatKind.f64.decode b).isNaN = true := by
      show (Ieee.double.read b).isNaN = true
      rw [hr]; rfl
    unfold whD tneB
    rw [hr, if_pos h1]; rfl
  | infinity s =>
    rw [inf_inf hr]
    unfold whD
    rw [hr, Bool.or_true]; rfl
  | number s m e =>
    obtain ⟨M, hM⟩ : ∃ M, m * 2 ^ (e + KK).toNat = M := ⟨_, rfl⟩
    rw [tne_num hr hM, inf_num hr hM]
    unfold whD
    rw [hr]
    simp only [hM]
    simp
def bgB (b : Nat) : Bool := ordB .gtr (FloatKind.f64.format.order (b % 2 ^ 63) 4711630319722168320)
def vD (b : Nat) : Int :=
  match Ieee.double.read b with
  | .number s m e => sgI s (m * 2 ^ (e + KK).toNat / QQ)
  | _ => 0
theorem num_im : Numb Ieee.double 4711630319722168320 false (10000000 * QQ) := by
  have h := num_wd fmD LD (a := 10000000) (by decide)
  rw [show wd Ieee.double 10000000 = 4711630319722168320 by decide +kernel, show decide ((10000000 : Int) < 0) = false from rfl, show (10000000 : Int).natAbs = 10000000 from rfl] at h
  exact h
theorem bg_num {b : Nat} {s : Bool} {M : Nat} (hn : Numb Ieee.double b s M) : bgB b = decide (10000000 * QQ < M) := by
  unfold bgB
  refine (ob_gtr (num_abs hn) num_im).trans (decide_eq_decide.2 ?_)
  unfold sgI
  rw [if_neg (by decide), if_neg (by decide)]
  exact Int.ofNat_lt
theorem wh_num {b : Nat} (h : whD b = true) : ∃ s m e, Ieee.double.read b = .number s m e ∧ m * 2 ^ (e + KK).toNat % QQ = 0 := by
  unfold whD at h
  cases hr : Ieee.double.read b with
  | nan s t => rw [hr] at h; cases h
  | infinity s => rw [hr] at h; cases h
  | number s m e => rw [hr] at h; exact ⟨s, m, e, rfl, of_decide_eq_true h⟩
theorem div10 {M : Nat} (h : ¬ 10000000 * QQ < M) : M / QQ ≤ 10000000 := Nat.div_le_of_le_mul (by rw [Nat.mul_comm QQ]; exact Nat.le_of_not_lt h)
theorem vD_in {b : Nat} (h : whD b = true) (hb : bgB b = false) : (-10000000 ≤ vD b ∧ vD b ≤ 10000000) ∧ floatToIntVal .f64 b .i64 = some (vD b) := by
  obtain ⟨s, m, e, hr, _⟩ := wh_num h
  obtain ⟨M, hM⟩ : ∃ M, m * 2 ^ (e + KK).toNat = M := ⟨_, rfl⟩
  have hn := num_of fmD LD hr
  rw [hM] at hn
  rw [bg_num hn, decide_eq_false_iff_not] at hb
  have h1 : M / QQ ≤ 10000000 := div10 hb
  have hv : vD b = sgI s (M / QQ) := by unfold vD; rw [hr]; simp only [hM]
  rw [hv]
  exact ⟨(in_M (s := s) 10000000).2 h1, int_num (k := .f64) hn (by omega)⟩
theorem wd_wh {a : Int} (h : a.natAbs < 2 ^ 53) : whD (FloatKind.f64.nearest a) = true ∧ vD (FloatKind.f64.nearest a) = a ∧ bgB (FloatKind.f64.nearest a) = decide (10000000 < a.natAbs) := by
  have e : FloatKind.f64.nearest a = wd Ieee.double a := rfl
  have hn : Numb Ieee.double (FloatKind.f64.nearest a) (decide (a < 0)) (a.natAbs * QQ) := num_wd fmD LD h
  obtain ⟨m, x, h1, h2, h3⟩ := hn
  refine ⟨?_, ?_, ?_⟩
  · unfold whD
    rw [h1]
    simp only [h3]
    exact decide_eq_true (Nat.mul_mod_left _ _)
  · unfold vD
    rw [h1]
    simp only [h3]
    rw [Nat.mul_div_cancel _ QQ_pos]
    unfold sgI
    by_cases ha : a < 0
    · rw [decide_eq_true ha, if_pos rfl]; omega
    · rw [decide_eq_false ha, if_neg (by simp)]; omega
  · rw [bg_num ⟨m, x, h1, h2, h3⟩]
    exact decide_eq_decide.2 ⟨fun q => Nat.lt_of_mul_lt_mul_right q, fun q => Nat.mul_lt_mul_of_pos_right q QQ_pos⟩
theorem andNot_is (b : Nat) : bits .andNot .u64 (b : Int) 9223372036854775808 = ((b % 2 ^ 63 : Nat) : Int) := by
  unfold bits
  have e1 : (~~~BitVec.ofInt 64 9223372036854775808 : BitVec 64) = BitVec.ofNat 64 (2 ^ 63 - 1) := by decide
  have e2 : BitVec.ofInt 64 (b : Int) = BitVec.ofNat 64 b := by
    apply BitVec.eq_of_toNat_eq
    simp [BitVec.toNat_ofInt]
  show IntKind.u64.wrap ((BitVec.ofInt 64 (b : Int) &&& ~~~BitVec.ofInt 64 9223372036854775808 : BitVec 64).toNat) = _
  rw [e1, e2, BitVec.toNat_and, BitVec.toNat_ofNat, BitVec.toNat_ofNat, Nat.mod_eq_of_lt (show 2 ^ 63 - 1 < 2 ^ 64 by decide), Nat.and_two_pow_sub_one_eq_mod]
  have e3 : b % 2 ^ 64 % 2 ^ 63 = b % 2 ^ 63 := Nat.mod_mod_of_dvd _ (by decide)
  rw [e3]
  have h := Nat.mod_lt b (show 2 ^ 63 > 0 by decide)
  generalize b % 2 ^ 63 = c at h ⊢
  have e4 : IntKind.u64.bits = 64 := rfl
  have e5 : IntKind.u64.signed = false := rfl
  unfold IntKind.wrap
  simp [e4, e5]
  omega
theorem nan_quiet {b : Nat} {s : Bool} {t : Nat} (hr : Ieee.double.read b = .nan s t) : (FloatKind.f64.decode (FloatKind.f64.encode (.nan s (FloatKind.f64.format.quiet t)))).isNaN = true := by
  have h0 : FloatKind.f64.format.quiet t = t ||| 2 ^ 51 := rfl
  have hge : 2 ^ 51 ≤ t ||| 2 ^ 51 := Nat.right_le_or
  obtain ⟨q, hq⟩ : ∃ q, q = (t ||| 2 ^ 51) % 2 ^ 52 := ⟨_, rfl⟩
  have hq1 : 0 < q := by
    rw [hq]
    have : ((t ||| 2 ^ 51) % 2 ^ 52).testBit 51 = true := by
      rw [Nat.testBit_mod_two_pow, Nat.testBit_or, Nat.testBit_two_pow_self]; simp
    refine Nat.pos_of_ne_zero fun h => ?_
    rw [h] at this
    simp at this
  have hq2 : q < 2 ^ 52 := by rw [hq]; exact Nat.mod_lt _ (by decide)
  have e : FloatKind.f64.encode (.nan s (FloatKind.f64.format.quiet t)) = (if s = true then 2 ^ 63 else 0) + 0x7ff0000000000000 + q := by
    rw [h0, hq]
    have e3 : Ieee.double.infRung = 0x7ff0000000000000 := by decide +kernel
    have e4 : Ieee.double.binade = 2 ^ 52 := rfl
    have e5 : Ieee.double.signWeight = 2 ^ 63 := rfl
    show Ieee.double.word s (Ieee.double.infRung + (t ||| 2 ^ 51) % Ieee.double.binade) = _
    unfold Ieee.Format.word
    rw [e3, e4, e5]
    cases s <;> simp <;> omega
  rw [e]
  show (Ieee.double.read _).isNaN = true
  have := nan_d (if s = true then 1 else 0) (q - 1) (by cases s <;> decide) (by omega)
  rw [show (if s = true then 1 else 0) * 2 ^ 63 + 0x7ff0000000000000 + 1 + (q - 1) = (if s = true then 2 ^ 63 else 0) + 0x7ff0000000000000 + q by cases s <;> simp <;> omega] at this
  exact this
end Go.Proofs.YtphlaicnmmglhaaGreat.Am.M
-- mini
namespace Go.Proofs.YtphlaicnmmglhaaGreat.Am.M
open Go

def triG (q : Question) (b : Nat) : Ieee.Datum → Sem Value
  | .nan s t => if FloatKind.f64.format.quiet t = t then pure (.float .f64 b) else choose q >>= fun k => pure (.float .f64 (if k == 1 then b else FloatKind.f64.encode (.nan s (FloatKind.f64.format.quiet t))))
  | .infinity s => pure (.float .f64 (FloatKind.f64.encode (.infinity s)))
  | .number s m x => pure (.float .f64 (FloatKind.f64.encode ((Ieee.Datum.number s m x).integral .zero)))
theorem tri_is : ∃ q : Question, q.forced = false ∧ ∀ b : Nat, Extern.MathFloor.toIntegral "math.archTrunc" .zero #[.float .f64 b] = triG q b (FloatKind.f64.decode b) := by
  refine ⟨?q, ?h1, fun b => ?h2⟩
  case h2 =>
    show Extern.MathFloor.toIntegral.match_1 _ (FloatKind.f64.decode b) _ _ = _
    generalize FloatKind.f64.decode b = d
    cases d with
    | nan s t => rfl
    | infinity s => rfl
    | number s m x => rfl
  case h1 => rfl
theorem trun_num {P : Program} {b : Nat} (h : (FloatKind.f64.decode b).isNaN = false) (w : World) : (Extern.MathFloor.toIntegral "math.archTrunc" .zero #[.float .f64 b]).run P w = .ok (.float .f64 (tz64 b)) w := by
  obtain ⟨q, _, hq⟩ := tri_is
  have e : tz64 b = FloatKind.f64.encode ((FloatKind.f64.decode b).integral .zero) := rfl
  rw [e, hq]
  generalize FloatKind.f64.decode b = d at h ⊢
  cases d with
  | nan s t => cases h
  | infinity s => rfl
  | number s m x => rfl
theorem trun_nan {P : Program} {b : Nat} (h : (FloatKind.f64.decode b).isNaN = true) (w : World) : ∃ c w', (Extern.MathFloor.toIntegral "math.archTrunc" .zero #[.float .f64 b]).run P w = .ok (.float .f64 c) w' ∧ Ext w w' ∧ (FloatKind.f64.decode c).isNaN = true := by
  obtain ⟨q, hf, htr⟩ := tri_is
  have hq0 : ∀ s t, FloatKind.f64.decode b = .nan s t → (FloatKind.f64.decode (FloatKind.f64.encode (.nan s (FloatKind.f64.format.quiet t)))).isNaN = true := fun s t hr => nan_quiet (show Ieee.double.read b = .nan s t from hr)
  have hb := h
  rw [htr]
  generalize FloatKind.f64.decode b = d at h hq0 ⊢
  cases d with
  | infinity s => cases h
  | number s m x => cases h
  | nan s t =>
    unfold triG
    simp only
    by_cases hq : FloatKind.f64.format.quiet t = t
    · refine ⟨b, w, ?_, Ext.refl w, hb⟩
      rw [if_pos hq]; rfl
    · rw [if_neg hq]
      by_cases hk : q.cut (w.tape w.drawn q) = 1
      · exact ⟨b, w.drew, by simp [hf, hk], (Ext.refl w).drew, hb⟩
      · exact ⟨FloatKind.f64.encode (.nan s (FloatKind.f64.format.quiet t)), w.drew, by simp [hf, hk], (Ext.refl w).drew, hq0 s t rfl⟩
def trD (b : Nat) : D := if (FloatKind.f64.decode b).isNaN = true then .nan .f64 else .v (.float .f64 (tz64 b))
section
variable {P : Program} {w0 : Cx} {n : Nat} {s : Nat → Site} {ev : Operand → T} {dst : Option Tmp} {ty : TypeId} {pos : String} {after : Array Edge} {g : Option (Nat × Bool)}
theorem q_neqTr {t t' : TypeId} {x y : Operand} {b : Nat} (hx : ev x = .d (trD b)) (hy : ev y = .d (.v (.float .f64 b))) : QOp P w0 n s ev ⟨dst, .binOp .neq t x y t', ty, pos, after, g⟩ (T.bool (tneB b)) := by
  unfold trD at hx
  unfold tneB
  by_cases h : (FloatKind.f64.decode b).isNaN = true
  · rw [if_pos h] at hx ⊢
    exact q_fcmpN (by decide) hx hy rfl
  · rw [if_neg h] at hx ⊢
    exact q_fcmp (by decide) hx hy rfl
end
set_option maxRecDepth 100000 in
theorem abs_p (b : Nat) : PC Tryz.prog 193 [.v (.float .f64 (b))] (.v (.float .f64 (b % 2 ^ 63))) := by
 refine pc_of_awp Tryz.func193 rfl Tryz.ntmps193 (rs := [.tmp 2]) Tryz.results193 (by simp) fun w0 => ?_
 refine awp_seq ?_
 refine awp_region 1 mixed (by kernel_rfl) ?_
 refine rg_q (q_a rfl) ?_
 refine rs (awp_region 5 mixed (by kernel_rfl) ?_)
 refine rg_q (q_m rfl) ?_
 refine rg_q (q_ext1 (e := Extern.MathFloatBits.float64bits) Tryz.func98 (by kernel_rfl) (by kernel_rfl) (by kernel_rfl) (by kernel_rfl) rfl rfl (fun w => rfl) rfl) ?_
 refine rg_q (q_andNotE rfl rfl (andNot_is b)) ?_
 refine rg_q (q_ext1 (e := Extern.MathFloatBits.float64frombits) Tryz.func250 (by kernel_rfl) (by kernel_rfl) (by kernel_rfl) (by kernel_rfl) rfl rfl (fun w => rfl) rfl) ?_
 refine rg_q (q_a rfl) ?_
 refine rn ?_
 change Awp _ _ _ _ _
 refine awp_ret ?_
 refine ⟨_, (.cons (.tmp (by exact .d _)) .nil), ?_⟩
 rfl
set_option maxRecDepth 100000 in
theorem isInf_p (b : Nat) : PC Tryz.prog 192 [.v (.float .f64 (b)), .v (.int .i64 (0))] (.v (.bool (infB b))) := by
 refine pc_of_awp Tryz.func192 rfl Tryz.ntmps192 (rs := [.tmp 4]) Tryz.results192 (by simp) fun w0 => ?_
 refine awp_seq ?_
 refine awp_region 1 mixed (by kernel_rfl) ?_
 refine rg_q (q_a rfl) ?_
 refine rn ?_
 change Awp _ _ _ _ _
 refine awp_seq ?_
 refine awp_seq ?_
 refine awp_region 2 mixed (by kernel_rfl) ?_
 refine rg_q (q_m rfl) (rg_q (q_eql rfl rfl) ?_)
 refine rn ?_
 change Awp _ _ _ _ _
 refine awp_cond rfl (fun hc1 => ?_) (fun hc1 => ?_)
 ·
  (try simp only [nb, ne_eq] at hc1)
  refine awp_region 3 mixed (by kernel_rfl) ?_
  refine rg_q (q_m rfl) ?_
  refine rg_q (q_call en193 (.cons rfl .nil) rfl (abs_p _)) ?_
  refine rg_q (q_a rfl) ?_
  refine rs (awp_region 3 mixed (by kernel_rfl) ?_)
  refine rg_q (q_m rfl) ?_
  refine rg_q (q_fcmp (by decide) rfl rfl rfl) ?_
  refine rg_q (q_a rfl) ?_
  refine rn ?_
  change Awp _ _ _ _ _
  refine awp_ret ?_
  refine ⟨_, (.cons (.tmp (by exact .d _)) .nil), ?_⟩
  rfl
 ·
  simp at hc1
set_option maxRecDepth 100000 in
theorem truncW_p (b : Nat) (h : (FloatKind.f64.decode b).isNaN = false) : PC Tryz.prog 191 [.v (.float .f64 (b))] (.v (.float .f64 (tz64 b))) := by
 refine pc_of_awp Tryz.func191 rfl Tryz.ntmps191 (rs := [.tmp 2]) Tryz.results191 (by simp) fun w0 => ?_
 refine awp_seq ?_
 refine awp_region 1 mixed (by kernel_rfl) ?_
 refine rg_q (q_a rfl) ?_
 refine rn ?_
 change Awp _ _ _ _ _
 refine awp_seq ?_
 refine awp_cond rfl (fun hc0 => ?_) (fun hc0 => ?_)
 ·
  (try simp only [nb, ne_eq] at hc0)
  refine awp_seq ?_
  refine awp_region 3 mixed (by kernel_rfl) ?_
  refine rg_q (q_m rfl) ?_
  refine rg_q (q_ext1 (e := Extern.MathFloor.toIntegral "math.archTrunc" .zero) Tryz.func248 (by kernel_rfl) (by kernel_rfl) (by kernel_rfl) (by kernel_rfl) rfl rfl (fun w => trun_num h w) rfl) ?_
  refine rg_q (q_a rfl) ?_
  refine rn ?_
  change Awp _ _ _ _ _
  refine awp_ret ?_
  refine ⟨_, (.cons (.tmp (by exact .d _)) .nil), ?_⟩
  rfl
 ·
  cases hc0
set_option maxRecDepth 100000 in
theorem truncN_p (b : Nat) (h : (FloatKind.f64.decode b).isNaN = true) : PC Tryz.prog 191 [.v (.float .f64 (b))] (.nan .f64) := by
 refine pc_of_awp Tryz.func191 rfl Tryz.ntmps191 (rs := [.tmp 2]) Tryz.results191 (by simp) fun w0 => ?_
 refine awp_seq ?_
 refine awp_region 1 mixed (by kernel_rfl) ?_
 refine rg_q (q_a rfl) ?_
 refine rn ?_
 change Awp _ _ _ _ _
 refine awp_seq ?_
 refine awp_cond rfl (fun hc0 => ?_) (fun hc0 => ?_)
 ·
  (try simp only [nb, ne_eq] at hc0)
  refine awp_seq ?_
  refine awp_region 3 mixed (by kernel_rfl) ?_
  refine rg_q (q_m rfl) ?_
  refine rg_q (q_extN (e := Extern.MathFloor.toIntegral "math.archTrunc" .zero) Tryz.func248 (by kernel_rfl) (by kernel_rfl) (by kernel_rfl) (by kernel_rfl) rfl rfl (fun w => trun_nan h w)) ?_
  refine rg_q (q_assign (x := .d (.nan _)) rfl) ?_
  refine rn ?_
  change Awp _ _ _ _ _
  refine awp_ret ?_
  refine ⟨_, (.cons (.tmp (by exact .d _)) .nil), ?_⟩
  rfl
 ·
  cases hc0

theorem trunc_p (b : Nat) : PC Tryz.prog 191 [.v (.float .f64 b)] (trD b) := by
  unfold trD
  by_cases h : (FloatKind.f64.decode b).isNaN = true
  · rw [if_pos h]; exact truncN_p b h
  · rw [if_neg h]; exact truncW_p b (by simpa using h)
def pN (z : Nat × Nat) (i : Nat) : Nat := if i = 0 then z.1 else z.2
theorem pN_at {z : Nat × Nat} {i : Nat} (h : i < 2) : ([.v (.float .f64 z.1), .v (.float .f64 z.2)] : List D)[((i : Nat) : Int).toNat]? = some (.v (.float .f64 (pN z i))) := by rcases two i h with rfl | rfl <;> rfl
def peI (z : Nat × Nat) : Int := if (whD z.1 && whD z.2) = true then whenI (bgB z.1 || bgB z.2) 2 else 25
theorem peI_bad {z : Nat × Nat} {i : Nat} (hi : i < 2) (h : whD (pN z i) = false) : peI z = 25 := by
  unfold peI
  rcases two i hi with rfl | rfl
  · rw [show whD z.1 = false from h, if_neg (by simp)]
  · rw [show whD z.2 = false from h, if_neg (by simp)]
set_option maxRecDepth 100000 in
theorem partErr_p (z : Nat × Nat) : PC Tryz.prog 127 [cvD z] (.v (.int .i64 (peI z))) := by
 refine pc_of_awpN Tryz.func127 rfl Tryz.ntmps127 (rs := [.tmp 2]) Tryz.results127 (by simp) fun w0 hmine hrnd hpn => ?_
 refine awp_seq ?_
 refine awp_region 1 mixed (by kernel_rfl) ?_
 refine rg_q (q_a rfl) ?_
 refine rs (awp_region 5 mixed (by kernel_rfl) ?_)
 refine rg_q (q_m rfl) ?_
 refine rg_q (q_real rfl) ?_
 refine rg_q (q_m rfl) ?_
 refine rg_q (q_imag rfl) ?_
 refine rg_q (q_buildA (cs := [_, _]) ar285 zr285 rfl (.cons rfl (by exact .inl rfl) (.cons rfl (by exact .inl rfl) .nil)) ⟨⟨rfl, by decide⟩, ⟨rfl, by decide⟩, trivial⟩ rfl) ?_
 refine rg_nil ?_
 refine aops_allocD zr285 rfl sz285 rfl rfl (by exact .inr ⟨_, rfl⟩) rfl rfl ?_
 refine aops_nil ?_
 change Awp _ _ _ _ _
 refine awp_seq ?_
 refine awp_seq ?_
 refine awp_region 2 mixed (by kernel_rfl) ?_
 refine rg_q (q_loadA (ds := [_, _]) sz285 rfl rfl rfl) ?_
 refine rg_q (q_m rfl) ?_
 refine rn ?_
 change Awp _ _ _ _ _
 refine awp_block ?_
 refine awp_loopH [2, 5, 12, 13, 14, 15, 16, 17, 18, 19, 20, 21, 22, 23] [] (α := Nat) (fun j => [(12, T.i (j : Int))]) (fun j => []) (fun j => j ≤ 2 ∧ ∀ i, i < j → whD (pN z i) = true) (fun j => 2 - j) 0 ⟨by decide, fun i h => absurd h (by omega)⟩ ?_ ?_
 · exact le_head (ms := []) (by repeat (exact Out.refl _)) ⟨(by rfl), trivial⟩ trivial rfl rfl rfl rfl
 ·
  intro j ⟨hj, hall⟩
  refine awp_seq ?_
  refine awp_region 1 mixed (by kernel_rfl) ?_
  refine rg_q (q_lss rfl rfl) ?_
  refine rn ?_
  change Awp _ _ _ _ _
  refine awp_seq ?_
  refine awp_cond rfl (fun hc3 => ?_) (fun hc3 => ?_)
  ·
   (try simp only [nb, ne_eq] at hc3)
   have hj2 : j < 2 := by omega
   have hwi := wh_is (pN z j)
   refine awp_skip ?_
   change Awp _ _ _ _ _
   refine awp_seq ?_
   refine awp_block ?_
   refine awp_seq ?_
   refine awp_region 2 mixed (by kernel_rfl) ?_
   refine rg_q (q_index_ar ar285 sz167 rfl rfl (by omega) (by omega) (pN_at hj2)) ?_
   refine rg_q (q_a rfl) ?_
   refine rs (awp_region 8 mixed (by kernel_rfl) ?_)
   refine rg_q (q_m rfl) ?_
   refine rg_q (q_call en191 (.cons rfl .nil) rfl (trunc_p (pN z j))) ?_
   refine rg_q (q_m rfl) ?_
   refine rg_q (q_neqTr rfl rfl) ?_
   refine rg_q (q_m rfl) ?_
   refine rg_g rfl rfl (fun hG => (q_m rfl)) ?_
   refine rg_g rfl rfl (fun hG => (q_call en192 (.cons rfl (.cons rfl .nil)) rfl (isInf_p (pN z j)))) ?_
   refine rg_pick rfl rfl rfl rfl rfl rfl ?_
   refine rn ?_
   change Awp _ _ _ _ _
   refine awp_cond rfl (fun hc5 => ?_) (fun hc5 => ?_)
   ·
    (try simp only [nb, ne_eq] at hc5)
    have hz : peI z = 25 := peI_bad hj2 (by rw [hwi]; rcases hc5 with q | q <;> simp [q])
    refine awp_seq ?_
    refine awp_region 1 mixed (by kernel_rfl) ?_
    refine rg_q (q_a rfl) ?_
    refine rn ?_
    change Awp _ _ _ _ _
    refine awp_ret ?_
    refine ⟨_, (.cons (.tmp (by exact .d _)) .nil), ?_⟩
    rw [hz]; (try simp only [bif_or]); rfl
   ·
    (try simp only [nb, ne_eq] at hc5)
    have hwt : whD (pN z j) = true := by rw [hwi, hc5.1, hc5.2]; rfl
    refine awp_skip ?_
    change Awp _ _ _ _ _
    refine awp_region 2 mixed (by kernel_rfl) ?_
    refine rg_q (q_add rfl rfl (In64.mk (by omega) (by omega))) ?_
    refine rg_q (q_m rfl) ?_
    refine rn ?_
    refine ⟨j + 1, ⟨by omega, fun i hi => by
    by_cases q : i = j
    · subst q; exact hwt
    · exact hall i (by omega)⟩, by omega, ?_⟩
    exact le_head (ms := []) (by repeat (first | exact Out.head rfl rfl | (refine Out.put ?_ rfl))) ⟨(by rfl), trivial⟩ trivial rfl rfl rfl rfl
  ·
   (try simp only [nb, ne_eq] at hc3)
   have hj2 : j = 2 := by omega
   have h0 := hall 0 (by omega)
   have h1 := hall 1 (by omega)
   have hz : peI z = whenI (bgB z.1 || bgB z.2) 2 := by unfold peI; rw [if_pos (by rw [show whD z.1 = true from h0, show whD z.2 = true from h1]; rfl)]
   refine awp_exit ?_
   change Awp _ _ _ _ _
   refine awp_seq ?_
   refine awp_region 12 mixed (by kernel_rfl) ?_
   refine rg_q (q_indexAddr_ar ar285 rfl rfl (by omega) (by omega)) ?_
   refine rg_q (q_load sz167 rfl rfl) ?_
   refine rg_q (q_call en193 (.cons rfl .nil) rfl (abs_p _)) ?_
   refine rg_q (q_fcmp (by decide) rfl rfl rfl) ?_
   refine rg_q (q_m rfl) ?_
   refine rg_g rfl rfl (fun hG => (q_indexAddr_ar ar285 rfl rfl (by (have hg0 := T.bool_inj (a := _) hG.1; (try simp only [nb, ne_eq] at hg0); omega)) (by (have hg0 := T.bool_inj (a := _) hG.1; (try simp only [nb, ne_eq] at hg0); omega)))) ?_
   refine rg_g rfl rfl (fun hG => (q_load sz167 rfl rfl)) ?_
   refine rg_g rfl rfl (fun hG => (q_call en193 (.cons rfl .nil) rfl (abs_p _))) ?_
   refine rg_g rfl rfl (fun hG => (q_fcmp (by decide) rfl rfl rfl)) ?_
   refine rg_pick rfl rfl rfl rfl rfl rfl ?_
   refine rg_q (q_call en88 (.cons rfl (.cons rfl .nil)) rfl (fwhen_p _ _)) ?_
   refine rg_q (q_a rfl) ?_
   refine rn ?_
   change Awp _ _ _ _ _
   refine awp_ret ?_
   refine ⟨_, (.cons (.tmp (by exact .d _)) .nil), ?_⟩
   rw [hz]; (try simp only [bif_or]); rfl

theorem pe_ok {z : Nat × Nat} (h : peI z = 0) : (whD z.1 = true ∧ whD z.2 = true) ∧ bgB z.1 = false ∧ bgB z.2 = false := by
  unfold peI at h
  by_cases h1 : (whD z.1 && whD z.2) = true
  · rw [if_pos h1, when_zero (by decide), Bool.or_eq_false_iff] at h
    rw [Bool.and_eq_true] at h1
    exact ⟨h1, h⟩
  · rw [if_neg h1] at h; cases h
def vZ (z : Nat × Nat) : Int × Int := (vD z.1, vD z.2)
set_option maxRecDepth 100000 in
theorem sumOf_p (z : Nat × Nat) (hz0 : peI z = 0) : PC Tryz.prog 128 [cvD z] (.agg (shC (vZ z))) := by
 obtain ⟨⟨w1, w2⟩, b1, b2⟩ := pe_ok hz0
 obtain ⟨⟨v1, v2⟩, v3⟩ := vD_in w1 b1
 obtain ⟨⟨v4, v5⟩, v6⟩ := vD_in w2 b2
 refine pc_of_awp Tryz.func128 rfl Tryz.ntmps128 (rs := [.cell 2 160]) Tryz.results128 (by simp) fun w0 => ?_
 refine awp_seq ?_
 refine awp_region 0 mixed (by kernel_rfl) ?_
 refine rg_nil ?_
 refine aops_alloc zr160 rfl rfl rfl ?_
 refine aops_nil ?_
 change Awp _ _ _ _ _
 refine awp_seq ?_
 refine awp_region 7 mixed (by kernel_rfl) ?_
 refine rg_q (q_m rfl) ?_
 refine rg_q (q_real rfl) ?_
 refine rg_q (q_convfi flt167 int3 rfl v3) ?_
 refine rg_q (q_m rfl) ?_
 refine rg_q (q_imag rfl) ?_
 refine rg_q (q_convfi flt167 int3 rfl v6) ?_
 refine rg_q (q_build (cs := [_, _]) pl160 zr160 rfl (.cons rfl (by exact .inl rfl) (.cons rfl (by exact .inl rfl) .nil)) ⟨⟨rfl, by decide⟩, ⟨rfl, by decide⟩, trivial⟩ rfl) ?_
 refine rg_nil ?_
 refine aops_store sz160 rfl rfl (by exact .inr ⟨_, rfl⟩) rfl rfl (by decide) rfl ?_
 refine aops_nil ?_
 change Awp _ _ _ _ _
 refine awp_ret ?_
 refine ⟨_, (.cons (.cellA rfl rfl sz160 rfl) .nil), ?_⟩
 rfl
end Go.Proofs.YtphlaicnmmglhaaGreat.Am.M
-- mini
namespace Go.Proofs.YtphlaicnmmglhaaGreat.Am.M
open Go

def imC (x : List (Nat × Nat)) : List D := [.sl 1 (x.map cvC)]
def hdN (l : List (List (Nat × Nat))) : Nat := (l.getD 0 []).length
theorem hd_at {l : List (List (Nat × Nat))} (h : 0 < l.length) : l[0]? = some (l.getD 0 []) := by
  rw [List.getD_eq_getElem?_getD, List.getElem?_eq_getElem h]; rfl
def neqB (l : List (List (Nat × Nat))) (x : List (Nat × Nat)) : Bool := decide (x.length ≠ hdN l)
def atZ (x : List (Nat × Nat)) (k : Nat) : Nat × Nat := x.getD k (0, 0)
theorem atZ_at {x : List (Nat × Nat)} {k : Nat} (h : k < x.length) : x[k]? = some (atZ x k) := by
  unfold atZ
  rw [List.getD_eq_getElem?_getD, List.getElem?_eq_getElem h]; rfl
def colZ (l : List (List (Nat × Nat))) (k : Nat) : List (Nat × Nat) := l.map fun x => atZ x k
theorem colZ_len (l : List (List (Nat × Nat))) (k : Nat) : (colZ l k).length = l.length := List.length_map _
theorem colZ_at {l : List (List (Nat × Nat))} {i : Nat} {x : List (Nat × Nat)} (k : Nat) (h : l[i]? = some x) : (colZ l k)[i]? = some (atZ x k) := by unfold colZ; rw [List.getElem?_map, h]; rfl
def peS : List (Nat × Nat) → Int
  | [] => 0
  | z :: r => if peI z ≠ 0 then peI z else peS r
theorem peS_at {c : List (Nat × Nat)} {i : Nat} {z : Nat × Nat} (h : c[i]? = some z) : peS (c.drop i) = if peI z ≠ 0 then peI z else peS (c.drop (i + 1)) := by
  obtain ⟨hlt, rfl⟩ := List.getElem?_eq_some_iff.1 h
  rw [List.drop_eq_getElem_cons hlt]; rfl
def smF (s : Int × Int) (z : Nat × Nat) : Int × Int := (s.1 + (vZ z).1, s.2 + (vZ z).2)
def smS (c : List (Nat × Nat)) : Int × Int := c.foldl smF (0, 0)
theorem smS_snoc {c : List (Nat × Nat)} {i : Nat} {z : Nat × Nat} (h : c[i]? = some z) : smS (c.take (i + 1)) = smF (smS (c.take i)) z := by
  unfold smS
  rw [takeSnoc h, List.foldl_append]; rfl
theorem vZ_in {z : Nat × Nat} (h : peI z = 0) : (-10000000 ≤ (vZ z).1 ∧ (vZ z).1 ≤ 10000000) ∧ -10000000 ≤ (vZ z).2 ∧ (vZ z).2 ≤ 10000000 := by
  obtain ⟨⟨w1, w2⟩, b1, b2⟩ := pe_ok h
  exact ⟨(vD_in w1 b1).1, (vD_in w2 b2).1⟩
theorem smS_in {c : List (Nat × Nat)} : ∀ i : Nat, i ≤ c.length → (∀ z ∈ c.take i, peI z = 0) → (-(10000000 * (i : Int)) ≤ (smS (c.take i)).1 ∧ (smS (c.take i)).1 ≤ 10000000 * (i : Int)) ∧ -(10000000 * (i : Int)) ≤ (smS (c.take i)).2 ∧ (smS (c.take i)).2 ≤ 10000000 * (i : Int)
  | 0, _, _ => by
    have e : smS (c.take 0) = (0, 0) := rfl
    rw [e]
    decide
  | i + 1, hi, h => by
    have hz : c[i]? = some c[i] := List.getElem?_eq_getElem (by omega)
    have h1 := smS_in (c := c) i (by omega) (fun z q => h z (by rw [takeSnoc hz]; exact List.mem_append_left _ q))
    have h2 := vZ_in (h c[i] (by rw [takeSnoc hz]; exact List.mem_append_right _ (List.mem_singleton.2 rfl)))
    rw [smS_snoc hz]
    unfold smF
    simp only
    omega
def mgS (l : List (List (Nat × Nat))) : Nat → Nat → Int
  | _, 0 => 0
  | k, m + 1 => if peS (colZ l k) ≠ 0 then peS (colZ l k) else mgS l (k + 1) m
theorem mgS_at {l : List (List (Nat × Nat))} {k n : Nat} (h : k < n) : mgS l k (n - k) = if peS (colZ l k) ≠ 0 then peS (colZ l k) else mgS l (k + 1) (n - (k + 1)) := by
  obtain ⟨m, hm⟩ : ∃ m, n - k = m + 1 := ⟨n - k - 1, by omega⟩
  rw [hm, show n - (k + 1) = m by omega]; rfl
def smL (l : List (List (Nat × Nat))) (n : Nat) : List (Int × Int) := (List.range n).map fun k => smS (colZ l k)
theorem smL_len (l : List (List (Nat × Nat))) (n : Nat) : (smL l n).length = n := by unfold smL; rw [List.length_map, List.length_range]
def mgR (l : List (List (Nat × Nat))) : List (Nat × Nat) × Int :=
  if (decide (l.length = 0) || l.any (neqB l)) = true then ([], 10)
  else if 16 < l.length ∨ 1600 < hdN l then ([], 8)
  else if mgS l 0 (hdN l) ≠ 0 then ([], mgS l 0 (hdN l))
  else ((smL l (hdN l)).map czP, 0)
def esR (l : List (List (Nat × Nat))) (n k i : Nat) : List (List D) := (List.range n).map fun j => shC (if j < k then smS (colZ l j) else if j = k then smS ((colZ l k).take i) else (0, 0))
theorem esR_len (l : List (List (Nat × Nat))) (n k i : Nat) : (esR l n k i).length = n := by unfold esR; rw [List.length_map, List.length_range]
theorem esR_at {l : List (List (Nat × Nat))} {n k i : Nat} (h : k < n) : (esR l n k i)[k]? = some (shC (smS ((colZ l k).take i))) := by
  unfold esR
  rw [List.getElem?_map, List.getElem?_range h]
  show some (shC _) = _
  rw [if_neg (by omega), if_pos rfl]
theorem esR_set {l : List (List (Nat × Nat))} {n k i : Nat} (h : k < n) {p : Int × Int} (hp : smS ((colZ l k).take (i + 1)) = p) : (esR l n k i).set k (setCs (shC (smS ((colZ l k).take i))) 0 [.v (.int .i64 p.1), .v (.int .i64 p.2)]) = esR l n k (i + 1) := by
  have e : setCs (shC (smS ((colZ l k).take i))) 0 [.v (.int .i64 p.1), .v (.int .i64 p.2)] = shC p := rfl
  rw [e]
  apply List.ext_getElem?
  intro j
  rw [List.getElem?_set]
  by_cases hj : k = j
  · subst hj
    rw [if_pos rfl, if_pos (by rw [esR_len]; exact h), esR_at h, hp]
  · rw [if_neg hj]
    unfold esR
    rw [List.getElem?_map, List.getElem?_map]
    by_cases hjn : j < n
    · rw [List.getElem?_range hjn]
      show some (shC _) = some (shC _)
      rw [if_neg (c := j = k) (fun q => hj q.symm), if_neg (c := j = k) (fun q => hj q.symm)]
    · rw [List.getElem?_eq_none (by rw [List.length_range]; omega)]; rfl
theorem esR_next {l : List (List (Nat × Nat))} {n k : Nat} : esR l n k l.length = esR l n (k + 1) 0 := by
  unfold esR
  refine List.map_congr_left fun j _ => ?_
  congr 1
  by_cases h1 : j < k
  · rw [if_pos h1, if_pos (by omega)]
  · rw [if_neg h1]
    by_cases h2 : j = k
    · subst h2
      rw [if_pos rfl, if_pos (by omega), List.take_of_length_le (by rw [colZ_len]; exact Nat.le_refl _)]
    · rw [if_neg h2, if_neg (by omega)]
      split <;> rfl
theorem esR_zero (l : List (List (Nat × Nat))) (n : Nat) : esR l n 0 0 = List.replicate n (shC (0, 0)) := by
  rw [List.eq_replicate_iff]
  refine ⟨esR_len _ _ _ _, fun b hb => ?_⟩
  unfold esR at hb
  obtain ⟨j, _, rfl⟩ := List.mem_map.1 hb
  rw [if_neg (by omega)]
  split <;> rfl
theorem esR_all (l : List (List (Nat × Nat))) (n : Nat) : esR l n n 0 = (smL l n).map shC := by
  unfold esR smL
  rw [List.map_map]
  refine List.map_congr_left fun j hj => ?_
  have := List.mem_range.1 hj
  rw [if_pos this]; rfl
set_option maxRecDepth 100000 in
theorem merged1_p (l : List (List (Nat × Nat))) (x : List (Nat × Nat)) (hl : 0 < l.length) : PC Tryz.prog 131 [.sl 1 (x.map cvC), .pt [.sl 1 (l.map imC)] 0] (.v (.bool (neqB l x))) := by
 have hx0 := hd_at hl
 refine pc_of_awpN Tryz.func131 rfl Tryz.ntmps131 (rs := [.tmp 3]) Tryz.results131 (by simp) fun w0 hmine hrnd hpn => ?_
 refine awp_seq ?_
 refine awp_region 1 mixed (by kernel_rfl) ?_
 refine rg_q (q_a rfl) ?_
 refine rs (awp_region 8 mixed (by kernel_rfl) ?_)
 refine rg_q (q_move (x := .d (.sl _ _)) rfl) ?_
 refine rg_q (q_len isl72 rfl (by exact len_map _ _)) ?_
 refine rg_q (q_load sz105 rfl rfl) ?_
 refine rg_q (q_indexAddr sl105 rfl rfl (by omega) (map_at (k := 0) (by omega) hx0)) ?_
 refine rg_q (q_load sz72 rfl rfl) ?_
 refine rg_q (q_len isl72 rfl (by exact len_map _ _)) ?_
 refine rg_q (q_neq rfl rfl) (rg_q (q_a rfl) ?_)
 refine rn ?_
 change Awp _ _ _ _ _
 refine awp_len (t := 4) rfl (fun hl4 => ?_)
 (try simp only [List.length_map] at hl4)
 refine awp_len (t := 8) rfl (fun hl8 => ?_)
 (try simp only [List.length_map] at hl8)
 refine awp_ret ?_
 refine ⟨_, (.cons (.tmp (by exact .d _)) .nil), ?_⟩
 show D.v (.bool (neqB l x)) = _
 unfold neqB hdN
 congr 2
 exact decide_eq_decide.2 (by omega)
set_option maxRecDepth 100000 in
theorem indexIm_p (f : List (Nat × Nat) → Bool) (g : FuncId) (cap : List D) (hen : enB Tryz.prog g = true) (l : List (List (Nat × Nat))) (hf : ∀ a ∈ l, PC Tryz.prog g (.sl 1 (a.map cvC) :: cap) (.v (.bool (f a)))) : PC Tryz.prog 195 [.sl 1 (l.map imC), .fn (.func g) cap] (.v (.int .i64 (idxOf f 0 l))) := by
 refine pc_of_awp Tryz.func195 rfl Tryz.ntmps195 (rs := [.tmp 4]) Tryz.results195 (by simp) fun w0 => ?_
 refine awp_seq ?_
 refine awp_region 1 mixed (by kernel_rfl) ?_
 refine rg_q (q_a rfl) ?_
 refine rn ?_
 change Awp _ _ _ _ _
 refine awp_seq ?_
 refine awp_seq ?_
 refine awp_region 3 mixed (by kernel_rfl) ?_
 refine rg_q (q_move (x := .d (.sl _ _)) rfl) ?_
 refine rg_q (q_len isl105 rfl (by exact len_map _ _)) ?_
 refine rg_q (q_m rfl) ?_
 refine rn ?_
 change Awp _ _ _ _ _
 refine awp_len (t := 6) rfl (fun hl6 => ?_)
 (try simp only [List.length_map] at hl6)
 refine awp_block ?_
 refine awp_loopH [4, 5, 8, 9, 10, 11, 12, 13, 14, 15, 16, 17, 18] [] (α := Nat) (fun k => [(8, T.i (k : Int))]) (fun k => []) (fun k => k ≤ l.length ∧ idxOf f 0 l = idxOf f k (l.drop k)) (fun k => l.length - k) 0 ⟨Nat.zero_le _, rfl⟩ ?_ ?_
 · exact le_head (ms := []) (by repeat (exact Out.refl _)) ⟨(by rfl), trivial⟩ trivial rfl rfl rfl rfl
 ·
  intro k ⟨hk, hh⟩
  refine awp_seq ?_
  refine awp_region 1 mixed (by kernel_rfl) ?_
  refine rg_q (q_lss rfl rfl) ?_
  refine rn ?_
  change Awp _ _ _ _ _
  refine awp_seq ?_
  refine awp_cond rfl (fun hc2 => ?_) (fun hc2 => ?_)
  ·
   (try simp only [nb, ne_eq] at hc2)
   have hlt : k < l.length := by omega
   have hx := List.getElem?_eq_getElem hlt
   have hd : idxOf f k (l.drop k) = if f l[k] = true then (k : Int) else idxOf f (k + 1) (l.drop (k + 1)) := by rw [List.drop_eq_getElem_cons hlt]; rfl
   have hfx := hf l[k] (List.getElem_mem hlt)
   generalize l[k] = x at *
   refine awp_skip ?_
   change Awp _ _ _ _ _
   refine awp_seq ?_
   refine awp_block ?_
   refine awp_seq ?_
   refine awp_region 2 mixed (by kernel_rfl) ?_
   refine rg_q (q_m rfl) (rg_q (q_a rfl) ?_)
   refine rs (awp_region 6 mixed (by kernel_rfl) ?_)
   refine rg_q (q_move (x := .d (.fn _ _)) rfl) (rg_q (q_move (x := .d (.sl _ _)) rfl) (rg_q (q_m rfl) ?_))
   refine rg_q (q_indexAddr sl105 rfl rfl (by omega) (map_at (by omega) hx)) ?_
   refine rg_q (q_load sz72 rfl rfl) ?_
   refine rg_q (q_callC hen rfl (.cons rfl .nil) (hfx)) ?_
   refine rn ?_
   change Awp _ _ _ _ _
   refine awp_cond rfl (fun hc4 => ?_) (fun hc4 => ?_)
   ·
    (try simp only [nb, ne_eq] at hc4)
    refine awp_seq ?_
    refine awp_region 2 mixed (by kernel_rfl) ?_
    refine rg_q (q_m rfl) (rg_q (q_a rfl) ?_)
    refine rn ?_
    change Awp _ _ _ _ _
    refine awp_ret ?_
    refine ⟨_, (.cons (.tmp (by exact .d _)) .nil), ?_⟩
    rw [hh, hd, if_pos (by simpa using hc4)]; rfl
   ·
    (try simp only [nb, ne_eq] at hc4)
    refine awp_skip ?_
    change Awp _ _ _ _ _
    refine awp_region 2 mixed (by kernel_rfl) ?_
    refine rg_q (q_add rfl rfl (In64.mk (by omega) (by omega))) ?_
    refine rg_q (q_m rfl) ?_
    refine rn ?_
    refine ⟨k + 1, ⟨by omega, by rw [hh, hd, if_neg (by simpa using hc4)]⟩, by omega, ?_⟩
    exact le_head (ms := []) (by repeat (first | exact Out.head rfl rfl | (refine Out.put ?_ rfl))) ⟨(by rfl), trivial⟩ trivial rfl rfl rfl rfl
  ·
   (try simp only [nb, ne_eq] at hc2)
   refine awp_exit ?_
   change Awp _ _ _ _ _
   refine awp_seq ?_
   refine awp_region 1 mixed (by kernel_rfl) ?_
   refine rg_q (q_a rfl) ?_
   refine rn ?_
   change Awp _ _ _ _ _
   refine awp_ret ?_
   refine ⟨_, (.cons (.tmp (by exact .d _)) .nil), ?_⟩
   rw [hh, List.drop_of_length_le (by omega)]; rfl
set_option maxRecDepth 100000 in
theorem containsIm_p (f : List (Nat × Nat) → Bool) (g : FuncId) (cap : List D) (hen : enB Tryz.prog g = true) (l : List (List (Nat × Nat))) (hf : ∀ a ∈ l, PC Tryz.prog g (.sl 1 (a.map cvC) :: cap) (.v (.bool (f a)))) : PC Tryz.prog 130 [.sl 1 (l.map imC), .fn (.func g) cap] (.v (.bool (l.any f))) := by
 have hm := idxOf_mem f l
 refine pc_of_awp Tryz.func130 rfl Tryz.ntmps130 (rs := [.tmp 4]) Tryz.results130 (by simp) fun w0 => ?_
 refine awp_seq ?_
 refine awp_region 1 mixed (by kernel_rfl) ?_
 refine rg_q (q_a rfl) ?_
 refine rs (awp_region 5 mixed (by kernel_rfl) ?_)
 refine rg_q (q_move (x := .d (.sl _ _)) rfl) (rg_q (q_move (x := .d (.fn _ _)) rfl) ?_)
 refine rg_q (q_call en195 (.cons rfl (.cons rfl .nil)) rfl (indexIm_p f g cap hen l hf)) ?_
 refine rg_q (q_geq rfl rfl) (rg_q (q_a rfl) ?_)
 refine rn ?_
 change Awp _ _ _ _ _
 refine awp_ret ?_
 refine ⟨_, (.cons (.tmp (by exact .d _)) .nil), ?_⟩
 rw [← hm]; rfl
set_option maxHeartbeats 4000000 in
set_option maxRecDepth 100000 in
theorem mergedI_p (l : List (List (Nat × Nat))) : PC Tryz.prog 60 [.sl 1 (l.map imC)] (.tup [.sl 1 ((mgR l).1.map cvC), .v (.int .i64 ((mgR l).2))]) := by
 have hu : mgR l = if (decide (l.length = 0) || l.any (neqB l)) = true then ([], 10)
  else if 16 < l.length ∨ 1600 < hdN l then ([], 8)
  else if mgS l 0 (hdN l) ≠ 0 then ([], mgS l 0 (hdN l))
  else ((smL l (hdN l)).map czP, 0) := rfl
 refine pc_of_awpN Tryz.func60 rfl Tryz.ntmps60 (rs := [.tmp 2, .tmp 3]) Tryz.results60 (by simp) fun w0 hmine hrnd hpn => ?_
 refine awp_seq ?_
 refine awp_region 3 mixed (by kernel_rfl) ?_
 refine rg_q (q_box rfl (by exact .inl rfl)) ?_
 refine rg_q (q_assign (x := .d (.sl _ _)) rfl) (rg_q (q_a rfl) ?_)
 refine rn ?_
 change Awp _ _ _ _ _
 refine awp_seq ?_
 refine awp_seq ?_
 refine awp_region 8 mixed (by kernel_rfl) ?_
 refine rg_q (q_load sz105 rfl rfl) ?_
 refine rg_q (q_len isl105 rfl (by exact len_map _ _)) ?_
 refine rg_q (q_eql rfl rfl) (rg_q (q_m rfl) ?_)
 refine rg_g rfl rfl (fun hG => (q_load sz105 rfl rfl)) ?_
 refine rg_g rfl rfl (fun hG => (q_makeFunc (.cons rfl .nil))) ?_
 refine rg_g rfl rfl (fun hG => (q_call en130 (.cons rfl (.cons rfl .nil)) rfl (containsIm_p (neqB l) 131 [.pt [.sl 1 (l.map imC)] 0] en131 l (fun x _ => merged1_p l x (by have q := of_decide_eq_false (T.bool_inj (a := _) hG.1); omega))))) ?_
 refine rg_pick rfl rfl rfl rfl rfl rfl ?_
 refine rn ?_
 change Awp _ _ _ _ _
 refine awp_len (t := 9) rfl (fun hl9 => ?_)
 (try simp only [List.length_map] at hl9)
 refine awp_cond rfl (fun hc1 => ?_) (fun hc1 => ?_)
 ·
  (try simp only [nb, ne_eq] at hc1)
  have hq : (decide (l.length = 0) || l.any (neqB l)) = true := by
   rcases hc1 with q | q
   · rw [decide_eq_true (show l.length = 0 by omega)]; rfl
   · rw [q, Bool.or_true]
  rw [if_pos hq] at hu
  refine awp_seq ?_
  refine awp_region 2 mixed (by kernel_rfl) ?_
  refine rg_q (q_assign (x := .d (.sl _ _)) rfl) (rg_q (q_a rfl) ?_)
  refine rn ?_
  change Awp _ _ _ _ _
  refine awp_ret ?_
  refine ⟨_, (.cons (.tmp (by exact .d _)) (.cons (.tmp (by exact .d _)) .nil)), ?_⟩
  rw [hu]; rfl
 ·
  (try simp only [nb, ne_eq] at hc1)
  obtain ⟨hln, hany⟩ := hc1
  have hl0 : 0 < l.length := by omega
  have hx0 := hd_at hl0
  have hx0l : (l.getD 0 []).length = hdN l := rfl
  have hqn : ¬ (decide (l.length = 0) || l.any (neqB l)) = true := by rw [hany, decide_eq_false (show ¬ l.length = 0 by omega)]; decide
  rw [if_neg hqn] at hu
  have hlen : ∀ x ∈ l, x.length = hdN l := fun x hx => by
   have := List.any_eq_false.1 hany x hx
   unfold neqB at this
   simpa using this
  refine awp_skip ?_
  change Awp _ _ _ _ _
  refine awp_seq ?_
  refine awp_seq ?_
  refine awp_region 10 mixed (by kernel_rfl) ?_
  refine rg_q (q_load sz105 rfl rfl) ?_
  refine rg_q (q_len isl105 rfl (by exact len_map _ _)) ?_
  refine rg_q (q_gtr rfl rfl) (rg_q (q_m rfl) ?_)
  refine rg_g rfl rfl (fun hG => (q_load sz105 rfl rfl)) ?_
  refine rg_g rfl rfl (fun hG => (q_indexAddr sl105 rfl rfl (by (have hg0 := T.bool_inj (a := _) hG.1; (try simp only [nb, ne_eq] at hg0); omega)) (map_at (k := 0) (by omega) hx0))) ?_
  refine rg_g rfl rfl (fun hG => (q_load sz72 rfl rfl)) ?_
  refine rg_g rfl rfl (fun hG => (q_len isl72 rfl (by exact len_map _ _))) ?_
  refine rg_g rfl rfl (fun hG => (q_gtr rfl rfl)) ?_
  refine rg_pick rfl rfl rfl rfl rfl rfl ?_
  refine rn ?_
  change Awp _ _ _ _ _
  refine awp_len (t := 17) rfl (fun hl17 => ?_)
  (try simp only [List.length_map] at hl17)
  refine awp_cond rfl (fun hc3 => ?_) (fun hc3 => ?_)
  ·
   (try simp only [nb, ne_eq] at hc3)
   rw [if_pos (show 16 < l.length ∨ 1600 < hdN l by omega)] at hu
   refine awp_seq ?_
   refine awp_region 2 mixed (by kernel_rfl) ?_
   refine rg_q (q_assign (x := .d (.sl _ _)) rfl) (rg_q (q_a rfl) ?_)
   refine rn ?_
   change Awp _ _ _ _ _
   refine awp_ret ?_
   refine ⟨_, (.cons (.tmp (by exact .d _)) (.cons (.tmp (by exact .d _)) .nil)), ?_⟩
   rw [hu]; rfl
  ·
   (try simp only [nb, ne_eq] at hc3)
   have hl16 : l.length ≤ 16 := by omega
   have hn16 : hdN l ≤ 1600 := by omega
   rw [if_neg (by omega)] at hu
   refine awp_skip ?_
   change Awp _ _ _ _ _
   refine awp_seq ?_
   refine awp_region 4 mixed (by kernel_rfl) ?_
   refine rg_q (q_load sz105 rfl rfl) ?_
   refine rg_q (q_indexAddr sl105 rfl rfl (by omega) (map_at (k := 0) (by omega) hx0)) ?_
   refine rg_q (q_load sz72 rfl rfl) ?_
   refine rg_q (q_len isl72 rfl (by exact len_map _ _)) ?_
   refine rg_nil ?_
   refine aops_make (m := hdN l) sl189 zr160 by160 rfl rfl rfl rfl (by (try simp only [List.length_map]); omega) (by (try simp only [List.length_map]); omega) rfl rfl ?_
   refine aops_q rfl (q_assign (x := .rs _) rfl) ?_
   refine aops_nil ?_
   change Awp _ _ _ _ _
   refine awp_len (t := 29) rfl (fun hl29 => ?_)
   (try simp only [List.length_map] at hl29)
   refine awp_seq ?_
   refine awp_seq ?_
   refine awp_region 3 mixed (by kernel_rfl) ?_
   refine rg_q (q_move (x := .rs _) rfl) ?_
   refine rg_q (q_len_rs isl189 rfl rfl) ?_
   refine rg_q (q_m rfl) ?_
   refine rn ?_
   change Awp _ _ _ _ _
   skip
   (try simp only [List.length_map] at hl32)
   refine awp_block ?_
   refine awp_loopH [2, 3, 5, 7, 8, 34, 35, 36, 37, 38, 39, 40, 41, 42, 43, 44, 45, 46, 47, 48, 49, 50, 51, 52, 53, 54, 55, 56, 57, 58, 59, 60, 61, 62, 63, 64, 65] [31] (α := Nat) (fun k => [(34, T.i (k : Int))]) (fun k => [(31, .row 160 2 (esR l (hdN l) k 0))]) (fun k => k ≤ hdN l ∧ mgS l 0 (hdN l) = mgS l k (hdN l - k)) (fun k => hdN l - k) 0 ⟨Nat.zero_le _, rfl⟩ ?_ ?_
   · exact le_head (ms := [31]) (by repeat (exact Out.refl _)) ⟨(by rfl), trivial⟩ ⟨(by (show Site.row _ _ _ = Site.row _ _ _; (rw [esR_zero]; rfl))), trivial⟩ rfl rfl rfl rfl
   ·
    intro k ⟨hk, hf⟩
    refine awp_seq ?_
    refine awp_region 1 mixed (by kernel_rfl) ?_
    refine rg_q (q_lss rfl rfl) ?_
    refine rn ?_
    change Awp _ _ _ _ _
    refine awp_seq ?_
    refine awp_cond rfl (fun hc7 => ?_) (fun hc7 => ?_)
    ·
     (try simp only [nb, ne_eq] at hc7)
     (try simp only [List.length_replicate] at hc7)
     have hlt : k < hdN l := by omega
     have hms := mgS_at (l := l) hlt
     rw [hms] at hf
     have hcl := colZ_len l k
     refine awp_skip ?_
     change Awp _ _ _ _ _
     refine awp_seq ?_
     refine awp_block ?_
     refine awp_seq ?_
     refine awp_region 2 mixed (by kernel_rfl) ?_
     refine rg_q (q_m rfl) (rg_q (q_a rfl) ?_)
     refine rs (awp_region 3 mixed (by kernel_rfl) ?_)
     refine rg_q (q_load sz105 rfl rfl) ?_
     refine rg_q (q_len isl105 rfl (by exact len_map _ _)) ?_
     refine rg_q (q_m rfl) ?_
     refine rn ?_
     change Awp _ _ _ _ _
     refine awp_len (t := 37) rfl (fun hl37 => ?_)
     (try simp only [List.length_map] at hl37)
     refine awp_block ?_
     refine awp_loopH [2, 3, 7, 8, 39, 40, 41, 42, 43, 44, 45, 46, 47, 48, 49, 50, 51, 52, 53, 54, 55, 56, 57, 58, 59, 60, 61, 62, 63, 64] [31] (α := Nat) (fun i => [(39, T.i (i : Int))]) (fun i => [(31, .row 160 2 (esR l (hdN l) k i))]) (fun i => i ≤ l.length ∧ peS (colZ l k) = peS ((colZ l k).drop i) ∧ ∀ z ∈ (colZ l k).take i, peI z = 0) (fun i => l.length - i) 0 ⟨Nat.zero_le _, rfl, fun z q => by simp at q⟩ ?_ ?_
     · exact le_head (ms := [31]) (by repeat (exact Out.refl _)) ⟨(by rfl), trivial⟩ ⟨(by rfl), trivial⟩ rfl rfl rfl rfl
     ·
      intro i ⟨hi, hg, hok⟩
      refine awp_seq ?_
      refine awp_region 1 mixed (by kernel_rfl) ?_
      refine rg_q (q_lss rfl rfl) ?_
      refine rn ?_
      change Awp _ _ _ _ _
      refine awp_seq ?_
      refine awp_cond rfl (fun hc10 => ?_) (fun hc10 => ?_)
      ·
       (try simp only [nb, ne_eq] at hc10)
       have hil : i < l.length := by omega
       obtain ⟨x, hx⟩ : ∃ x, l[i]? = some x := ⟨_, List.getElem?_eq_getElem hil⟩
       have hxl := hlen x (List.mem_of_getElem? hx)
       have hzk := atZ_at (x := x) (k := k) (by omega)
       have hcz := colZ_at k hx
       have hps := peS_at hcz
       rw [hps] at hg
       have hsi := smS_in (c := colZ l k) i (by omega) hok
       have hsn := smS_snoc hcz
       refine awp_skip ?_
       change Awp _ _ _ _ _
       refine awp_seq ?_
       refine awp_block ?_
       refine awp_seq ?_
       refine awp_region 3 mixed (by kernel_rfl) ?_
       refine rg_q (q_indexAddr sl105 rfl rfl (by omega) (map_at (by omega) hx)) ?_
       refine rg_q (q_load sz72 rfl rfl) (rg_q (q_assign (x := .d (.sl _ _)) rfl) ?_)
       refine rn ?_
       change Awp _ _ _ _ _
       refine awp_seq ?_
       refine awp_seq ?_
       refine awp_region 6 mixed (by kernel_rfl) ?_
       refine rg_q (q_move (x := .d (.sl _ _)) rfl) (rg_q (q_m rfl) ?_)
       refine rg_q (q_indexAddr sl72 rfl rfl (by omega) (map_at (k := k) (by omega) hzk)) ?_
       refine rg_q (q_load sz46 rfl rfl) ?_
       refine rg_q (q_call en127 (.cons rfl .nil) rfl (partErr_p (atZ x k))) ?_
       refine rg_q (q_a rfl) ?_
       refine rs (awp_region 2 mixed (by kernel_rfl) ?_)
       refine rg_q (q_m rfl) (rg_q (q_neq rfl rfl) ?_)
       refine rn ?_
       change Awp _ _ _ _ _
       refine awp_cond rfl (fun hc13 => ?_) (fun hc13 => ?_)
       ·
        (try simp only [nb, ne_eq] at hc13)
        have he : peS (colZ l k) = peI (atZ x k) := by rw [hg, if_pos hc13]
        have hz : mgR l = ([], peI (atZ x k)) := by rw [hu, hf, he, if_pos hc13, if_pos hc13]
        refine awp_seq ?_
        refine awp_region 3 mixed (by kernel_rfl) ?_
        refine rg_q (q_m rfl) (rg_q (q_assign (x := .d (.sl _ _)) rfl) (rg_q (q_a rfl) ?_))
        refine rn ?_
        change Awp _ _ _ _ _
        refine awp_ret ?_
        refine ⟨_, (.cons (.tmp (by exact .d _)) (.cons (.tmp (by exact .d _)) .nil)), ?_⟩
        rw [hz]; rfl
       ·
        (try simp only [nb, ne_eq] at hc13)
        have hz0 : peI (atZ x k) = 0 := hc13
        rw [if_neg (fun q => q hz0)] at hg
        have hvz := vZ_in hz0
        have hok2 : ∀ z ∈ (colZ l k).take (i + 1), peI z = 0 := fun z q => by
         rw [takeSnoc hcz] at q
         rcases List.mem_append.1 q with q | q
         · exact hok z q
         · rw [List.mem_singleton.1 q]; exact hz0
        have hsn2 : smS ((colZ l k).take (i + 1)) = ((smS ((colZ l k).take i)).1 + (vZ (atZ x k)).1, (smS ((colZ l k).take i)).2 + (vZ (atZ x k)).2) := hsn
        have hset := esR_set hlt hsn2
        have hea := esR_at (l := l) (n := hdN l) (i := i) hlt
        have hel := esR_len l (hdN l) k i
        refine awp_skip ?_
        change Awp _ _ _ _ _
        refine awp_region 13 mixed (by kernel_rfl) ?_
        refine rg_q (q_move (x := .rs _) rfl) (rg_q (q_m rfl) (rg_q (q_move (x := .rs _) rfl) (rg_q (q_m rfl) ?_)))
        refine rg_q (q_indexAddr_rs sl189 rfl rfl rfl (by omega) (by omega)) ?_
        refine rg_q (q_load_rowA sz160 rfl rfl rfl hea) ?_
        refine rg_q (q_move (x := .d (.sl _ _)) rfl) (rg_q (q_m rfl) ?_)
        refine rg_q (q_indexAddr sl72 rfl rfl (by omega) (map_at (k := k) (by omega) hzk)) ?_
        refine rg_q (q_load sz46 rfl rfl) ?_
        refine rg_q (q_call en128 (.cons rfl .nil) rfl (sumOf_p (atZ x k) hz0)) ?_
        refine rg_q (q_call en132 (.cons rfl (.cons rfl .nil)) rfl (fplus_p _ _ _ _ (by omega) (by omega) (by omega) (by omega))) ?_
        refine rg_q (q_indexAddr_rs sl189 rfl rfl rfl (by omega) (by omega)) ?_
        refine rg_nil ?_
        refine aops_store_row sz160 rfl rfl (by exact .inr ⟨_, rfl⟩) rfl rfl (i := k) (j := 0) rfl hea (by decide) hset ?_
        refine aops_nil ?_
        change Awp _ _ _ _ _
        refine awp_region 2 mixed (by kernel_rfl) ?_
        refine rg_q (q_add rfl rfl (In64.mk (by omega) (by omega))) ?_
        refine rg_q (q_m rfl) ?_
        refine rn ?_
        refine ⟨i + 1, ⟨by omega, hg, hok2⟩, by omega, ?_⟩
        exact le_head (ms := [31]) (by repeat (first | exact Out.head rfl rfl | (refine Out.put ?_ rfl) | (refine Out.site ?_ rfl))) ⟨(by rfl), trivial⟩ ⟨(by rfl), trivial⟩ rfl rfl rfl rfl
      ·
       (try simp only [nb, ne_eq] at hc10)
       have hiL : i = l.length := by omega
       have hcz0 : peS (colZ l k) = 0 := by rw [hg, List.drop_of_length_le (by omega)]; rfl
       have hf2 : mgS l 0 (hdN l) = mgS l (k + 1) (hdN l - (k + 1)) := by rw [hf, if_neg (c := peS (colZ l k) ≠ 0) (fun q => q hcz0)]
       subst hiL
       have hnx := esR_next (l := l) (n := hdN l) (k := k)
       refine awp_exit ?_
       change Awp _ _ _ _ _
       refine awp_region 2 mixed (by kernel_rfl) ?_
       refine rg_q (q_add rfl rfl (In64.mk (by omega) (by omega))) ?_
       refine rg_q (q_m rfl) ?_
       refine rn ?_
       refine ⟨k + 1, ⟨by omega, hf2⟩, by omega, ?_⟩
       exact le_head (ms := [31]) (by repeat (first | exact Out.head rfl rfl | (refine Out.put ?_ rfl) | (refine Out.headIn ?_ rfl rfl rfl))) ⟨(by rfl), trivial⟩ ⟨(by (show Site.row _ _ _ = Site.row _ _ _; (rw [hnx]; done))), trivial⟩ rfl rfl rfl rfl
    ·
     (try simp only [nb, ne_eq] at hc7)
     (try simp only [List.length_replicate] at hc7)
     have hkn : k = hdN l := by omega
     have hm0 : mgS l 0 (hdN l) = 0 := by rw [hf, hkn, Nat.sub_self]; rfl
     rw [if_neg (c := mgS l 0 (hdN l) ≠ 0) (fun q => q hm0)] at hu
     subst hkn
     rw [esR_all]
     refine awp_exit ?_
     change Awp _ _ _ _ _
     refine awp_seq ?_
     refine Awp.le (le_freezeR (es := (smL l (hdN l)).map shC) 31 4 (by show Site.row _ _ _ = _; rfl) rfl rfl rfl hmine) ?_
     refine awp_region 4 mixed (by kernel_rfl) ?_
     refine rg_q (q_move (x := .d (.sl _ _)) rfl) ?_
     refine rg_q (q_call en113 (.cons rfl .nil) rfl (numbersOf5_p (smL l (hdN l)) (by rw [smL_len]; omega))) ?_
     refine rg_q (q_assign (x := .d (.sl _ _)) rfl) (rg_q (q_a rfl) ?_)
     refine rn ?_
     change Awp _ _ _ _ _
     refine awp_ret ?_
     refine ⟨_, (.cons (.tmp (by exact .d _)) (.cons (.tmp (by exact .d _)) .nil)), ?_⟩
     rw [hu]; rfl
end Go.Proofs.YtphlaicnmmglhaaGreat.Am.M
-- mini
namespace Go.Proofs.YtphlaicnmmglhaaGreat.Am.M
open Go
end Go.Proofs.YtphlaicnmmglhaaGreat.Am.M
