/- Contracts over the abstract machine, joined. Conditions: none. -/
import Derived.Test.YtamaocfjknpadaaGreatJ3
import Derived.Test.YtamaocfjknpadaaGreatJ1
import Derived.Test.YtamaocfjknpadaaGreatJ2
import Derived.Test.YtamaocfjknpadaaGreatAmE
import Derived.Test.YtamaocfjknpadaaGreatAm52
set_option linter.unusedVariables false
set_option linter.unusedSimpArgs false
-- mini
namespace Go.Proofs.YtamaocfjknpadaaGreat.Am.M
open Go

theorem lt_q {M Q : Nat} (hQ : 0 < Q) (h : 16777216 * Q ≤ M) : 2047 * Q < M := by omega
theorem nan_of {b : Nat} {s : Bool} {t : Nat} (h : Ieee.single.read b = .nan s t) : (FloatKind.f32.decode b).isNaN = true := by
  have e : FloatKind.f32.decode b = Ieee.single.read b := rfl
  rw [e, h]; rfl
set_option maxRecDepth 100000 in
theorem rsampleN_p (b : Nat) (h : (FloatKind.f32.decode b).isNaN = true) : PC Tryz.prog 235 [fd b] (.v (.int .i64 (25))) := by
 refine pc_of_awp Tryz.func235 rfl Tryz.ntmps235 (rs := [.tmp 2]) Tryz.results235 (by simp) fun w0 => ?_
 refine awp_seq ?_
 refine awp_region 1 mixed (by kernel_rfl) ?_
 refine rg_q (q_a rfl) ?_
 refine rn ?_
 change Awp _ _ _ _ _
 refine awp_seq ?_
 refine awp_seq ?_
 refine awp_region 4 mixed (by kernel_rfl) ?_
 refine rg_q (q_m rfl) ?_
 refine rg_q (q_convffN flt117 flt167 (by decide) rfl h) ?_
 refine rg_q (q_call en194 (.cons rfl .nil) rfl (isWholeN_p)) ?_
 refine rg_q (q_not rfl) ?_
 refine rn ?_
 change Awp _ _ _ _ _
 refine awp_cond rfl (fun hc1 => ?_) (fun hc1 => ?_)
 ·
  (try simp only [nb, ne_eq] at hc1)
  refine awp_seq ?_
  refine awp_region 1 mixed (by kernel_rfl) ?_
  refine rg_q (q_a rfl) ?_
  refine rn ?_
  change Awp _ _ _ _ _
  refine awp_ret ?_
  refine ⟨_, (.cons (.tmp (by exact .d _)) .nil), ?_⟩
  rfl
 ·
  simp at hc1
set_option maxRecDepth 100000 in
theorem rsampleB_p (b b' : Nat) (w c1 c2 : Bool) (hc : floatToFloatBits .f32 b .f64 = some b') (hw : whD b' = w) (h1 : ordB .lss (FloatKind.f32.format.order b 3305103360) = c1) (h2 : ordB .gtr (FloatKind.f32.format.order b 1157619712) = c2) : PC Tryz.prog 235 [fd b] (.v (.int .i64 (if w = true then (if (c1 || c2) = true then 2 else 0) else 25))) := by
 refine pc_of_awp Tryz.func235 rfl Tryz.ntmps235 (rs := [.tmp 2]) Tryz.results235 (by simp) fun w0 => ?_
 refine awp_seq ?_
 refine awp_region 1 mixed (by kernel_rfl) ?_
 refine rg_q (q_a rfl) ?_
 refine rn ?_
 change Awp _ _ _ _ _
 refine awp_seq ?_
 refine awp_seq ?_
 refine awp_region 4 mixed (by kernel_rfl) ?_
 refine rg_q (q_m rfl) ?_
 refine rg_q (q_convff flt117 flt167 rfl hc) ?_
 refine rg_q (q_call en194 (.cons rfl .nil) rfl ((by have h := isWhole_p b'; rw [hw] at h; exact h))) ?_
 refine rg_q (q_not rfl) ?_
 refine rn ?_
 change Awp _ _ _ _ _
 refine awp_cond rfl (fun hc1 => ?_) (fun hc1 => ?_)
 ·
  (try simp only [nb, ne_eq] at hc1)
  rw [if_neg (by rw [hc1]; decide)]
  refine awp_seq ?_
  refine awp_region 1 mixed (by kernel_rfl) ?_
  refine rg_q (q_a rfl) ?_
  refine rn ?_
  change Awp _ _ _ _ _
  refine awp_ret ?_
  refine ⟨_, (.cons (.tmp (by exact .d _)) .nil), ?_⟩
  rfl
 ·
  (try simp only [nb, ne_eq] at hc1)
  rw [if_pos hc1]
  refine awp_skip ?_
  change Awp _ _ _ _ _
  refine awp_seq ?_
  refine awp_seq ?_
  refine awp_region 6 mixed (by kernel_rfl) ?_
  refine rg_q (q_m rfl) ?_
  refine rg_q (q_fcmp (by decide) rfl rfl h1) ?_
  refine rg_q (q_m rfl) ?_
  refine rg_g rfl rfl (fun hG => (q_m rfl)) ?_
  refine rg_g rfl rfl (fun hG => (q_fcmp (by decide) rfl rfl h2)) ?_
  refine rg_pick rfl rfl rfl rfl rfl rfl ?_
  refine rn ?_
  change Awp _ _ _ _ _
  refine awp_cond rfl (fun hc3 => ?_) (fun hc3 => ?_)
  ·
   (try simp only [nb, ne_eq] at hc3)
   rw [if_pos (show (c1 || c2) = true by simpa using hc3)]
   refine awp_seq ?_
   refine awp_region 1 mixed (by kernel_rfl) ?_
   refine rg_q (q_a rfl) ?_
   refine rn ?_
   change Awp _ _ _ _ _
   refine awp_ret ?_
   refine ⟨_, (.cons (.tmp (by exact .d _)) .nil), ?_⟩
   rfl
  ·
   (try simp only [nb, ne_eq] at hc3)
   rw [if_neg (show ¬ (c1 || c2) = true by simpa using hc3)]
   refine awp_skip ?_
   change Awp _ _ _ _ _
   refine awp_seq ?_
   refine awp_region 1 mixed (by kernel_rfl) ?_
   refine rg_q (q_a rfl) ?_
   refine rn ?_
   change Awp _ _ _ _ _
   refine awp_ret ?_
   refine ⟨_, (.cons (.tmp (by exact .d _)) .nil), ?_⟩
   rfl

theorem out_M {s : Bool} {M : Nat} (K : Nat) : (decide (sgI s M < sgI true K) || decide (sgI false K < sgI s M)) = decide (K < M) := by
  rw [← Bool.decide_or]
  refine decide_eq_decide.2 ?_
  unfold sgI
  cases s <;> simp <;> omega
theorem rsampleErr5_p (b : Nat) : PC Tryz.prog 235 [fd b] (.v (.int .i64 (sE b))) := by
  cases hr : Ieee.single.read b with
  | nan s t =>
    have e : sE b = 25 := by unfold sE; rw [hr]
    rw [e]
    exact rsampleN_p b (nan_of hr)
  | infinity s =>
    have e : sE b = 25 := by unfold sE; rw [hr]
    rw [e]
    obtain ⟨b', h1, h2⟩ := wide_inf hr
    exact rsampleB_p b b' false _ _ h1 (by unfold whD; rw [h2]) rfl rfl
  | number s m e =>
    obtain ⟨M, hM⟩ : ∃ M, m * 2 ^ (e + KK).toNat = M := ⟨_, rfl⟩
    have hn := num_of fmS LS hr
    rw [hM] at hn
    have e1 : sE b = sEM M := by unfold sE; rw [hr]; simp only [hM]
    rw [e1]
    obtain ⟨b', h1, m', e', h2, h3⟩ := wide_num hr
    have h := rsampleB_p b b' (decide (M % QQ = 0)) _ _ h1 (by unfold whD; rw [h2]; simp only [h3, hM]) (ob_lss hn num_m2047) (ob_gtr hn num_2047)
    rw [out_M] at h
    have e2 : (if decide (M % QQ = 0) = true then (if decide (2047 * QQ < M) = true then (2 : Int) else 0) else 25) = sEM M := by
      unfold sEM
      by_cases h4 : M % QQ = 0
      · rw [if_pos (decide_eq_true h4), if_neg (c := M % QQ ≠ 0) (fun q => q h4)]
        by_cases h5 : 16777216 * QQ ≤ M
        · have h6 : decide (2047 * QQ < M) = true := by
            revert h5
            have hq := QQ_pos
            generalize QQ = q at hq ⊢
            exact fun h5 => decide_eq_true (lt_q hq h5)
          rw [if_pos h5, if_pos (show decide (2047 * QQ < M) = true from h6)]
        · rw [if_neg h5]
          by_cases h6 : 2047 * QQ < M
          · rw [if_pos (decide_eq_true h6), if_pos h6]
          · rw [if_neg (by rw [decide_eq_false h6]; decide), if_neg h6]
      · have h5 : ¬ 16777216 * QQ ≤ M := fun q => h4 (big_whole fmS hr hM (Nat.le_trans (Nat.mul_le_mul_right QQ (show 2 ^ (23 + 1) ≤ 16777216 by decide)) q))
        rw [if_neg (by rw [decide_eq_false h4]; decide), if_neg h5, if_pos (c := M % QQ ≠ 0) h4]
    rw [e2] at h
    exact h
set_option maxRecDepth 100000 in
theorem rsamples5_p (l : List Nat) : PC Tryz.prog 169 [.sl 1 (l.map fC)] (.tup [.v (.int .i64 ((ssE 0 l).1)), .v (.int .i64 ((ssE 0 l).2))]) := by
 refine pc_of_awp Tryz.func169 rfl Tryz.ntmps169 (rs := [.tmp 2, .tmp 3]) Tryz.results169 (by simp) fun w0 => ?_
 refine awp_seq ?_
 refine awp_region 2 mixed (by kernel_rfl) ?_
 refine rg_q (q_a rfl) (rg_q (q_a rfl) ?_)
 refine rn ?_
 change Awp _ _ _ _ _
 refine awp_seq ?_
 refine awp_seq ?_
 refine awp_region 1 mixed (by kernel_rfl) ?_
 refine rg_q (q_a rfl) ?_
 refine rn ?_
 change Awp _ _ _ _ _
 refine awp_block ?_
 refine awp_loopH [2, 3, 4, 5, 6, 7, 8, 9, 10, 11, 12, 13, 14, 15, 16, 17, 18, 19, 20] [] (α := Nat) (fun k => [(4, T.i (k : Int))]) (fun k => []) (fun k => k ≤ l.length ∧ ssE 0 l = ssE k (l.drop k)) (fun k => l.length - k) 0 ⟨Nat.zero_le _, rfl⟩ ?_ ?_
 · exact le_head (ms := []) (by repeat (exact Out.refl _)) ⟨(by rfl), trivial⟩ trivial rfl rfl rfl rfl
 ·
  intro k ⟨hk, hf⟩
  refine awp_seq ?_
  refine awp_seq ?_
  refine awp_region 4 mixed (by kernel_rfl) ?_
  refine rg_q (q_m rfl) (rg_q (q_move (x := .d (.sl _ _)) rfl) ?_)
  refine rg_q (q_len isl29 rfl (by exact len_map _ _)) ?_
  refine rg_q (q_lss rfl rfl) ?_
  refine rn ?_
  change Awp _ _ _ _ _
  refine awp_len (t := 7) rfl (fun hl7 => ?_)
  (try simp only [List.length_map] at hl7)
  refine awp_cond rfl (fun hc2 => ?_) (fun hc2 => ?_)
  ·
   (try simp only [nb, ne_eq] at hc2)
   have hlt : k < l.length := by omega
   obtain ⟨x, hx⟩ : ∃ x, l[k]? = some x := ⟨_, List.getElem?_eq_getElem hlt⟩
   have hd := ssE_at hx
   refine awp_skip ?_
   change Awp _ _ _ _ _
   refine awp_seq ?_
   refine awp_block ?_
   refine awp_seq ?_
   refine awp_region 6 mixed (by kernel_rfl) ?_
   refine rg_q (q_move (x := .d (.sl _ _)) rfl) (rg_q (q_m rfl) ?_)
   refine rg_q (q_indexAddr sl29 rfl rfl (by omega) (map_at (by omega) hx)) ?_
   refine rg_q (q_load sz117 rfl rfl) ?_
   refine rg_q (q_call en235 (.cons rfl .nil) rfl (rsampleErr5_p _)) ?_
   refine rg_q (q_a rfl) ?_
   refine rs (awp_region 2 mixed (by kernel_rfl) ?_)
   refine rg_q (q_m rfl) (rg_q (q_neq rfl rfl) ?_)
   refine rn ?_
   change Awp _ _ _ _ _
   refine awp_cond rfl (fun hc5 => ?_) (fun hc5 => ?_)
   ·
    (try simp only [nb, ne_eq] at hc5)
    have hb : sE x ≠ 0 := hc5
    have hz : ssE 0 l = ((k : Int), sE x) := by rw [hf, hd, if_pos hb]
    rw [hz]
    refine awp_seq ?_
    refine awp_region 4 mixed (by kernel_rfl) ?_
    refine rg_q (q_m rfl) (rg_q (q_m rfl) (rg_q (q_a rfl) (rg_q (q_a rfl) ?_)))
    refine rn ?_
    change Awp _ _ _ _ _
    refine awp_ret ?_
    refine ⟨_, (.cons (.tmp (by exact .d _)) (.cons (.tmp (by exact .d _)) .nil)), ?_⟩
    rfl
   ·
    (try simp only [nb, ne_eq] at hc5)
    have hb : sE x = 0 := hc5
    refine awp_skip ?_
    change Awp _ _ _ _ _
    refine awp_region 3 mixed (by kernel_rfl) ?_
    refine rg_q (q_m rfl) ?_
    refine rg_q (q_add rfl rfl (In64.mk (by omega) (by omega))) ?_
    refine rg_q (q_a rfl) ?_
    refine rn ?_
    refine ⟨k + 1, ⟨by omega, by rw [hf, hd, if_neg (by rw [hb]; simp)]⟩, by omega, ?_⟩
    exact le_head (ms := []) (by repeat (first | exact Out.head rfl rfl | (refine Out.put ?_ rfl))) ⟨(by rfl), trivial⟩ trivial rfl rfl rfl rfl
  ·
   (try simp only [nb, ne_eq] at hc2)
   have hk0 : ssE 0 l = (0, 0) := by rw [hf, List.drop_of_length_le (by omega)]; rfl
   rw [hk0]
   refine awp_exit ?_
   change Awp _ _ _ _ _
   refine awp_seq ?_
   refine awp_region 2 mixed (by kernel_rfl) ?_
   refine rg_q (q_a rfl) (rg_q (q_a rfl) ?_)
   refine rn ?_
   change Awp _ _ _ _ _
   refine awp_ret ?_
   refine ⟨_, (.cons (.tmp (by exact .d _)) (.cons (.tmp (by exact .d _)) .nil)), ?_⟩
   rfl
set_option maxRecDepth 100000 in
theorem rcheckMatrix5_p (ne : Int) (l : List Nat) : PC Tryz.prog 93 [.agg [.v (.int .i64 (ne)), .sl 1 (l.map fC)]] (.tup [.v (.int .i64 ((ckM ne l).1)), .v (.int .i64 ((ckM ne l).2))]) := by
 have hu : ckM ne l = if inR 1 ne 16 = true then (if (l.length : Int) ≠ ne * ne * 64 then (0, 10) else ssE 0 l) else (0, 2) := rfl
 refine pc_of_awp Tryz.func93 rfl Tryz.ntmps93 (rs := [.tmp 2, .tmp 3]) Tryz.results93 (by simp) fun w0 => ?_
 refine awp_seq ?_
 refine awp_region 3 mixed (by kernel_rfl) ?_
 refine rg_q (q_box rfl (by exact .inr ⟨_, rfl⟩)) ?_
 refine rg_q (q_a rfl) (rg_q (q_a rfl) ?_)
 refine rn ?_
 change Awp _ _ _ _ _
 refine awp_seq ?_
 refine awp_seq ?_
 refine awp_region 4 mixed (by kernel_rfl) ?_
 refine rg_q (q_fieldAddr fld31_0 rfl) (rg_q (q_load sz3 rfl rfl) ?_)
 refine rg_q (q_call en31 (.cons rfl (.cons rfl (.cons rfl .nil))) rfl (within4_p _ _ _)) ?_
 refine rg_q (q_not rfl) ?_
 refine rn ?_
 change Awp _ _ _ _ _
 refine awp_cond rfl (fun hc1 => ?_) (fun hc1 => ?_)
 ·
  (try simp only [nb, ne_eq] at hc1)
  rw [if_neg (by simpa using hc1)] at hu
  rw [hu]
  refine awp_seq ?_
  refine awp_region 2 mixed (by kernel_rfl) ?_
  refine rg_q (q_a rfl) (rg_q (q_a rfl) ?_)
  refine rn ?_
  change Awp _ _ _ _ _
  refine awp_ret ?_
  refine ⟨_, (.cons (.tmp (by exact .d _)) (.cons (.tmp (by exact .d _)) .nil)), ?_⟩
  rfl
 ·
  (try simp only [nb, ne_eq] at hc1)
  have hr1 : inR 1 ne 16 = true := by simpa using hc1
  rw [if_pos hr1] at hu
  obtain ⟨hn1, hn2⟩ := inR_iff.1 hr1
  have hm := mulb (a := ne) (b := ne) (A := 16) (B := 16) (by omega) (by omega) (by omega) (by omega)
  refine awp_skip ?_
  change Awp _ _ _ _ _
  refine awp_seq ?_
  refine awp_seq ?_
  refine awp_region 10 mixed (by kernel_rfl) ?_
  refine rg_q (q_fieldAddr fld31_1 rfl) (rg_q (q_load sz29 rfl rfl) ?_)
  refine rg_q (q_len isl29 rfl (by exact len_map _ _)) ?_
  refine rg_q (q_fieldAddr fld31_0 rfl) (rg_q (q_load sz3 rfl rfl) (rg_q (q_fieldAddr fld31_0 rfl) (rg_q (q_load sz3 rfl rfl) ?_)))
  refine rg_q (q_mul rfl rfl (In64.mk (by omega) (by omega))) ?_
  refine rg_q (q_mul rfl rfl (In64.mk (by omega) (by omega))) ?_
  refine rg_q (q_neq rfl rfl) ?_
  refine rn ?_
  change Awp _ _ _ _ _
  refine awp_len (t := 9) rfl (fun hl9 => ?_)
  (try simp only [List.length_map] at hl9)
  refine awp_cond rfl (fun hc3 => ?_) (fun hc3 => ?_)
  ·
   (try simp only [nb, ne_eq] at hc3)
   rw [if_pos (by simpa using hc3)] at hu
   rw [hu]
   refine awp_seq ?_
   refine awp_region 2 mixed (by kernel_rfl) ?_
   refine rg_q (q_a rfl) (rg_q (q_a rfl) ?_)
   refine rn ?_
   change Awp _ _ _ _ _
   refine awp_ret ?_
   refine ⟨_, (.cons (.tmp (by exact .d _)) (.cons (.tmp (by exact .d _)) .nil)), ?_⟩
   rfl
  ·
   (try simp only [nb, ne_eq] at hc3)
   rw [if_neg (by simpa using hc3)] at hu
   rw [hu]
   refine awp_skip ?_
   change Awp _ _ _ _ _
   refine awp_seq ?_
   refine awp_region 7 mixed (by kernel_rfl) ?_
   refine rg_q (q_fieldAddr fld31_1 rfl) (rg_q (q_load sz29 rfl rfl) ?_)
   refine rg_q (q_call en169 (.cons rfl .nil) rfl (rsamples5_p l)) ?_
   refine rg_q (q_extract rfl rfl) (rg_q (q_extract rfl rfl) (rg_q (q_a rfl) (rg_q (q_a rfl) ?_)))
   refine rn ?_
   change Awp _ _ _ _ _
   refine awp_ret ?_
   refine ⟨_, (.cons (.tmp (by exact .d _)) (.cons (.tmp (by exact .d _)) .nil)), ?_⟩
   rfl

def brkB (g : Grd) (th : Int) : Bool := !inR 1 g.fz (th - 1) || !inR 1 (spI g (g.co * g.ro - 1)).2 (th - 1)
theorem brk_is {g : Grd} (hg : GrdOk g) {th : Int} : brkB g th = true ↔ (g.fz < 1 ∨ th - 1 < (spI g (g.co * g.ro - 1)).2) := by
  unfold brkB
  rw [sp_last hg]
  have h1 := hg.r1
  have h2 := hg.s1
  have h3 := Int.mul_nonneg (show 0 ≤ g.ro - 1 by omega) (show 0 ≤ g.st by omega)
  simp only [inR, Bool.or_eq_true, Bool.not_eq_true', Bool.and_eq_false_iff, decide_eq_false_iff_not]
  omega
set_option maxRecDepth 100000 in
theorem rcheckTask_p (t : Tsk) : PC Tryz.prog 22 [.agg (tskC t)] (.tup [.v (.int .i64 ((ckT t).1)), .v (.int .i64 ((ckT t).2))]) := by
 have hu : ckT t = if (ckArr t.ar).2 ≠ 0 then ckArr t.ar
  else if (ckM t.ne t.bf).2 ≠ 0 then (0, (ckM t.ne t.bf).2)
  else if (t.ar.el.length : Int) ≠ t.ne then (0, 13)
  else if ckG t.g ≠ 0 then (0, ckG t.g)
  else (0, whenI (!inR 1 t.g.fz (t.ar.ou.t - 1) || !inR 1 (spI t.g (t.g.co * t.g.ro - 1)).2 (t.ar.ou.t - 1)) 22) := rfl
 refine pc_of_awpN Tryz.func22 rfl Tryz.ntmps22 (rs := [.tmp 2, .tmp 3]) Tryz.results22 (by simp) fun w0 hmine hrnd hpn => ?_
 refine awp_seq ?_
 refine awp_region 3 mixed (by kernel_rfl) ?_
 refine rg_q (q_box rfl (by exact .inr ⟨_, rfl⟩)) ?_
 refine rg_q (q_a rfl) (rg_q (q_a rfl) ?_)
 refine rn ?_
 change Awp _ _ _ _ _
 refine awp_seq ?_
 refine awp_seq ?_
 refine awp_region 8 mixed (by kernel_rfl) ?_
 refine rg_q (q_fieldAddr fld37_0 rfl) ?_
 refine rg_q (q_loadA (ds := [_, _, _, _, _, _, _, _, _, _, _]) sz28 rfl rfl rfl) ?_
 refine rg_q (q_call en92 (.cons rfl .nil) rfl (rcheckArr_p t.ar)) ?_
 refine rg_q (q_move (x := .d (.tup _)) rfl) (rg_q (q_extract rfl rfl) (rg_q (q_extract rfl rfl) (rg_q (q_a rfl) (rg_q (q_a rfl) ?_))))
 refine rs (awp_region 2 mixed (by kernel_rfl) ?_)
 refine rg_q (q_m rfl) (rg_q (q_neq rfl rfl) ?_)
 refine rn ?_
 change Awp _ _ _ _ _
 refine awp_cond rfl (fun hc2 => ?_) (fun hc2 => ?_)
 ·
  (try simp only [nb, ne_eq] at hc2)
  have h1 : (ckArr t.ar).2 ≠ 0 := hc2
  rw [if_pos h1] at hu
  rw [hu]
  refine awp_seq ?_
  refine awp_region 4 mixed (by kernel_rfl) ?_
  refine rg_q (q_m rfl) (rg_q (q_m rfl) (rg_q (q_a rfl) (rg_q (q_a rfl) ?_)))
  refine rn ?_
  change Awp _ _ _ _ _
  refine awp_ret ?_
  refine ⟨_, (.cons (.tmp (by exact .d _)) (.cons (.tmp (by exact .d _)) .nil)), ?_⟩
  rfl
 ·
  (try simp only [nb, ne_eq] at hc2)
  have h1 : ¬ (ckArr t.ar).2 ≠ 0 := fun q => q hc2
  rw [if_neg h1] at hu
  refine awp_skip ?_
  change Awp _ _ _ _ _
  refine awp_seq ?_
  refine awp_seq ?_
  refine awp_region 8 mixed (by kernel_rfl) ?_
  refine rg_q (q_fieldAddr fld37_1 rfl) ?_
  refine rg_q (q_loadA (ds := [_, _]) sz31 rfl rfl rfl) ?_
  refine rg_q (q_call en93 (.cons rfl .nil) rfl (rcheckMatrix5_p t.ne t.bf)) ?_
  refine rg_q (q_move (x := .d (.tup _)) rfl) (rg_q (q_extract rfl rfl) (rg_q (q_extract rfl rfl) (rg_q (q_a rfl) (rg_q (q_a rfl) ?_))))
  refine rs (awp_region 2 mixed (by kernel_rfl) ?_)
  refine rg_q (q_m rfl) (rg_q (q_neq rfl rfl) ?_)
  refine rn ?_
  change Awp _ _ _ _ _
  refine awp_cond rfl (fun hc5 => ?_) (fun hc5 => ?_)
  ·
   (try simp only [nb, ne_eq] at hc5)
   have h2 : (ckM t.ne t.bf).2 ≠ 0 := hc5
   rw [if_pos h2] at hu
   rw [hu]
   refine awp_seq ?_
   refine awp_region 3 mixed (by kernel_rfl) ?_
   refine rg_q (q_m rfl) (rg_q (q_a rfl) (rg_q (q_a rfl) ?_))
   refine rn ?_
   change Awp _ _ _ _ _
   refine awp_ret ?_
   refine ⟨_, (.cons (.tmp (by exact .d _)) (.cons (.tmp (by exact .d _)) .nil)), ?_⟩
   rfl
  ·
   (try simp only [nb, ne_eq] at hc5)
   have h2 : ¬ (ckM t.ne t.bf).2 ≠ 0 := fun q => q hc5
   rw [if_neg h2] at hu
   refine awp_skip ?_
   change Awp _ _ _ _ _
   refine awp_seq ?_
   refine awp_seq ?_
   refine awp_region 8 mixed (by kernel_rfl) ?_
   refine rg_q (q_fieldAddr fld37_1 rfl) (rg_q (q_fieldAddr fld31_0 rfl) (rg_q (q_load sz3 rfl rfl) (rg_q (q_fieldAddr fld37_0 rfl) (rg_q (q_fieldAddr fld28_0 rfl) (rg_q (q_load sz22 rfl rfl) ?_)))))
   refine rg_q (q_len isl22 rfl (by exact len_map _ _)) ?_
   refine rg_q (q_neq rfl rfl) ?_
   refine rn ?_
   change Awp _ _ _ _ _
   refine awp_len (t := 33) rfl (fun hl33 => ?_)
   (try simp only [List.length_map] at hl33)
   refine awp_cond rfl (fun hc7 => ?_) (fun hc7 => ?_)
   ·
    (try simp only [nb, ne_eq] at hc7)
    have h3 : (t.ar.el.length : Int) ≠ t.ne := by omega
    rw [if_pos h3] at hu
    rw [hu]
    refine awp_seq ?_
    refine awp_region 2 mixed (by kernel_rfl) ?_
    refine rg_q (q_a rfl) (rg_q (q_a rfl) ?_)
    refine rn ?_
    change Awp _ _ _ _ _
    refine awp_ret ?_
    refine ⟨_, (.cons (.tmp (by exact .d _)) (.cons (.tmp (by exact .d _)) .nil)), ?_⟩
    rfl
   ·
    (try simp only [nb, ne_eq] at hc7)
    have h3 : ¬ (t.ar.el.length : Int) ≠ t.ne := by omega
    rw [if_neg h3] at hu
    refine awp_skip ?_
    change Awp _ _ _ _ _
    refine awp_seq ?_
    refine awp_seq ?_
    refine awp_region 4 mixed (by kernel_rfl) ?_
    refine rg_q (q_fieldAddr fld37_2 rfl) ?_
    refine rg_q (q_loadA (ds := [_, _, _, _, _]) sz35 rfl rfl rfl) ?_
    refine rg_q (q_call en74 (.cons rfl .nil) rfl (rcheckGrid_p t.g)) ?_
    refine rg_q (q_a rfl) ?_
    refine rs (awp_region 2 mixed (by kernel_rfl) ?_)
    refine rg_q (q_m rfl) (rg_q (q_neq rfl rfl) ?_)
    refine rn ?_
    change Awp _ _ _ _ _
    refine awp_cond rfl (fun hc10 => ?_) (fun hc10 => ?_)
    ·
     (try simp only [nb, ne_eq] at hc10)
     have h4 : ckG t.g ≠ 0 := hc10
     rw [if_pos h4] at hu
     rw [hu]
     refine awp_seq ?_
     refine awp_region 3 mixed (by kernel_rfl) ?_
     refine rg_q (q_m rfl) (rg_q (q_a rfl) (rg_q (q_a rfl) ?_))
     refine rn ?_
     change Awp _ _ _ _ _
     refine awp_ret ?_
     refine ⟨_, (.cons (.tmp (by exact .d _)) (.cons (.tmp (by exact .d _)) .nil)), ?_⟩
     rfl
    ·
     (try simp only [nb, ne_eq] at hc10)
     have h4 : ¬ ckG t.g ≠ 0 := fun q => q hc10
     rw [if_neg h4] at hu
     obtain ⟨hao, _⟩ := ckArr_ok (Decidable.not_not.1 h1)
     have ht1 := hao.ou.t1
     have ht2 := hao.ou.t2
     obtain ⟨hg, hg1, hg2⟩ := ckG_ok (Decidable.not_not.1 h4)
     have hci := cells_in hg
     have hz : ckT t = (0, whenI (brkB t.g t.ar.ou.t) 22) := hu
     refine awp_skip ?_
     change Awp _ _ _ _ _
     refine awp_seq ?_
     refine awp_seq ?_
     refine awp_region 21 mixed (by kernel_rfl) ?_
     refine rg_q (q_fieldAddr fld37_2 rfl) (rg_q (q_fieldAddr fld35_0 rfl) (rg_q (q_fieldAddr fld33_1 rfl) (rg_q (q_load sz3 rfl rfl) (rg_q (q_lss rfl rfl) (rg_q (q_m rfl) ?_)))))
     refine rg_g rfl rfl (fun hG => (q_fieldAddr fld37_2 rfl)) ?_
     refine rg_g rfl rfl (fun hG => (q_loadA (ds := [_, _, _, _, _]) sz35 rfl rfl rfl)) ?_
     refine rg_g rfl rfl (fun hG => (q_fieldAddr fld37_2 rfl)) ?_
     refine rg_g rfl rfl (fun hG => (q_loadA (ds := [_, _, _, _, _]) sz35 rfl rfl rfl)) ?_
     refine rg_g rfl rfl (fun hG => (q_call en56 (.cons rfl .nil) rfl (rcells_p _ (by assumption)))) ?_
     refine rg_g rfl rfl (fun hG => (q_sub rfl rfl (In64.mk (by (have hg0 := T.bool_inj (a := _) hG.1; (try simp only [nb, ne_eq] at hg0); omega)) (by (have hg0 := T.bool_inj (a := _) hG.1; (try simp only [nb, ne_eq] at hg0); omega))))) ?_
     refine rg_g rfl rfl (fun hG => (q_call en76 (.cons rfl (.cons rfl .nil)) rfl (rspot_p _ _ (by assumption) (by omega) (by omega)))) ?_
     refine rg_g rfl rfl (fun hG => (q_field fd33_1 sz3 rfl rfl)) ?_
     refine rg_g rfl rfl (fun hG => (q_fieldAddr fld37_0 rfl)) ?_
     refine rg_g rfl rfl (fun hG => (q_fieldAddr fld28_1 rfl)) ?_
     refine rg_g rfl rfl (fun hG => (q_fieldAddr fld24_3 rfl)) ?_
     refine rg_g rfl rfl (fun hG => (q_load sz3 rfl rfl)) ?_
     refine rg_g rfl rfl (fun hG => (q_sub rfl rfl (In64.mk (by (have hg0 := T.bool_inj (a := _) hG.1; (try simp only [nb, ne_eq] at hg0); omega)) (by (have hg0 := T.bool_inj (a := _) hG.1; (try simp only [nb, ne_eq] at hg0); omega))))) ?_
     refine rg_g rfl rfl (fun hG => (q_gtr rfl rfl)) ?_
     refine rg_pick rfl rfl rfl rfl rfl rfl ?_
     refine rn ?_
     change Awp _ _ _ _ _
     refine awp_cond rfl (fun hc12 => ?_) (fun hc12 => ?_)
     ·
      (try simp only [nb, ne_eq] at hc12)
      rw [(brk_is hg).2 hc12] at hz
      refine awp_seq ?_
      refine awp_region 2 mixed (by kernel_rfl) ?_
      refine rg_q (q_a rfl) (rg_q (q_a rfl) ?_)
      refine rn ?_
      change Awp _ _ _ _ _
      refine awp_ret ?_
      refine ⟨_, (.cons (.tmp (by exact .d _)) (.cons (.tmp (by exact .d _)) .nil)), ?_⟩
      rw [hz]; rfl
     ·
      (try simp only [nb, ne_eq] at hc12)
      have hb : brkB t.g t.ar.ou.t = false := by
       cases q : brkB t.g t.ar.ou.t with
       | false => rfl
       | true => have := (brk_is hg).1 q; omega
      rw [hb] at hz
      refine awp_skip ?_
      change Awp _ _ _ _ _
      refine awp_seq ?_
      refine awp_region 2 mixed (by kernel_rfl) ?_
      refine rg_q (q_a rfl) (rg_q (q_a rfl) ?_)
      refine rn ?_
      change Awp _ _ _ _ _
      refine awp_ret ?_
      refine ⟨_, (.cons (.tmp (by exact .d _)) (.cons (.tmp (by exact .d _)) .nil)), ?_⟩
      rw [hz]; rfl
set_option maxRecDepth 100000 in
theorem rtaskErr_p (t : Tsk) : PC Tryz.prog 24 [.agg (tskC t)] (.v (.int .i64 ((ckT t).2))) := by
 refine pc_of_awp Tryz.func24 rfl Tryz.ntmps24 (rs := [.tmp 2]) Tryz.results24 (by simp) fun w0 => ?_
 refine awp_seq ?_
 refine awp_region 2 mixed (by kernel_rfl) ?_
 refine rg_q (q_box rfl (by exact .inr ⟨_, rfl⟩)) ?_
 refine rg_q (q_a rfl) ?_
 refine rs (awp_region 7 mixed (by kernel_rfl) ?_)
 refine rg_q (q_loadA sz37 rfl rfl rfl) ?_
 refine rg_q (q_call en22 (.cons rfl .nil) rfl (rcheckTask_p _)) ?_
 refine rg_q (q_move (x := .d (.tup _)) rfl) (rg_q (q_extract rfl rfl) (rg_q (q_extract rfl rfl) (rg_q (q_a rfl) (rg_q (q_a rfl) ?_))))
 refine rs (awp_region 2 mixed (by kernel_rfl) ?_)
 refine rg_q (q_m rfl) (rg_q (q_a rfl) ?_)
 refine rn ?_
 change Awp _ _ _ _ _
 refine awp_ret ?_
 refine ⟨_, (.cons (.tmp (by exact .d _)) .nil), ?_⟩
 rfl
set_option maxRecDepth 100000 in
theorem copyMatrix5_p (ne : Int) (l : List Nat) (hl : l.length ≤ 10000) : PC Tryz.prog 62 [.agg [.v (.int .i64 (ne)), .sl 1 (l.map fC)]] (.agg (mtxC ne l)) := by
 refine pc_of_awp Tryz.func62 rfl Tryz.ntmps62 (rs := [.cell 2 31]) Tryz.results62 (by simp) fun w0 => ?_
 refine awp_seq ?_
 refine awp_region 1 mixed (by kernel_rfl) ?_
 refine rg_q (q_box rfl (by exact .inr ⟨_, rfl⟩)) ?_
 refine rg_nil ?_
 refine aops_alloc zr31 rfl rfl rfl ?_
 refine aops_nil ?_
 change Awp _ _ _ _ _
 refine awp_seq ?_
 refine awp_region 7 mixed (by kernel_rfl) ?_
 refine rg_q (q_fieldAddr fld31_0 rfl) (rg_q (q_load sz3 rfl rfl) ?_)
 refine rg_q (q_empty0 sl29 zr117) ?_
 refine rg_q (q_fieldAddr fld31_1 rfl) (rg_q (q_load sz29 rfl rfl) ?_)
 refine rg_q (q_append0 sl29 zr117 by117 rfl (by decide) rfl rfl rfl (by (try simp only [List.length_map]); omega) (by (try simp only [List.length_map]); omega)) ?_
 refine rg_q (q_build (cs := [_, _]) pl31 zr31 rfl (.cons rfl (by exact .inl rfl) (.cons rfl (by exact .inl rfl) .nil)) ⟨⟨rfl, by decide⟩, ⟨rfl, by decide⟩, trivial⟩ rfl) ?_
 refine rg_nil ?_
 refine aops_store sz31 rfl rfl (by exact .inr ⟨_, rfl⟩) rfl rfl (by decide) rfl ?_
 refine aops_nil ?_
 change Awp _ _ _ _ _
 refine awp_ret ?_
 refine ⟨_, (.cons (.cellA rfl rfl sz31 rfl) .nil), ?_⟩
 rfl
set_option maxRecDepth 100000 in
theorem rcopyT_p (t : Tsk) (h1 : t.ar.el.length ≤ 1000) (h2 : t.bf.length ≤ 10000) : PC Tryz.prog 21 [.agg (tskC t)] (.agg (tskC t)) := by
 refine pc_of_awp Tryz.func21 rfl Tryz.ntmps21 (rs := [.cell 2 37]) Tryz.results21 (by simp) fun w0 => ?_
 refine awp_seq ?_
 refine awp_region 1 mixed (by kernel_rfl) ?_
 refine rg_q (q_box rfl (by exact .inr ⟨_, rfl⟩)) ?_
 refine rg_nil ?_
 refine aops_alloc zr37 rfl rfl rfl ?_
 refine aops_nil ?_
 change Awp _ _ _ _ _
 refine awp_seq ?_
 refine awp_region 9 mixed (by kernel_rfl) ?_
 refine rg_q (q_fieldAddr fld37_0 rfl) ?_
 refine rg_q (q_loadA (ds := [_, _, _, _, _, _, _, _, _, _, _]) sz28 rfl rfl rfl) ?_
 refine rg_q (q_call en79 (.cons rfl .nil) rfl (copyArr_p t.ar h1)) ?_
 refine rg_q (q_fieldAddr fld37_1 rfl) ?_
 refine rg_q (q_loadA (ds := [_, _]) sz31 rfl rfl rfl) ?_
 refine rg_q (q_call en62 (.cons rfl .nil) rfl (copyMatrix5_p t.ne t.bf h2)) ?_
 refine rg_q (q_fieldAddr fld37_2 rfl) ?_
 refine rg_q (q_loadA (ds := [_, _, _, _, _]) sz35 rfl rfl rfl) ?_
 refine rg_q (q_build pl37 zr37 rfl (.cons rfl (by exact .inr ⟨_, rfl⟩) (.cons rfl (by exact .inr ⟨_, rfl⟩) (.cons rfl (by exact .inr ⟨_, rfl⟩) .nil))) ⟨⟨rfl, by decide⟩, ⟨rfl, by decide⟩, ⟨rfl, by decide⟩, trivial⟩ rfl) ?_
 refine rg_nil ?_
 refine aops_store sz37 rfl rfl (by exact .inr ⟨_, rfl⟩) rfl rfl (by decide) rfl ?_
 refine aops_nil ?_
 change Awp _ _ _ _ _
 refine awp_ret ?_
 refine ⟨_, (.cons (.cellA rfl rfl sz37 rfl) .nil), ?_⟩
 rfl

def smlB (g : Grd) : Bool := if (!inR 1 g.co 40 || !inR 1 g.ro 40) = true then true else decide (g.co * g.ro ≤ 12)
def litB (t : Tsk) : Bool := (decide (t.ar.el.length ≤ 2) || (decide (16 < t.ar.el.length) && decide (t.ar.el.length ≤ 18))) && decide (t.bf.length ≤ 260) && smlB t.g
theorem lit_le {t : Tsk} (h : litB t = true) : t.ar.el.length ≤ 18 ∧ t.bf.length ≤ 260 := by
  unfold litB at h
  simp only [Bool.and_eq_true, Bool.or_eq_true, decide_eq_true_eq] at h
  omega
set_option maxRecDepth 100000 in
theorem small5_p (g : Grd) : PC Tryz.prog 40 [.agg (grdC g)] (.v (.bool (smlB g))) := by
 refine pc_of_awp Tryz.func40 rfl Tryz.ntmps40 (rs := [.tmp 2]) Tryz.results40 (by simp) fun w0 => ?_
 refine awp_seq ?_
 refine awp_region 2 mixed (by kernel_rfl) ?_
 refine rg_q (q_box rfl (by exact .inr ⟨_, rfl⟩)) ?_
 refine rg_q (q_a rfl) ?_
 refine rn ?_
 change Awp _ _ _ _ _
 refine awp_seq ?_
 refine awp_seq ?_
 refine awp_region 10 mixed (by kernel_rfl) ?_
 refine rg_q (q_fieldAddr fld35_1 rfl) (rg_q (q_load sz3 rfl rfl) ?_)
 refine rg_q (q_call en31 (.cons rfl (.cons rfl (.cons rfl .nil))) rfl (within4_p _ _ _)) ?_
 refine rg_q (q_not rfl) (rg_q (q_m rfl) ?_)
 refine rg_g rfl rfl (fun hG => (q_fieldAddr fld35_2 rfl)) ?_
 refine rg_g rfl rfl (fun hG => (q_load sz3 rfl rfl)) ?_
 refine rg_g rfl rfl (fun hG => (q_call en31 (.cons rfl (.cons rfl (.cons rfl .nil))) rfl (within4_p _ _ _))) ?_
 refine rg_g rfl rfl (fun hG => (q_not rfl)) ?_
 refine rg_pick rfl rfl rfl rfl rfl rfl ?_
 refine rn ?_
 change Awp _ _ _ _ _
 refine awp_cond rfl (fun hc1 => ?_) (fun hc1 => ?_)
 ·
  (try simp only [nb, ne_eq] at hc1)
  have hz : smlB g = true := by unfold smlB; rw [if_pos (by rcases hc1 with q | q <;> simp [q])]
  refine awp_seq ?_
  refine awp_region 1 mixed (by kernel_rfl) ?_
  refine rg_q (q_a rfl) ?_
  refine rn ?_
  change Awp _ _ _ _ _
  refine awp_ret ?_
  refine ⟨_, (.cons (.tmp (by exact .d _)) .nil), ?_⟩
  rw [hz]; rfl
 ·
  (try simp only [nb, ne_eq] at hc1)
  obtain ⟨q1, q2⟩ := hc1
  have hz : smlB g = decide (g.co * g.ro ≤ 12) := by unfold smlB; rw [if_neg (by rw [q1, q2]; decide)]
  obtain ⟨a1, a2⟩ := inR_iff.1 q1
  obtain ⟨a3, a4⟩ := inR_iff.1 q2
  have hm := mulb (a := g.co) (b := g.ro) (A := 40) (B := 40) (by omega) (by omega) (by omega) (by omega)
  refine awp_skip ?_
  change Awp _ _ _ _ _
  refine awp_seq ?_
  refine awp_region 7 mixed (by kernel_rfl) ?_
  refine rg_q (q_fieldAddr fld35_1 rfl) (rg_q (q_load sz3 rfl rfl) (rg_q (q_fieldAddr fld35_2 rfl) (rg_q (q_load sz3 rfl rfl) ?_)))
  refine rg_q (q_mul rfl rfl (In64.mk (by omega) (by omega))) ?_
  refine rg_q (q_leq rfl rfl) (rg_q (q_a rfl) ?_)
  refine rn ?_
  change Awp _ _ _ _ _
  refine awp_ret ?_
  refine ⟨_, (.cons (.tmp (by exact .d _)) .nil), ?_⟩
  rw [hz]; rfl
set_option maxRecDepth 100000 in
theorem light_p (t : Tsk) : PC Tryz.prog 19 [.agg (tskC t)] (.v (.bool (litB t))) := by
 refine pc_of_awp Tryz.func19 rfl Tryz.ntmps19 (rs := [.tmp 2]) Tryz.results19 (by simp) fun w0 => ?_
 refine awp_seq ?_
 refine awp_region 2 mixed (by kernel_rfl) ?_
 refine rg_q (q_box rfl (by exact .inr ⟨_, rfl⟩)) ?_
 refine rg_q (q_a rfl) ?_
 refine rs (awp_region 32 mixed (by kernel_rfl) ?_)
 refine rg_q (q_fieldAddr fld37_0 rfl) (rg_q (q_fieldAddr fld28_0 rfl) (rg_q (q_load sz22 rfl rfl) ?_))
 refine rg_q (q_len isl22 rfl (by exact len_map _ _)) ?_
 refine rg_q (q_leq rfl rfl) (rg_q (q_m rfl) ?_)
 refine rg_g rfl rfl (fun hG => (q_fieldAddr fld37_0 rfl)) ?_
 refine rg_g rfl rfl (fun hG => (q_fieldAddr fld28_0 rfl)) ?_
 refine rg_g rfl rfl (fun hG => (q_load sz22 rfl rfl)) ?_
 refine rg_g rfl rfl (fun hG => (q_len isl22 rfl (by exact len_map _ _))) ?_
 refine rg_g rfl rfl (fun hG => (q_gtr rfl rfl)) ?_
 refine rg_g rfl rfl (fun hG => (q_m rfl)) ?_
 refine rg_g rfl rfl (fun hG => (q_fieldAddr fld37_0 rfl)) ?_
 refine rg_g rfl rfl (fun hG => (q_fieldAddr fld28_0 rfl)) ?_
 refine rg_g rfl rfl (fun hG => (q_load sz22 rfl rfl)) ?_
 refine rg_g rfl rfl (fun hG => (q_len isl22 rfl (by exact len_map _ _))) ?_
 refine rg_g rfl rfl (fun hG => (q_leq rfl rfl)) ?_
 refine rg_pickg rfl rfl rfl rfl rfl rfl rfl rfl ?_
 refine rg_pick rfl rfl rfl rfl rfl rfl ?_
 refine rg_q (q_m rfl) ?_
 refine rg_g rfl rfl (fun hG => (q_fieldAddr fld37_1 rfl)) ?_
 refine rg_g rfl rfl (fun hG => (q_fieldAddr fld31_1 rfl)) ?_
 refine rg_g rfl rfl (fun hG => (q_load sz29 rfl rfl)) ?_
 refine rg_g rfl rfl (fun hG => (q_len isl29 rfl (by exact len_map _ _))) ?_
 refine rg_g rfl rfl (fun hG => (q_leq rfl rfl)) ?_
 refine rg_pick rfl rfl rfl rfl rfl rfl ?_
 refine rg_q (q_m rfl) ?_
 refine rg_g rfl rfl (fun hG => (q_fieldAddr fld37_2 rfl)) ?_
 refine rg_g rfl rfl (fun hG => (q_loadA (ds := [_, _, _, _, _]) sz35 rfl rfl rfl)) ?_
 refine rg_g rfl rfl (fun hG => (q_call en40 (.cons rfl .nil) rfl (small5_p _))) ?_
 refine rg_pick rfl rfl rfl rfl rfl rfl ?_
 refine rg_q (q_a rfl) ?_
 refine rn ?_
 change Awp _ _ _ _ _
 refine awp_len (t := 5) rfl (fun hl5 => ?_)
 (try simp only [List.length_map] at hl5)
 refine awp_ret ?_
 refine ⟨_, (.cons (.tmp (by exact .d _)) .nil), ?_⟩
 have e1 : decide (t.ar.el.length ≤ 2) = decide ((t.ar.el.length : Int) ≤ 2) := decide_eq_decide.2 (by omega)
 have e2 : decide (16 < t.ar.el.length) = decide (16 < (t.ar.el.length : Int)) := decide_eq_decide.2 (by omega)
 have e3 : decide (t.ar.el.length ≤ 18) = decide ((t.ar.el.length : Int) ≤ 18) := decide_eq_decide.2 (by omega)
 have e4 : decide (t.bf.length ≤ 260) = decide ((t.bf.length : Int) ≤ 260) := decide_eq_decide.2 (by omega)
 unfold litB; rw [e1, e2, e3, e4]; simp only [bif_and, bif_or]; rfl
end Go.Proofs.YtamaocfjknpadaaGreat.Am.M
-- mini
namespace Go.Proofs.YtamaocfjknpadaaGreat.Am.M
open Go

theorem chK_at {l : List Nat} {i k : Nat} (hk : k < 64) : (chK l i)[k]? = l[64 * i + k]? := by
  unfold chK
  rw [List.getElem?_drop, List.getElem?_take, if_pos (by omega)]
theorem vlF_nil (t : Tsk) (c : Int) (s : (Int × Int) × Int) (y : Int × Int) : vlF t c [] s y = if inR 0 (smpI t.ar (spI t.g c) y) 60 = true then ((s.1.1 + reI (smpS t y) (smpI t.ar (spI t.g c) y).toNat, s.1.2 + imI (smpS t y) (smpI t.ar (spI t.g c) y).toNat), s.2 + 1) else s := if_neg (show ¬ (hasI [] y.1 || hasI [] y.2) = true from Bool.false_ne_true)
end Go.Proofs.YtamaocfjknpadaaGreat.Am.M
-- mini
namespace Go.Proofs.YtamaocfjknpadaaGreat.Am.M
open Go

theorem clE_of {g : Grd} {c : Int} (h1 : 0 ≤ c) (h2 : c ≤ g.co * g.ro - 1) : clE g c = 0 := by
  unfold clE
  rw [when_zero (by decide), Bool.not_eq_false']
  exact inR_iff.2 ⟨h1, h2⟩
end Go.Proofs.YtamaocfjknpadaaGreat.Am.M
-- mini
namespace Go.Proofs.YtamaocfjknpadaaGreat.Am.M
open Go

theorem rnd_mono {m n b : Int} (hb : 1 ≤ b) (h : m ≤ n) : rndI m b ≤ rndI n b := by
  unfold rndI
  exact Int.ediv_le_ediv (by omega) (by omega)
theorem smp_ne {t : Tsk} (h : TskOk t) (c : Int) (y : Int × Int) : (neI t c y).1 ≤ smpI t.ar (spI t.g c) y ∧ smpI t.ar (spI t.g c) y ≤ (neI t c y).2 := by
  obtain ⟨h1, h2⟩ := ech_btw t.ar (spI t.g c) y
  obtain ⟨hao, _⟩ := ckArr_ok h.ck
  have h3 := hao.t3
  exact ⟨rnd_mono h3 (by omega), rnd_mono h3 (by omega)⟩
end Go.Proofs.YtamaocfjknpadaaGreat.Am.M
-- mini
namespace Go.Proofs.YtamaocfjknpadaaGreat.Am.M
open Go

end Go.Proofs.YtamaocfjknpadaaGreat.Am.M
-- mini
namespace Go.Proofs.YtamaocfjknpadaaGreat.Am.M
open Go
def rdV (t : Tsk) (y : Int × Int) (k : Nat) (n : Int) : Int := ptS (reI (smpS t y) n.toNat) (imI (smpS t y) n.toNat) k
def rdK (t : Tsk) (c : Int) (y : Int × Int) (k : Nat) : Nat → Bool × (Int × Int)
  | 0 => (bif decide ((neI t c y).1 < 0) then true else decide (60 < (neI t c y).2), (0, 0))
  | j + 1 => (true, huA (if (rdK t c y k j).1 = true then (rdK t c y k j).2 else (rdV t y k ((nrI t c y).1 + (j : Int)), rdV t y k ((nrI t c y).1 + (j : Int)))) (rdV t y k ((nrI t c y).1 + (j : Int))))
def rdN (t : Tsk) (c : Int) (y : Int × Int) : Nat := ((nrI t c y).2 - (nrI t c y).1 + 1).toNat
theorem nw_is (t : Tsk) (c : Int) (y : Int × Int) : (!nwI t c y) = (bif decide ((neI t c y).1 < 0) then true else decide (60 < (neI t c y).2)) := by
  rw [bif_or]
  unfold nwI nrI
  rw [Bool.eq_iff_iff]
  simp
  omega
theorem owP_two (b : Bool) (o : RR) (re im : Int) (k : Nat) (hk : k < 2) : rgS (owP b o re im 2) k = huA (if b = true then rgS o k else (ptS re im k, ptS re im k)) (ptS re im k) := by
  rcases two k hk with rfl | rfl <;> rfl
theorem rd_ow (t : Tsk) (c : Int) (y : Int × Int) (k : Nat) (hk : k < 2) : ∀ j, (owK t y (nrI t c y).1 (nwI t c y) j).1 = (rdK t c y k j).1 ∧ rgS (owK t y (nrI t c y).1 (nwI t c y) j).2 k = (rdK t c y k j).2
  | 0 => ⟨nw_is t c y, by rcases two k hk with rfl | rfl <;> rfl⟩
  | j + 1 => by
    obtain ⟨h1, h2⟩ := rd_ow t c y k hk j
    refine ⟨rfl, ?_⟩
    show rgS (owP _ _ _ _ 2) k = _
    rw [owP_two _ _ _ _ k hk, h1, h2]; rfl
theorem rd_end (t : Tsk) (c : Int) (y : Int × Int) (k : Nat) (hk : k < 2) : (rdK t c y k (rdN t c y)).2 = rgS (owE t c y) k := (rd_ow t c y k hk (rdN t c y)).2.symm
theorem rd_in (t : Tsk) (c : Int) (y : Int × Int) (k : Nat) : ∀ j, (0 < j → (rdK t c y k j).1 = true) ∧ (∀ i, i < j → (rdK t c y k j).2.1 ≤ rdV t y k ((nrI t c y).1 + (i : Int)) ∧ rdV t y k ((nrI t c y).1 + (i : Int)) ≤ (rdK t c y k j).2.2) ∧ ((rdK t c y k 0).1 = true → (rdK t c y k j).1 = true ∧ (rdK t c y k j).2.1 ≤ 0 ∧ 0 ≤ (rdK t c y k j).2.2)
  | 0 => ⟨fun h => absurd h (by omega), fun i hi => absurd hi (by omega), fun h => ⟨h, Int.le_refl _, Int.le_refl _⟩⟩
  | j + 1 => by
    obtain ⟨h0, h1, h2⟩ := rd_in t c y k j
    obtain ⟨v, hv⟩ : ∃ v, v = rdV t y k ((nrI t c y).1 + (j : Int)) := ⟨_, rfl⟩
    have e : rdK t c y k (j + 1) = (true, huA (if (rdK t c y k j).1 = true then (rdK t c y k j).2 else (v, v)) v) := by rw [hv]; rfl
    rw [e]
    refine ⟨fun _ => rfl, fun i hi => ?_, fun h3 => ?_⟩
    · unfold huA
      simp only
      by_cases hij : i = j
      · subst hij; rw [← hv]; omega
      · rw [if_pos (h0 (by omega))]
        have := h1 i (by omega)
        omega
    · obtain ⟨h4, h5, h6⟩ := h2 h3
      rw [if_pos h4]
      refine ⟨rfl, ?_⟩
      unfold huA
      simp only
      omega
theorem own_in {t : Tsk} (h : TskOk t) (c : Int) (y : Int × Int) (k : Nat) (hk : k < 2) : (rgS (owE t c y) k).1 ≤ (if inR 0 (smpI t.ar (spI t.g c) y) 60 = true then rdV t y k (smpI t.ar (spI t.g c) y) else 0) ∧ (if inR 0 (smpI t.ar (spI t.g c) y) 60 = true then rdV t y k (smpI t.ar (spI t.g c) y) else 0) ≤ (rgS (owE t c y) k).2 := by
  obtain ⟨h0, h1, h2⟩ := rd_in t c y k (rdN t c y)
  rw [rd_end t c y k hk] at h1 h2
  obtain ⟨s1, s2⟩ := smp_ne h c y
  obtain ⟨n, hn⟩ : ∃ n, n = smpI t.ar (spI t.g c) y := ⟨_, rfl⟩
  rw [← hn] at s1 s2 ⊢
  by_cases q : inR 0 n 60 = true
  · rw [if_pos q]
    obtain ⟨q1, q2⟩ := inR_iff.1 q
    have e : (nrI t c y).1 ≤ n ∧ n ≤ (nrI t c y).2 := by unfold nrI; simp only; omega
    have := h1 (n - (nrI t c y).1).toNat (by unfold rdN; omega)
    rw [show (nrI t c y).1 + (((n - (nrI t c y).1).toNat : Nat) : Int) = n by omega] at this
    exact this
  · rw [if_neg q]
    have hb : (rdK t c y k 0).1 = true := by
      show (bif decide ((neI t c y).1 < 0) then true else decide (60 < (neI t c y).2)) = true
      rw [bif_or, Bool.or_eq_true, decide_eq_true_eq, decide_eq_true_eq]
      rw [inR_iff] at q
      omega
    exact (h2 hb).2
theorem vl_in {t : Tsk} (h : TskOk t) (c : Int) (l : List (Int × Int)) : ∀ k : Nat, k ≤ l.length → ((enA t c (l.take k)).1.1 ≤ (vlA t c [] (l.take k)).1.1 ∧ (vlA t c [] (l.take k)).1.1 ≤ (enA t c (l.take k)).1.2) ∧ (enA t c (l.take k)).2.1 ≤ (vlA t c [] (l.take k)).1.2 ∧ (vlA t c [] (l.take k)).1.2 ≤ (enA t c (l.take k)).2.2
  | 0, _ => by
    have e1 : vlA t c [] (l.take 0) = ((0, 0), 0) := rfl
    have e2 : enA t c (l.take 0) = ((0, 0), 0, 0) := rfl
    rw [e1, e2]
    decide
  | k + 1, hk => by
    obtain ⟨⟨a1, a2⟩, a3, a4⟩ := vl_in h c l k (by omega)
    have hy : l[k]? = some l[k] := List.getElem?_eq_getElem (by omega)
    obtain ⟨b1, b2⟩ := own_in h c l[k] 0 (by decide)
    obtain ⟨b3, b4⟩ := own_in h c l[k] 1 (by decide)
    rw [vlA_snoc hy, enA_snoc hy, vlF_nil]
    show ((enA t c (l.take k)).1.1 + (rgS (owE t c l[k]) 0).1 ≤ _ ∧ _ ≤ (enA t c (l.take k)).1.2 + (rgS (owE t c l[k]) 0).2) ∧ (enA t c (l.take k)).2.1 + (rgS (owE t c l[k]) 1).1 ≤ _ ∧ _ ≤ (enA t c (l.take k)).2.2 + (rgS (owE t c l[k]) 1).2
    by_cases q : inR 0 (smpI t.ar (spI t.g c) l[k]) 60 = true
    · rw [if_pos q] at b1 b2 b3 b4 ⊢
      change _ ≤ reI (smpS t l[k]) (smpI t.ar (spI t.g c) l[k]).toNat at b1
      change reI (smpS t l[k]) (smpI t.ar (spI t.g c) l[k]).toNat ≤ _ at b2
      change _ ≤ imI (smpS t l[k]) (smpI t.ar (spI t.g c) l[k]).toNat at b3
      change imI (smpS t l[k]) (smpI t.ar (spI t.g c) l[k]).toNat ≤ _ at b4
      simp only
      omega
    · rw [if_neg q] at b1 b2 b3 b4 ⊢
      omega
theorem vl_ends {t : Tsk} (h : TskOk t) (c : Int) : (inR (endI t c).1.1 (vlI t c).1.1 (endI t c).1.2 = true) ∧ inR (endI t c).2.1 (vlI t c).1.2 (endI t c).2.2 = true := by
  have := vl_in h c (evL t) (evL t).length (Nat.le_refl _)
  rw [List.take_length] at this
  exact ⟨inR_iff.2 this.1, inR_iff.2 this.2⟩
theorem f64_int {a : Int} (h1 : -9007199254740000 ≤ a) (h2 : a ≤ 9007199254740000) : floatToIntVal .f64 (FloatKind.f64.nearest a) .i64 = some a := by
  unfold floatToIntVal
  have h : (FloatKind.f64.decode (FloatKind.f64.nearest a)).toInt .zero = some a := toInt_wd fmD (by unfold bgI; omega)
  rw [h]
  exact if_pos (i64_of (by omega))
set_option maxRecDepth 100000 in
theorem fparts_p (a b : Int) (h1 : -9007199254740000 ≤ a) (h2 : a ≤ 9007199254740000) (h3 : -9007199254740000 ≤ b) (h4 : b ≤ 9007199254740000) : PC Tryz.prog 29 [cz a b] (.tup [.v (.int .i64 (a)), .v (.int .i64 (b))]) := by
 refine pc_of_awp Tryz.func29 rfl Tryz.ntmps29 (rs := [.tmp 2, .tmp 3]) Tryz.results29 (by simp) fun w0 => ?_
 refine awp_seq ?_
 refine awp_region 2 mixed (by kernel_rfl) ?_
 refine rg_q (q_a rfl) (rg_q (q_a rfl) ?_)
 refine rs (awp_region 8 mixed (by kernel_rfl) ?_)
 refine rg_q (q_m rfl) ?_
 refine rg_q (q_real rfl) ?_
 refine rg_q (q_convfi flt167 int3 rfl (f64_int h1 h2)) ?_
 refine rg_q (q_m rfl) ?_
 refine rg_q (q_imag rfl) ?_
 refine rg_q (q_convfi flt167 int3 rfl (f64_int h3 h4)) ?_
 refine rg_q (q_a rfl) (rg_q (q_a rfl) ?_)
 refine rn ?_
 change Awp _ _ _ _ _
 refine awp_ret ?_
 refine ⟨_, (.cons (.tmp (by exact .d _)) (.cons (.tmp (by exact .d _)) .nil)), ?_⟩
 rfl
end Go.Proofs.YtamaocfjknpadaaGreat.Am.M
namespace Go.Proofs.YtamaocfjknpadaaGreat.Am.M
open Go

end Go.Proofs.YtamaocfjknpadaaGreat.Am.M
-- mini
namespace Go.Proofs.YtamaocfjknpadaaGreat.Am.M
open Go

section
variable {P : Program} {w0 : Cx} {n : Nat} {s : Nat → Site} {ev : Operand → T} {dst : Option Tmp} {ty : TypeId} {pos : String} {after : Array Edge} {g : Option (Nat × Bool)}
end
end Go.Proofs.YtamaocfjknpadaaGreat.Am.M
-- mini
namespace Go.Proofs.YtamaocfjknpadaaGreat.Am.M
open Go

def hdN (l : List (List (Nat × Nat))) : Nat := (l.getD 0 []).length
end Go.Proofs.YtamaocfjknpadaaGreat.Am.M
-- mini
namespace Go.Proofs.YtamaocfjknpadaaGreat.Am.M
open Go
end Go.Proofs.YtamaocfjknpadaaGreat.Am.M
-- mini
namespace Go.Proofs.YtamaocfjknpadaaGreat.Am.M
open Go

theorem vlA_add (t : Tsk) (c : Int) : ∀ (l : List (Int × Int)) (s : (Int × Int) × Int), l.foldl (vlF t c []) s = ((s.1.1 + (vlA t c [] l).1.1, s.1.2 + (vlA t c [] l).1.2), s.2 + (vlA t c [] l).2)
  | [], s => by
    show s = ((s.1.1 + 0, s.1.2 + 0), s.2 + 0)
    simp
  | y :: l, s => by
    have e : vlA t c [] (y :: l) = l.foldl (vlF t c []) (vlF t c [] ((0, 0), 0) y) := rfl
    rw [e, vlA_add t c l]
    show l.foldl (vlF t c []) (vlF t c [] s y) = _
    rw [vlA_add t c l, vlF_nil, vlF_nil]
    by_cases q : inR 0 (smpI t.ar (spI t.g c) y) 60 = true
    · rw [if_pos q, if_pos q]
      simp only [Prod.mk.injEq]
      omega
    · rw [if_neg q, if_neg q]
      simp only [Prod.mk.injEq]
      omega
theorem vs_in {t : Tsk} (h : TskOk t) (c : Int) {l : List (Int × Int)} (hl : l.length ≤ 1600) : (-6600000 ≤ (vlA t c [] l).1.1 ∧ (vlA t c [] l).1.1 ≤ 6600000) ∧ -6600000 ≤ (vlA t c [] l).1.2 ∧ (vlA t c [] l).1.2 ≤ 6600000 := by
  have hb := vlA_in h (c := c) (dd := []) (l := l) l.length (Nat.le_refl _)
  rw [List.take_length] at hb
  omega
end Go.Proofs.YtamaocfjknpadaaGreat.Am.M
namespace Go.Proofs.YtamaocfjknpadaaGreat.Am.M
open Go

end Go.Proofs.YtamaocfjknpadaaGreat.Am.M
-- mini
namespace Go.Proofs.YtamaocfjknpadaaGreat.Am.M
open Go

theorem chK_le (l : List Nat) (m : Nat) : (chK l m).length ≤ 64 := by
  unfold chK
  rw [List.length_drop, List.length_take]; omega
theorem sAt_lin {a b c : List Nat} (h1 : a.length = b.length) (h2 : a.length = c.length) (h : ∀ (j : Nat) (x y z : Nat), a[j]? = some x → b[j]? = some y → c[j]? = some z → vI z = vI x + vI y) (m k : Nat) :
    sAt ((chK c m).map vI) k = sAt ((chK a m).map vI) k + sAt ((chK b m).map vI) k := by
  unfold sAt
  rw [List.getD_eq_getElem?_getD, List.getD_eq_getElem?_getD, List.getD_eq_getElem?_getD, List.getElem?_map, List.getElem?_map, List.getElem?_map]
  by_cases hk : k < 64
  · rw [chK_at hk, chK_at hk, chK_at hk]
    by_cases hj : 64 * m + k < a.length
    · have e1 : a[64 * m + k]? = some a[64 * m + k] := List.getElem?_eq_getElem hj
      have e2 : b[64 * m + k]? = some b[64 * m + k] := List.getElem?_eq_getElem (by omega)
      have e3 : c[64 * m + k]? = some c[64 * m + k] := List.getElem?_eq_getElem (by omega)
      have := h _ _ _ _ e1 e2 e3
      rw [e1, e2, e3]
      exact this
    · rw [List.getElem?_eq_none (by omega), List.getElem?_eq_none (by omega), List.getElem?_eq_none (by omega)]; rfl
  · have l1 := chK_le a m
    have l2 := chK_le b m
    have l3 := chK_le c m
    rw [List.getElem?_eq_none (by omega), List.getElem?_eq_none (by omega), List.getElem?_eq_none (by omega)]; rfl
theorem vlA_lin {ar : Arr} {ne : Int} {g : Grd} {a b c : List Nat} (h1 : a.length = b.length) (h2 : a.length = c.length) (h : ∀ (j : Nat) (x y z : Nat), a[j]? = some x → b[j]? = some y → c[j]? = some z → vI z = vI x + vI y) (cl : Int) : ∀ l : List (Int × Int),
    (vlA ⟨ar, ne, c, g⟩ cl [] l).1 = ((vlA ⟨ar, ne, a, g⟩ cl [] l).1.1 + (vlA ⟨ar, ne, b, g⟩ cl [] l).1.1, (vlA ⟨ar, ne, a, g⟩ cl [] l).1.2 + (vlA ⟨ar, ne, b, g⟩ cl [] l).1.2)
  | [] => rfl
  | y :: l => by
    have ih := vlA_lin (ar := ar) (ne := ne) (g := g) h1 h2 h cl l
    have e : ∀ q : List Nat, vlA ⟨ar, ne, q, g⟩ cl [] (y :: l) = l.foldl (vlF ⟨ar, ne, q, g⟩ cl []) (vlF ⟨ar, ne, q, g⟩ cl [] ((0, 0), 0) y) := fun _ => rfl
    have hs : ∀ k, sAt (smpS ⟨ar, ne, c, g⟩ y) k = sAt (smpS ⟨ar, ne, a, g⟩ y) k + sAt (smpS ⟨ar, ne, b, g⟩ y) k := fun k => sAt_lin h1 h2 h _ k
    rw [e, e, e, vlA_add, vlA_add, vlA_add, vlF_nil, vlF_nil, vlF_nil, ih]
    show (_, _) = (_, _)
    by_cases q : inR 0 (smpI ar (spI g cl) y) 60 = true
    · rw [if_pos q, if_pos q, if_pos q]
      unfold reI imI
      simp only [hs, Prod.mk.injEq]
      omega
    · rw [if_neg q, if_neg q, if_neg q]
      simp only [Prod.mk.injEq]
      omega
end Go.Proofs.YtamaocfjknpadaaGreat.Am.M
-- mini
namespace Go.Proofs.YtamaocfjknpadaaGreat.Am.M
open Go

end Go.Proofs.YtamaocfjknpadaaGreat.Am.M
-- mini
namespace Go.Proofs.YtamaocfjknpadaaGreat.Am.M
open Go

end Go.Proofs.YtamaocfjknpadaaGreat.Am.M
namespace Go.Proofs.YtamaocfjknpadaaGreat.Am.M
open Go

theorem vlA_cons (t : Tsk) (c : Int) (y : Int × Int) (l : List (Int × Int)) : vlA t c [] (y :: l) = (((vlF t c [] ((0, 0), 0) y).1.1 + (vlA t c [] l).1.1, (vlF t c [] ((0, 0), 0) y).1.2 + (vlA t c [] l).1.2), (vlF t c [] ((0, 0), 0) y).2 + (vlA t c [] l).2) := vlA_add t c l _
end Go.Proofs.YtamaocfjknpadaaGreat.Am.M
-- mini
namespace Go.Proofs.YtamaocfjknpadaaGreat.Am.M
open Go

set_option maxRecDepth 100000 in
theorem focused_p  : PC Tryz.prog 71 [] (.v (.bool (true))) := by
 refine pc_of_awpN Tryz.func71 rfl Tryz.ntmps71 (rs := [.tmp 0]) Tryz.results71 (by simp) fun w0 hmine hrnd hpn => ?_
 refine awp_seq ?_
 refine awp_region 1 mixed (by kernel_rfl) ?_
 refine rg_q (q_a rfl) ?_
 refine rs (awp_region 9 mixed (by kernel_rfl) ?_)
 refine rg_q (q_call en82 .nil rfl (one5_p)) ?_
 refine rg_q (q_call en23 (.cons rfl (.cons rfl .nil)) rfl ((by have h := valueAt_p oneT 0 oneT_ok oneT_c; rw [ex_vl, ex_cz] at h; exact h))) ?_
 refine rg_q (q_move (x := .d (.tup _)) rfl) (rg_q (q_extract rfl rfl) (rg_q (q_extract rfl rfl) (rg_q (q_extract rfl rfl) (rg_q (q_a rfl) (rg_q (q_a rfl) ?_)))))
 refine rg_q (q_a rfl) ?_
 refine rs (awp_region 11 mixed (by kernel_rfl) ?_)
 refine rg_q (q_m rfl) (rg_q (q_eql rfl rfl) (rg_q (q_m rfl) ?_))
 refine rg_g rfl rfl (fun hG => (q_m rfl)) ?_
 refine rg_g rfl rfl (fun hG => (q_call en26 (.cons rfl (.cons rfl .nil)) rfl (sameBits_p 4629137466983448576 13849694754071117824 4629137466983448576 13849694754071117824))) ?_
 refine rg_pick rfl rfl rfl rfl rfl rfl ?_
 refine rg_q (q_m rfl) ?_
 refine rg_g rfl rfl (fun hG => (q_m rfl)) ?_
 refine rg_g rfl rfl (fun hG => (q_eql rfl rfl)) ?_
 refine rg_pick rfl rfl rfl rfl rfl rfl ?_
 refine rg_q (q_a rfl) ?_
 refine rn ?_
 change Awp _ _ _ _ _
 refine awp_ret ?_
 refine ⟨_, (.cons (.tmp (by exact .d _)) .nil), ?_⟩
 simp [retD, sbB]

end Go.Proofs.YtamaocfjknpadaaGreat.Am.M
-- mini
namespace Go.Proofs.YtamaocfjknpadaaGreat.Am.M
open Go

def nzX (x : Int) : Int := (1103515245 * x + 12345).tmod 2147483648
def nzS (x : Int) : Nat → Int
  | 0 => x
  | k + 1 => nzX (nzS x k)
def nzV (sz x : Int) : Int := (x.tdiv 65536).tmod (2 * sz + 1) - sz
def nzL (sz x : Int) (n : Nat) : List Int := (List.range n).map fun k => nzV sz (nzS x (k + 1))
theorem nzL_succ (sz x : Int) (n : Nat) : nzL sz x (n + 1) = nzL sz x n ++ [nzV sz (nzS x (n + 1))] := by unfold nzL; rw [List.range_succ, List.map_append]; rfl
theorem nzL_len (sz x : Int) (n : Nat) : (nzL sz x n).length = n := by unfold nzL; rw [List.length_map, List.length_range]
theorem nzL_take (sz x : Int) {k n : Nat} (h : k ≤ n) : (nzL sz x n).take k = nzL sz x k := by unfold nzL; rw [← List.map_take, List.take_range, Nat.min_eq_left h]
theorem nzL_pre (sz x : Int) {k n : Nat} (h : k ≤ n) : nzL sz x k <+: nzL sz x n := by rw [← nzL_take sz x h]; exact List.take_prefix _ _
theorem nzX_in {x : Int} (h : 0 ≤ x ∧ x ≤ 2147483647) : 0 ≤ nzX x ∧ nzX x ≤ 2147483647 := by
  unfold nzX
  rw [Int.tmod_eq_emod_of_nonneg (by omega)]
  omega
theorem nzS_in {x : Int} (h : 0 ≤ x ∧ x ≤ 2147483647) : ∀ k : Nat, 0 ≤ nzS x k ∧ nzS x k ≤ 2147483647
  | 0 => h
  | k + 1 => nzX_in (nzS_in h k)
theorem nz_facts {x sz : Int} (h : 0 ≤ x ∧ x ≤ 2147483647) (h1 : 0 ≤ sz) : (0 ≤ x.tdiv 65536 ∧ x.tdiv 65536 ≤ 32767) ∧ 0 ≤ (x.tdiv 65536).tmod (2 * sz + 1) ∧ (x.tdiv 65536).tmod (2 * sz + 1) ≤ 2 * sz := by
  have hd : x.tdiv 65536 = x / 65536 := Int.tdiv_eq_ediv_of_nonneg (by omega)
  rw [hd]
  have h2 : 0 ≤ x / 65536 ∧ x / 65536 ≤ 32767 := by omega
  refine ⟨h2, ?_⟩
  rw [Int.tmod_eq_emod_of_nonneg h2.1]
  have := Int.emod_nonneg (x / 65536) (show 2 * sz + 1 ≠ 0 by omega)
  have := Int.emod_lt_of_pos (x / 65536) (show 0 < 2 * sz + 1 by omega)
  omega
theorem nzV_in {x sz : Int} (h : 0 ≤ x ∧ x ≤ 2147483647) (h1 : 0 ≤ sz) : -sz ≤ nzV sz x ∧ nzV sz x ≤ sz := by
  have := (nz_facts h h1).2
  unfold nzV
  omega
def nzE (s z c : Int) : Int := whenI (!inR 0 s 2147483647 || !inR 0 z 200 || !inR 0 c 16384) 2
theorem nz_inR {l h a : Int} : inR l a h = true ↔ l ≤ a ∧ a ≤ h := by unfold inR; simp
theorem nzE_zero {s z c : Int} : nzE s z c = 0 ↔ (0 ≤ s ∧ s ≤ 2147483647) ∧ (0 ≤ z ∧ z ≤ 200) ∧ 0 ≤ c ∧ c ≤ 16384 := by
  unfold nzE
  rw [when_zero (by decide), Bool.or_eq_false_iff, Bool.or_eq_false_iff, Bool.not_eq_false', Bool.not_eq_false', Bool.not_eq_false', nz_inR, nz_inR, nz_inR]
  constructor
  · rintro ⟨⟨a, b⟩, c⟩; exact ⟨a, b, c⟩
  · rintro ⟨a, b, c⟩; exact ⟨⟨a, b⟩, c⟩
def encI (n : Int) : List D := iC n
def nzR (s z c : Int) : List Int × Int := if nzE s z c ≠ 0 then ([], nzE s z c) else (nzL z s c.toNat, 0)
theorem nzR_err {s z c : Int} (h : nzE s z c ≠ 0) : nzR s z c = ([], 2) := by
  unfold nzR
  rw [if_pos h]
  unfold nzE whenI at h ⊢
  split at h
  · rename_i q; rw [if_pos q]
  · exact absurd rfl h
theorem nzR_ok {s z : Int} {n : Nat} (h : nzE s z n = 0) : nzR s z n = (nzL z s n, 0) := by
  unfold nzR
  rw [if_neg (fun q => q h), Int.toNat_natCast]
set_option maxRecDepth 100000 in
theorem noiseErr_p (s z c : Int) : PC Tryz.prog 214 [.v (.int .i64 (s)), .v (.int .i64 (z)), .v (.int .i64 (c))] (.v (.int .i64 (nzE s z c))) := by
 refine pc_of_awp Tryz.func214 rfl Tryz.ntmps214 (rs := [.tmp 6]) Tryz.results214 (by simp) fun w0 => ?_
 refine awp_seq ?_
 refine awp_region 1 mixed (by kernel_rfl) ?_
 refine rg_q (q_a rfl) ?_
 refine rs (awp_region 15 mixed (by kernel_rfl) ?_)
 refine rg_q (q_m rfl) ?_
 refine rg_q (q_call en256 (.cons rfl (.cons rfl (.cons rfl .nil))) rfl (bwithin_p _ _ _)) ?_
 refine rg_q (q_not rfl) (rg_q (q_m rfl) ?_)
 refine rg_g rfl rfl (fun hG => (q_m rfl)) ?_
 refine rg_g rfl rfl (fun hG => (q_call en256 (.cons rfl (.cons rfl (.cons rfl .nil))) rfl (bwithin_p _ _ _))) ?_
 refine rg_g rfl rfl (fun hG => (q_not rfl)) ?_
 refine rg_pick rfl rfl rfl rfl rfl rfl ?_
 refine rg_q (q_m rfl) ?_
 refine rg_g rfl rfl (fun hG => (q_m rfl)) ?_
 refine rg_g rfl rfl (fun hG => (q_call en256 (.cons rfl (.cons rfl (.cons rfl .nil))) rfl (bwithin_p _ _ _))) ?_
 refine rg_g rfl rfl (fun hG => (q_not rfl)) ?_
 refine rg_pick rfl rfl rfl rfl rfl rfl ?_
 refine rg_q (q_call en163 (.cons rfl (.cons rfl .nil)) rfl (when_p _ _)) ?_
 refine rg_q (q_a rfl) ?_
 refine rn ?_
 change Awp _ _ _ _ _
 refine awp_ret ?_
 refine ⟨_, (.cons (.tmp (by exact .d _)) .nil), ?_⟩
 unfold nzE; simp only [bif_or]; rfl
set_option maxRecDepth 100000 in
theorem noise1_i (x z : Int) (n : Nat) (hx : 0 ≤ x ∧ x ≤ 2147483647) (hz : 0 ≤ z ∧ z ≤ 200) : PIB Tryz.prog 257 (.int .i64 x) [.pt [.v (.int .i64 (z))] 0] (encI) (nzL z x n) false := by
  refine pib_of_iwp Tryz.func257 rfl Tryz.ntmps257 rfl rfl rfl fun J c l0 hJ hy hdat hfin => ?_
  refine iwp_block ?_
  refine iwp_loopH [4, 5, 6, 7, 8, 9, 10, 11, 12, 13, 14, 15, 16, 17, 18] [19] (β := Nat) (fun i => []) (fun i => [(19, .box [.v (.int .i64 (nzS x i))])]) (fun i => (true, nzL z x i)) (fun i => i ≤ n) (fun i => n - i) 0 (Nat.zero_le _) rfl (fun c1 => ?_) ?_
  · exact le_head (ms := [19]) (by repeat (exact Out.refl _)) trivial ⟨(by rfl), trivial⟩ rfl rfl rfl rfl
  ·
    intro i hi
    by_cases hlt : i < n
    rotate_left
    · have hin : i = n := by omega
      subst hin
      exact iwp_absurd (hfin rfl)
    have hs1 := nzS_in hx i
    have hs2 := nzX_in hs1
    have hf := nz_facts hs2 hz.1
    unfold nzX at hs2 hf
    have hpre : nzL z x i ++ [nzV z (nzS x (i + 1))] <+: nzL z x n := by rw [← nzL_succ]; exact nzL_pre z x hlt
    refine iwp_block ?_
    refine iwp_seq ?_
    apply iwp_reg hJ
    ·
      intro c1 hmine hrnd
      refine awp_region 4 mixed (by kernel_rfl) ?_
      refine rg_q (q_load_ref sz3 rfl rfl rfl) ?_
      refine rg_q (q_mul rfl rfl (In64.mk (by omega) (by omega))) ?_
      refine rg_q (q_add rfl rfl (In64.mk (by omega) (by omega))) ?_
      refine rg_q (q_rem rfl rfl (by omega)) ?_
      refine rg_nil ?_
      refine aops_store sz3 rfl rfl (by exact .inl rfl) rfl rfl (by simp; done) rfl ?_
      refine aops_nil ?_
      exact ⟨rfl, rfl⟩
    change Iwp _ _ _ _ _ _ _
    refine iwp_seq ?_
    refine iwp_regionD 9 mixed hJ (by kernel_rfl) (fun c1 hmine => ?_)
    refine rg_q (q_move (x := .d (.fn _ _)) rfl) (rg_q (q_load_ref sz3 rfl rfl rfl) ?_)
    refine rg_q (q_quo rfl rfl (by omega) (In64.mk (by omega) (by omega))) ?_
    refine rg_q (q_load sz3 rfl rfl) ?_
    refine rg_q (q_mul rfl rfl (In64.mk (by omega) (by omega))) ?_
    refine rg_q (q_add rfl rfl (In64.mk (by omega) (by omega))) ?_
    refine rg_q (q_rem rfl rfl (by omega)) ?_
    refine rg_q (q_load sz3 rfl rfl) ?_
    refine rg_q (q_sub rfl rfl (In64.mk (by omega) (by omega))) ?_
    refine rg_nil ?_
    refine iops_yield (x := (nzV z (nzS x (i + 1)))) hy hdat rfl (.cons rfl .nil) hpre rfl (fun yb => ?_)
    refine iops_of hJ rfl (fun c1 _ _ _ h => by exact aops_q rfl ((q_not rfl)) h) ?_
    refine iops_nil ?_
    change Iwp _ _ _ _ _ _ _
    refine iwp_cond rfl (fun hc1 => ?_) (fun hc1 => ?_)
    ·
      (try simp only [nb, ne_eq] at hc1)
      have hyb : yb = false := by cases yb <;> first | rfl | (exfalso; simp_all; done)
      refine iwp_ret ?_
      exact ⟨.inl rfl, fun h => by rw [hyb] at h; cases h⟩
    ·
      (try simp only [nb, ne_eq] at hc1)
      have hyb : yb = true := by cases yb <;> first | rfl | (exfalso; simp_all; done)
      refine iwp_skip ?_
      refine ⟨i + 1, by omega, by omega, by rw [hyb, nzL_succ], fun c1 => ?_⟩
      exact le_head (ms := [19]) (by repeat (first | exact Out.head rfl rfl | (refine Out.put ?_ rfl) | (refine Out.site ?_ rfl))) trivial ⟨(by rfl), trivial⟩ rfl rfl rfl rfl
set_option maxRecDepth 100000 in
theorem noise_p (x z : Int) : PCS Tryz.prog 215 [.d (.v (.int .i64 (x))), .d (.v (.int .i64 (z)))] [] (T.cl 0 257 [.pt [.v (.int .i64 (z))] 0]) [.box [.v (.int .i64 (x))]] := by
 refine pcs_of_awp Tryz.func215 rfl Tryz.ntmps215 (rs := [.tmp 4]) Tryz.results215 (by simp) fun w0 => ?_
 refine awp_seq ?_
 refine awp_region 0 mixed (by kernel_rfl) ?_
 refine rg_nil ?_
 refine aops_box rfl (by exact .inl rfl) rfl rfl rfl ?_
 refine aops_q rfl (q_box rfl (by exact .inl rfl)) ?_
 refine aops_q rfl (q_assign (x := .d (.v .nilFunc)) rfl) ?_
 refine aops_nil ?_
 change Awp _ _ _ _ _
 refine awp_seq ?_
 refine awp_region 2 mixed (by kernel_rfl) ?_
 refine rg_q (q_makeFuncB rfl (.cons rfl .nil)) ?_
 refine rg_q (q_assign (x := .own _ _ _ _) rfl) ?_
 refine rn ?_
 change Awp _ _ _ _ _
 refine awp_ret ?_
 exact end_mk (.inl rfl) [2] (.tmp rfl) (by repeat (first | exact trivial | refine ⟨rfl, ?_⟩)) rfl
set_option maxRecDepth 100000 in
theorem noiseP_p (s z c : Int) : PC Tryz.prog 140 [.v (.int .i64 (s)), .v (.int .i64 (z)), .v (.int .i64 (c))] (.tup [.sl 1 ((nzR s z c).1.map iC), .v (.int .i64 ((nzR s z c).2))]) := by
  refine pc_of_awpM Tryz.func140 rfl Tryz.ntmps140 (rs := [.tmp 6, .tmp 7]) Tryz.results140 (by simp) fun w0 hmine hrnd hpn => ?_
  refine awp_seq ?_
  refine awp_region 3 mixed (by kernel_rfl) ?_
  refine rg_q (q_box rfl (by exact .inl rfl)) ?_
  refine rg_q (q_assign (x := .d (.sl _ _)) rfl) (rg_q (q_a rfl) ?_)
  refine rn ?_
  change Awp _ _ _ _ _
  refine awp_seq ?_
  refine awp_seq ?_
  refine awp_region 5 mixed (by kernel_rfl) ?_
  refine rg_q (q_m rfl) (rg_q (q_m rfl) (rg_q (q_load sz3 rfl rfl) ?_))
  refine rg_q (q_call en214 (.cons rfl (.cons rfl (.cons rfl .nil))) rfl (noiseErr_p _ _ _)) ?_
  refine rg_q (q_a rfl) ?_
  refine rs (awp_region 6 mixed (by kernel_rfl) ?_)
  refine rg_q (q_m rfl) (rg_q (q_neq rfl rfl) (rg_q (q_m rfl) ?_))
  refine rg_g rfl rfl (fun hG => (q_load sz3 rfl rfl)) ?_
  refine rg_g rfl rfl (fun hG => (q_eql rfl rfl)) ?_
  refine rg_pick rfl rfl rfl rfl rfl rfl ?_
  refine rn ?_
  change Awp _ _ _ _ _
  refine awp_cond rfl (fun hc2 => ?_) (fun hc2 => ?_)
  ·
    (try simp only [nb, ne_eq] at hc2)
    have hr : nzR s z c = ([], nzE s z c) := by
      unfold nzR
      by_cases he : nzE s z c = 0
      · rcases hc2 with q | q
        · exact absurd he q
        · subst q; rw [if_neg (fun q => q he), he]; rfl
      · rw [if_pos he]
    refine awp_seq ?_
    refine awp_region 3 mixed (by kernel_rfl) ?_
    refine rg_q (q_m rfl) (rg_q (q_assign (x := .d (.sl _ _)) rfl) (rg_q (q_a rfl) ?_))
    refine rn ?_
    change Awp _ _ _ _ _
    refine awp_ret ?_
    refine ⟨_, (.cons (.tmp (by exact .d _)) (.cons (.tmp (by exact .d _)) .nil)), ?_⟩
    rw [hr]; rfl
  ·
    (try simp only [nb, ne_eq] at hc2)
    have he : nzE s z c = 0 := by omega
    have hb := nzE_zero.1 he
    have hr : nzR s z c = (nzL z s c.toNat, 0) := by unfold nzR; rw [if_neg (fun q => q he)]
    obtain ⟨n, hn⟩ : ∃ n : Nat, c = n := ⟨c.toNat, by omega⟩
    subst hn
    rw [Int.toNat_natCast] at hr
    have hn0 : 0 < n := by omega
    have hn1 : n ≤ 16384 := by omega
    refine awp_skip ?_
    change Awp _ _ _ _ _
    refine awp_seq ?_
    refine awp_region 0 mixed (by kernel_rfl) ?_
    refine rg_nil ?_
    refine aops_alloc zr77 rfl rfl rfl ?_
    refine aops_nil ?_
    change Awp _ _ _ _ _
    refine awp_seq ?_
    refine awp_seq ?_
    refine awp_region 2 mixed (by kernel_rfl) ?_
    refine rg_q (q_m rfl) (rg_q (q_m rfl) ?_)
    refine rg_nil ?_
    refine aops_callL [24] [] en215 (noise_p s z) (.cons rfl (.cons rfl .nil)) rfl rfl rfl (by repeat (exact trivial)) (by repeat (first | exact trivial | refine ⟨rfl, ?_⟩)) rfl ?_
    refine aops_nil ?_
    change Awp _ _ _ _ _
    refine awp_block ?_
    refine Awp.le (le_ownB 9 35 0 3 1 rfl rfl rfl) ?_
    refine awp_rangeBC (f := 257) (post := [.pt [.v (.int .i64 (z))] 0]) (u := .int .i64 s) (α := Int) (β := Nat) (n := 35) (enc := encI) (items := nzL z s n) 1000 [(5, .d (.pt [.v (.int .i64 ((n : Int)))] 0)), (9, .ref 9 0)] (fun x => [(9, .tbox [.rs 35]), (35, .row 3 1 ((nzL z s x).map iC))]) (fun k x => x = k ∧ k < n) (fun e x => e = Exit.exit 0 ∧ x = n) 0 24 24 hrnd hmine hpn ?_ (by rfl) en257 (noise1_i s z n hb.1 hb.2.1) rfl (fun _ => rfl) rfl (fun _ => by repeat first | exact trivial | refine ⟨by exact .v _, ?_⟩) (fun _ => rfl) ⟨rfl, hn0⟩ (fun _ x h => by rw [nzL_len] at h; exact absurd h.2 (Nat.lt_irrefl _)) ?_ ?_ ?_
    · exact le_cst (fun k => k) _ _ rfl ⟨(by first | rfl), (by first | rfl), (by first | rfl), trivial⟩ ⟨(by first | rfl), (by first | rfl), (by first | rfl), trivial⟩ rfl (fun k b h => by rw [hpn k] at h; cases h)
    ·
      intro w1 hw1 k x y hI hy
      obtain ⟨rfl, hk⟩ := hI
      have hyv : y = nzV z (nzS s (x + 1)) := by
        have h2 := (List.getElem?_eq_some_iff.1 hy).2
        rw [← h2]; unfold nzL; rw [List.getElem_map, List.getElem_range]
      have hs1 : (nzL z s x).map iC ++ [iC y] = (nzL z s (x + 1)).map iC := by rw [nzL_succ, List.map_append, hyv]; rfl
      have hsl := nzL_len z s x
      refine awp_region 1 mixed (by kernel_rfl) ?_
      refine rg_q (q_a rfl) ?_
      refine rn ?_
      refine ⟨rfl, fun w2 hw2 => ?_⟩
      refine awp_block ?_
      refine awp_seq ?_
      refine awp_region 3 mixed (by kernel_rfl) ?_
      refine rg_q (q_load_tb (x := .rs _) sz77 rfl rfl rfl) ?_
      refine rg_q (q_m rfl) ?_
      refine rg_q (q_buildSlice sl77 zr3 rfl rfl (by decide) (.cons rfl (by exact .inl rfl) .nil) ⟨rfl, rfl, trivial⟩ rfl (by decide) rfl) ?_
      refine rg_nil ?_
      refine aops_append sl77 zr3 by3 rfl (by decide) rfl rfl rfl rfl (by (try simp only [List.length_map, List.length_append, List.length_cons, List.length_nil]); omega) (by (try simp only [List.length_map, List.length_append, List.length_cons, List.length_nil]); omega) rfl rfl ?_
      refine aops_storeT (z := .rs _) sz77 rfl rfl rfl rfl (by decide) rfl ?_
      refine aops_nil ?_
      change Awp _ _ _ _ _
      refine awp_seq ?_
      refine awp_region 4 mixed (by kernel_rfl) ?_
      refine rg_q (q_load_tb (x := .rs _) sz77 rfl rfl rfl) ?_
      refine rg_q (q_len_rs isl77 rfl rfl) ?_
      refine rg_q (q_load sz3 rfl rfl) (rg_q (q_eql rfl rfl) ?_)
      refine rn ?_
      change Awp _ _ _ _ _
      skip
      (try simp only [List.length_map] at hl30)
      refine awp_cond rfl (fun hc8 => ?_) (fun hc8 => ?_)
      ·
        (try simp only [nb, ne_eq] at hc8)
        have hxe : x + 1 = n := by (try simp only [List.length_map, List.length_append, List.length_cons, List.length_nil, nzL_len] at hc8); omega
        refine awp_exit ?_
        refine .inr ⟨rfl, x + 1, ⟨rfl, hxe⟩, ?_⟩
        exact le_round [] _ hw2 rfl ⟨(by rfl), (by (show Site.row _ _ _ = Site.row _ _ _; rw [← hs1]; rfl)), trivial⟩ rfl
      ·
        (try simp only [nb, ne_eq] at hc8)
        have hxe : x + 1 < n := by (try simp only [List.length_map, List.length_append, List.length_cons, List.length_nil, nzL_len] at hc8); omega
        refine awp_skip ?_
        refine .inl ⟨rfl, x + 1, ⟨rfl, hxe⟩, ?_⟩
        exact le_round [] _ hw2 rfl ⟨(by rfl), (by (show Site.row _ _ _ = Site.row _ _ _; rw [← hs1]; rfl)), trivial⟩ rfl
    ·
      intro x hI
      exact absurd hI.2 (by rw [nzL_len]; exact Nat.lt_irrefl _)
    ·
      rintro e x (⟨rfl, hX⟩)
      ·
        subst hX
        change Awp _ _ _ _ _
        refine awp_seq ?_
        refine awp_region 3 mixed (by kernel_rfl) ?_
        refine rg_q (q_load_tb (x := .rs _) sz77 rfl rfl rfl) ?_
        refine rg_q (q_assign (x := .rs _) rfl) (rg_q (q_a rfl) ?_)
        refine rn ?_
        change Awp _ _ _ _ _
        refine awp_ret ?_
        refine ⟨_, (.cons (.tmp (by exact .rs rfl)) (.cons (.tmp (by exact .d _)) .nil)), ?_⟩
        rw [hr]; rfl
end Go.Proofs.YtamaocfjknpadaaGreat.Am.M
-- mini
namespace Go.Proofs.YtamaocfjknpadaaGreat.Am.M
open Go

def nfC (v : Int) : List D := [fv v]
def nyV (l : List Nat) (nz : List Int) (k : Nat) : Int := vI (l.getD k 0) + nz.getD k 0
def nyC (l : List Nat) (nz : List Int) (i : Nat) : List Int := (List.range 64).map fun j => nyV l nz (64 * i + j)
def nyF (l : List Nat) (nz : List Int) (k : Nat) : List Int := (List.range k).map (nyV l nz)
theorem nyC_len (l : List Nat) (nz : List Int) (i : Nat) : (nyC l nz i).length = 64 := by unfold nyC; rw [List.length_map, List.length_range]
theorem nyF_len (l : List Nat) (nz : List Int) (k : Nat) : (nyF l nz k).length = k := by unfold nyF; rw [List.length_map, List.length_range]
theorem nyF_chunk (l : List Nat) (nz : List Int) (i : Nat) : nyF l nz (64 * (i + 1)) = nyF l nz (64 * i) ++ nyC l nz i := by
  unfold nyF nyC
  rw [show 64 * (i + 1) = 64 * i + 64 by omega, List.range_add, List.map_append, List.map_map]; rfl
theorem nyC_at (l : List Nat) (nz : List Int) (i : Nat) {j : Nat} (h : j < 64) : (nyC l nz i)[j]? = some (nyV l nz (64 * i + j)) := by
  unfold nyC
  rw [List.getElem?_map, List.getElem?_range h]; rfl
theorem nyV_of {l : List Nat} {nz : List Int} {k b : Nat} {u : Int} (h1 : l[k]? = some b) (h2 : nz[k]? = some u) : nyV l nz k = vI b + u := by
  unfold nyV
  rw [List.getD_eq_getElem?_getD, List.getD_eq_getElem?_getD, h1, h2]; rfl
theorem ny_any {l : List Nat} {nz : List Int} {i : Nat} (h : (nyF l nz (64 * i)).any bigB = false) : (nyF l nz (64 * (i + 1))).any bigB = (nyC l nz i).any bigB := by
  rw [nyF_chunk, List.any_append, h, Bool.false_or]
theorem ny_up {l : List Nat} {nz : List Int} {k : Nat} : ∀ {m : Nat}, k ≤ m → (nyF l nz m).any bigB = false → (nyF l nz k).any bigB = false := fun {m} hk h => by
  have e : nyF l nz k = (nyF l nz m).take k := by unfold nyF; rw [← List.map_take, List.take_range, Nat.min_eq_left hk]
  rw [e, List.any_eq_false]
  exact fun x hx => List.any_eq_false.1 h x (List.mem_of_mem_take hx)
theorem nyC_row (l : List Nat) (nz : List Int) (i : Nat) : (((nyC l nz i).map fv).map fun d => [d]) = (nyC l nz i).map nfC := by rw [List.map_map]; rfl
theorem nf_flat (S : List Int) : ∀ x ∈ S.map nfC, ∀ d ∈ x, D.Flat d := by
  intro x hx d hd
  obtain ⟨v, _, rfl⟩ := List.mem_map.1 hx
  rcases List.mem_singleton.1 hd with rfl
  exact .v _
def mx0 : List D := [.v (.int .i64 0), .v (.slice none 0 0)]
def nmC (ne : Int) (S : List Int) : List D := [.v (.int .i64 ne), .sl 1 (S.map nfC)]
theorem when80 {b : Bool} (h : whenI b 8 ≠ 0) : b = true := by cases b with | true => rfl | false => exact absurd rfl h
theorem when81 {b : Bool} (h : whenI b 8 = 0) : b = false := by cases b with | false => rfl | true => cases h
theorem nzL_in {s z : Int} {n : Nat} (h : nzE s z n = 0) : ∀ u ∈ nzL z s n, -200 ≤ u ∧ u ≤ 200 := by
  obtain ⟨b1, b2, _⟩ := nzE_zero.1 h
  intro u hu
  unfold nzL at hu
  obtain ⟨k, _, rfl⟩ := List.mem_map.1 hu
  have := nzV_in (nzS_in b1 (k + 1)) b2.1
  omega
set_option maxRecDepth 100000 in
theorem noisyE_p (ne : Int) (l : List Nat) (s z : Int) (n1 : 1 ≤ ne) (n2 : ne ≤ 16) (nl : (l.length : Int) = ne * ne * 64) (wh : WhlL l) (hE : nzE s z l.length ≠ 0) : PC Tryz.prog 72 [.agg (mtxC ne l), .v (.int .i64 (s)), .v (.int .i64 (z))] (.tup [.agg mx0, .v (.int .i64 (2))]) := by
 refine pc_of_awpN Tryz.func72 rfl Tryz.ntmps72 (rs := [.cell 6 31, .cell 7 40]) Tryz.results72 (by simp) fun w0 hmine hrnd hpn => ?_
 refine awp_seq ?_
 refine awp_region 1 mixed (by kernel_rfl) ?_
 refine rg_q (q_box rfl (by exact .inr ⟨_, rfl⟩)) ?_
 refine rg_nil ?_
 refine aops_alloc zr31 rfl rfl rfl ?_
 refine aops_alloc zr40 rfl rfl rfl ?_
 refine aops_nil ?_
 change Awp _ _ _ _ _
 refine awp_seq ?_
 refine awp_seq ?_
 refine awp_region 7 mixed (by kernel_rfl) ?_
 refine rg_q (q_loadA (ds := [_, _]) sz31 rfl rfl rfl) ?_
 refine rg_q (q_call en86 (.cons rfl .nil) rfl (checkMatrix_p ne l n1 n2 nl wh)) ?_
 refine rg_q (q_move (x := .d (.tup _)) rfl) (rg_q (q_extract rfl rfl) (rg_q (q_extract rfl rfl) (rg_q (q_a rfl) (rg_q (q_a rfl) ?_))))
 refine rs (awp_region 2 mixed (by kernel_rfl) ?_)
 refine rg_q (q_m rfl) (rg_q (q_neq rfl rfl) ?_)
 refine rn ?_
 change Awp _ _ _ _ _
 refine awp_cond rfl (fun hc2 => ?_) (fun hc2 => ?_)
 ·
  simp at hc2
 ·
  (try simp only [nb, ne_eq] at hc2)
  refine awp_skip ?_
  change Awp _ _ _ _ _
  refine awp_seq ?_
  refine awp_region 9 mixed (by kernel_rfl) ?_
  refine rg_q (q_m rfl) (rg_q (q_m rfl) (rg_q (q_fieldAddr fld31_1 rfl) (rg_q (q_load sz29 rfl rfl) ?_)))
  refine rg_q (q_len isl29 rfl (by exact len_map _ _)) ?_
  refine rg_q (q_call en140 (.cons rfl (.cons rfl (.cons rfl .nil))) rfl ((by have h := noiseP_p s z (l.length : Int); rw [nzR_err hE] at h; exact h))) ?_
  refine rg_q (q_move (x := .d (.tup _)) rfl) (rg_q (q_extract rfl rfl) (rg_q (q_extract rfl rfl) ?_))
  refine rg_nil ?_
  refine aops_allocD zr77 rfl sz77 rfl rfl (by exact .inl rfl) rfl rfl ?_
  refine aops_q rfl (q_a rfl) ?_
  refine aops_nil ?_
  change Awp _ _ _ _ _
  refine awp_len (t := 32) rfl (fun hl32 => ?_)
  (try simp only [List.length_map] at hl32)
  refine awp_seq ?_
  refine awp_seq ?_
  refine awp_region 2 mixed (by kernel_rfl) ?_
  refine rg_q (q_m rfl) (rg_q (q_neq rfl rfl) ?_)
  refine rn ?_
  change Awp _ _ _ _ _
  refine awp_cond rfl (fun hc5 => ?_) (fun hc5 => ?_)
  ·
   (try simp only [nb, ne_eq] at hc5)
   refine awp_seq ?_
   refine awp_region 2 mixed (by kernel_rfl) ?_
   refine rg_q (q_build (cs := [_, _]) pl31 zr31 rfl .nil trivial rfl) ?_
   refine rg_q (q_m rfl) ?_
   refine rg_nil ?_
   refine aops_store sz31 rfl rfl (by exact .inr ⟨_, rfl⟩) rfl rfl (by decide) rfl ?_
   refine aops_store sz40 rfl rfl (by exact .inl rfl) rfl rfl (by decide) rfl ?_
   refine aops_nil ?_
   change Awp _ _ _ _ _
   refine awp_ret ?_
   refine ⟨_, (.cons (.cellA rfl rfl sz31 rfl) (.cons (.cell1 rfl rfl sz40) .nil)), ?_⟩
   rfl
  ·
   simp at hc5
theorem whenI_t {b : Bool} (h : b = true) : whenI b 8 = 8 := by rw [h]; rfl
set_option maxRecDepth 100000 in
theorem noisyB_p (ne : Int) (l : List Nat) (s z : Int) (n1 : 1 ≤ ne) (n2 : ne ≤ 16) (nl : (l.length : Int) = ne * ne * 64) (wh : WhlL l) (m : Nat) (hm : l.length = 64 * m) (hm2 : m ≤ 256) (hE : nzE s z l.length = 0) (hB : (nyF l (nzL z s l.length) (64 * m)).any bigB = true) : PC Tryz.prog 72 [.agg (mtxC ne l), .v (.int .i64 (s)), .v (.int .i64 (z))] (.tup [.agg mx0, .v (.int .i64 (8))]) := by
 refine pc_of_awpN Tryz.func72 rfl Tryz.ntmps72 (rs := [.cell 6 31, .cell 7 40]) Tryz.results72 (by simp) fun w0 hmine hrnd hpn => ?_
 refine awp_seq ?_
 refine awp_region 1 mixed (by kernel_rfl) ?_
 refine rg_q (q_box rfl (by exact .inr ⟨_, rfl⟩)) ?_
 refine rg_nil ?_
 refine aops_alloc zr31 rfl rfl rfl ?_
 refine aops_alloc zr40 rfl rfl rfl ?_
 refine aops_nil ?_
 change Awp _ _ _ _ _
 refine awp_seq ?_
 refine awp_seq ?_
 refine awp_region 7 mixed (by kernel_rfl) ?_
 refine rg_q (q_loadA (ds := [_, _]) sz31 rfl rfl rfl) ?_
 refine rg_q (q_call en86 (.cons rfl .nil) rfl (checkMatrix_p ne l n1 n2 nl wh)) ?_
 refine rg_q (q_move (x := .d (.tup _)) rfl) (rg_q (q_extract rfl rfl) (rg_q (q_extract rfl rfl) (rg_q (q_a rfl) (rg_q (q_a rfl) ?_))))
 refine rs (awp_region 2 mixed (by kernel_rfl) ?_)
 refine rg_q (q_m rfl) (rg_q (q_neq rfl rfl) ?_)
 refine rn ?_
 change Awp _ _ _ _ _
 refine awp_cond rfl (fun hc2 => ?_) (fun hc2 => ?_)
 ·
  simp at hc2
 ·
  (try simp only [nb, ne_eq] at hc2)
  refine awp_skip ?_
  change Awp _ _ _ _ _
  refine awp_seq ?_
  refine awp_region 9 mixed (by kernel_rfl) ?_
  refine rg_q (q_m rfl) (rg_q (q_m rfl) (rg_q (q_fieldAddr fld31_1 rfl) (rg_q (q_load sz29 rfl rfl) ?_)))
  refine rg_q (q_len isl29 rfl (by exact len_map _ _)) ?_
  refine rg_q (q_call en140 (.cons rfl (.cons rfl (.cons rfl .nil))) rfl ((by have h := noiseP_p s z (l.length : Int); rw [nzR_ok hE] at h; exact h))) ?_
  refine rg_q (q_move (x := .d (.tup _)) rfl) (rg_q (q_extract rfl rfl) (rg_q (q_extract rfl rfl) ?_))
  refine rg_nil ?_
  refine aops_allocD zr77 rfl sz77 rfl rfl (by exact .inl rfl) rfl rfl ?_
  refine aops_q rfl (q_a rfl) ?_
  refine aops_nil ?_
  change Awp _ _ _ _ _
  refine awp_len (t := 32) rfl (fun hl32 => ?_)
  (try simp only [List.length_map] at hl32)
  refine awp_seq ?_
  refine awp_seq ?_
  refine awp_region 2 mixed (by kernel_rfl) ?_
  refine rg_q (q_m rfl) (rg_q (q_neq rfl rfl) ?_)
  refine rn ?_
  change Awp _ _ _ _ _
  refine awp_cond rfl (fun hc5 => ?_) (fun hc5 => ?_)
  ·
   simp at hc5
  ·
   (try simp only [nb, ne_eq] at hc5)
   refine awp_skip ?_
   change Awp _ _ _ _ _
   refine awp_seq ?_
   refine awp_region 3 mixed (by kernel_rfl) ?_
   refine rg_q (q_fieldAddr fld31_0 rfl) (rg_q (q_load sz3 rfl rfl) ?_)
   refine rg_q (q_build (cs := [_, _]) pl31 zr31 rfl (.cons rfl (by exact .inl rfl) .nil) ⟨⟨rfl, by decide⟩, trivial⟩ rfl) ?_
   refine rg_nil ?_
   refine aops_alloc zr31 rfl rfl rfl ?_
   refine aops_store sz31 rfl rfl (by exact .inr ⟨_, rfl⟩) rfl rfl (by decide) rfl ?_
   refine aops_nil ?_
   change Awp _ _ _ _ _
   refine awp_seq ?_
   refine awp_seq ?_
   refine awp_region 3 mixed (by kernel_rfl) ?_
   refine rg_q (q_fieldAddr fld31_1 rfl) (rg_q (q_load sz29 rfl rfl) ?_)
   refine rg_q (q_call en141 (.cons rfl (.cons rfl .nil)) rfl (chunk_p l)) ?_
   refine rn ?_
   change Awp _ _ _ _ _
   refine awp_block ?_
   refine Awp.le (le_ownB 12 80 1 117 1 rfl rfl rfl) ?_
   refine awp_rangeFC (α := List Nat) (β := Nat × Int) (n := 81) (enc := encK) (items := chF l m) 1000 [(6, .ref 6 0), (7, .ref 7 0), (10, .d (.pt [.sl 1 ((nzL z s l.length).map iC)] 0)), (12, .ref 12 0), (46, .d (.fn (.func 216) [.pt [.sl 1 (l.map fC)] 0, .pt [.v (.int .i64 (64))] 0]))] (fun x => [(6, .box [.v (.int .i64 (0)), .v (.slice none 0 0)]), (7, .box [.v (.int .i64 (x.2))]), (12, .tbox [.d (.v (.int .i64 (ne))), .rs 80]), (80, .row 117 1 ((nyF l (nzL z s l.length) (64 * x.1)).map nfC))]) (fun k x => x.1 = k ∧ x.2 = 0 ∧ (nyF l (nzL z s l.length) (64 * k)).any bigB = false) (fun e x => e = Exit.ret ∧ x.2 = 8) (0, 0) hrnd ?_ (.inr ⟨rfl, rfl⟩) en216 (chunk_i l m hm (by omega)) rfl (fun _ => rfl) rfl (fun x => fsl_mem (fsl_cons (fst_box (by repeat first | exact trivial | refine ⟨.v _, ?_⟩)) (fsl_cons (fst_box (by repeat first | exact trivial | refine ⟨.v _, ?_⟩)) (fsl_cons (fst_tbox (by repeat (first | exact ftl_nil | refine ftl_cons (by first | exact D.Flat.v _ | trivial) ?_))) (fsl_cons (nf_flat _) fsl_nil))))) (fun _ => rfl) ⟨rfl, rfl, rfl⟩ (fun h => by cases h) ?_ ?_ ?_
   · exact le_cst (fun k => k) _ _ rfl ⟨(by first | rfl), (by first | rfl), (by first | rfl), (by first | rfl), (by first | rfl), trivial⟩ ⟨(by first | rfl), (by first | rfl), (by first | rfl), (by first | rfl), trivial⟩ rfl (fun k b h => by rw [hpn k] at h; cases h)
   ·
    intro w1 hw1 k x y hI hy
    obtain ⟨h1, hv0, hf⟩ := hI
    obtain ⟨x, e0⟩ := x
    simp only at h1 hv0
    subst h1 hv0
    obtain ⟨hlt, rfl⟩ := chF_at hy
    have hlk := chK_len hm hlt
    have hSl := nyC_len l (nzL z s l.length) x
    have hFl := nyF_len l (nzL z s l.length) (64 * x)
    have hFl2 : ((nyF l (nzL z s l.length) (64 * x)).map nfC).length = 64 * x := by rw [List.length_map, hFl]
    have hFl3 : ((nyF l (nzL z s l.length) (64 * (x, (0 : Int)).1)).map nfC).length = 64 * x := hFl2
    have hzl := nzL_len z s l.length
    have hs1 : (nyF l (nzL z s l.length) (64 * x)).map nfC ++ (nyC l (nzL z s l.length) x).map nfC = (nyF l (nzL z s l.length) (64 * (x + 1))).map nfC := by rw [nyF_chunk, List.map_append]
    have han := ny_any hf
    refine awp_region 1 mixed (by kernel_rfl) ?_
    refine rg_q (q_assign (x := .d (.sl _ _)) rfl) ?_
    refine rn ?_
    refine ⟨rfl, fun w2 hw2 => ?_⟩
    refine awp_block ?_
    refine awp_seq ?_
    refine awp_region 0 mixed (by kernel_rfl) ?_
    refine rg_nil ?_
    refine aops_alloc zr234 rfl rfl rfl ?_
    refine aops_nil ?_
    change Awp _ _ _ _ _
    refine awp_seq ?_
    refine awp_seq ?_
    refine awp_region 4 mixed (by kernel_rfl) ?_
    refine rg_q (q_move (x := .d (.sl _ _)) rfl) ?_
    refine rg_q (q_toArr (cs := (chK l x).map fd) ar236 rfl (fd_row _).symm (by rw [List.length_map]; exact hlk) (by decide)) ?_
    refine rg_q (q_loadA (ds := (chK l x).map fd) sz236 rfl (by rw [List.drop_zero]; exact List.take_of_length_le (by rw [List.length_map, hlk]; exact Nat.le_refl _)) (by rw [List.length_map]; exact hlk)) ?_
    refine rg_q (q_m rfl) ?_
    refine rn ?_
    change Awp _ _ _ _ _
    refine awp_block ?_
    refine awp_loopH [15, 16, 51, 52, 53, 54, 55, 56, 57, 58, 59, 60, 61, 62, 63, 64, 65, 66, 67, 68] [14] (α := Nat) (fun j => [(51, T.i (j : Int))]) (fun j => [(14, .box (outN (nyC l (nzL z s l.length) x) j))]) (fun j => j ≤ 64) (fun j => 64 - j) 0 (Nat.zero_le _) ?_ ?_
    · exact le_head (ms := [14]) (by repeat (exact Out.refl _)) ⟨(by rfl), trivial⟩ ⟨(by rfl), trivial⟩ rfl rfl rfl rfl
    ·
     intro j hj0
     refine awp_seq ?_
     refine awp_region 1 mixed (by kernel_rfl) ?_
     refine rg_q (q_lss rfl rfl) ?_
     refine rn ?_
     change Awp _ _ _ _ _
     refine awp_seq ?_
     refine awp_cond rfl (fun hc12 => ?_) (fun hc12 => ?_)
     ·
      (try simp only [nb, ne_eq] at hc12)
      have hj : j < 64 := by omega
      have hkl : 64 * x + j < l.length := by omega
      obtain ⟨b, hb⟩ : ∃ b, l[64 * x + j]? = some b := ⟨_, List.getElem?_eq_getElem hkl⟩
      obtain ⟨u, hu⟩ : ∃ u, (nzL z s l.length)[64 * x + j]? = some u := ⟨_, List.getElem?_eq_getElem (by omega)⟩
      have hwb := wh b (List.mem_of_getElem? hb)
      have hw1 := hwb.lo
      have hw2 := hwb.hi
      have hub := nzL_in hE u (List.mem_of_getElem? hu)
      have hck : (chK l x)[j]? = some b := by
       unfold chK
       rw [List.getElem?_drop, List.getElem?_take_of_lt (by omega)]; exact hb
      have hidx : ((chK l x).map fd)[((j : Int)).toNat]? = some (fd b) := by rw [Int.toNat_natCast, List.getElem?_map, hck]; rfl
      have hst := outN_set hSl (nyC_at l (nzL z s l.length) x hj)
      rw [nyV_of hb hu] at hst
      have hol := outN_len (k := j) hSl (by omega)
      refine awp_skip ?_
      change Awp _ _ _ _ _
      refine awp_seq ?_
      refine awp_block ?_
      refine awp_seq ?_
      refine awp_region 4 mixed (by kernel_rfl) ?_
      refine rg_q (q_m rfl) ?_
      refine rg_q (q_index_ar ar236 sz117 rfl rfl (by omega) (by omega) hidx) ?_
      refine rg_q (q_a rfl) (rg_q (q_a rfl) ?_)
      refine rn ?_
      change Awp _ _ _ _ _
      refine awp_region 13 mixed (by kernel_rfl) ?_
      refine rg_q (q_m rfl) (rg_q (q_m rfl) ?_)
      refine rg_q (q_convfi flt117 int3 rfl hwb.int) ?_
      refine rg_q (q_load sz77 rfl rfl) (rg_q (q_fieldAddr_ref fld31_1 rfl) ?_)
      refine rg_q (q_load_tb (x := .rs _) sz29 rfl rfl rfl) ?_
      refine rg_q (q_len_rs isl29 rfl rfl) ?_
      refine rg_q (q_m rfl) ?_
      refine rg_q (q_add rfl rfl (In64.mk (by omega) (by omega))) ?_
      refine rg_q (q_indexAddr sl77 rfl rfl (by omega) (map_at (k := 64 * x + j) (by omega) hu)) ?_
      refine rg_q (q_load sz3 rfl rfl) ?_
      refine rg_q (q_add rfl rfl (In64.mk (by omega) (by omega))) ?_
      refine rg_q (q_indexAddr_aref ar234 rfl rfl (by omega) (by omega)) ?_
      refine rg_nil ?_
      refine aops_store (cs' := outN (nyC l (nzL z s l.length) x) (j + 1)) sz3 rfl rfl (by exact .inl rfl) rfl rfl (by rw [hol]; omega) hst ?_
      refine aops_nil ?_
      change Awp _ _ _ _ _
      skip
      (try simp only [List.length_map] at hl60)
      refine awp_region 2 mixed (by kernel_rfl) ?_
      refine rg_q (q_add rfl rfl (In64.mk (by omega) (by omega))) ?_
      refine rg_q (q_m rfl) ?_
      refine rn ?_
      refine ⟨j + 1, by omega, by omega, ?_⟩
      exact le_head (ms := [14]) (by repeat (first | exact Out.head rfl rfl | (refine Out.put ?_ rfl) | (refine Out.site ?_ rfl))) ⟨(by rfl), trivial⟩ ⟨(by rfl), trivial⟩ rfl rfl rfl rfl
     ·
      (try simp only [nb, ne_eq] at hc12)
      have hj64 : j = 64 := by omega
      subst hj64
      rw [outN_all hSl]
      refine awp_exit ?_
      change Awp _ _ _ _ _
      refine awp_seq ?_
      refine awp_seq ?_
      refine awp_region 2 mixed (by kernel_rfl) ?_
      refine rg_q (q_callF en142 (.cons (by exact .ref rfl) .nil) rfl (tooLarge_p _ (by assumption)) (by exact .v _)) ?_
      refine rg_q (q_a rfl) ?_
      refine rs (awp_region 2 mixed (by kernel_rfl) ?_)
      refine rg_q (q_m rfl) (rg_q (q_neq rfl rfl) ?_)
      refine rn ?_
      change Awp _ _ _ _ _
      refine awp_cond rfl (fun hc17 => ?_) (fun hc17 => ?_)
      ·
       (try simp only [nb, ne_eq] at hc17)
       have hb := when80 hc17
       have h8 := whenI_t hb
       rw [h8]
       refine awp_seq ?_
       refine awp_region 2 mixed (by kernel_rfl) ?_
       refine rg_q (q_build (cs := [_, _]) pl31 zr31 rfl .nil trivial rfl) ?_
       refine rg_q (q_m rfl) ?_
       refine rg_nil ?_
       refine aops_store sz31 rfl rfl (by exact .inr ⟨_, rfl⟩) rfl rfl (by decide) rfl ?_
       refine aops_store sz40 rfl rfl (by exact .inl rfl) rfl rfl (by simp; done) rfl ?_
       refine aops_nil ?_
       change Awp _ _ _ _ _
       refine awp_ret ?_
       refine .inr ⟨rfl, (x, 8), ⟨rfl, rfl⟩, ?_⟩
       exact le_round [] _ hw2 rfl ⟨(by rfl), (by rfl), (by rfl), (by rfl), trivial⟩ rfl
      ·
       (try simp only [nb, ne_eq] at hc17)
       have hb := when81 hc17
       refine awp_skip ?_
       change Awp _ _ _ _ _
       refine awp_seq ?_
       refine awp_region 1 mixed (by kernel_rfl) ?_
       refine rg_q (q_callF en143 (.cons (by exact .ref rfl) .nil) rfl (trace_p _ (by assumption)) (by exact D.Flat.aggF (by repeat first | exact trivial | refine ⟨.v _, ?_⟩))) ?_
       refine rg_nil ?_
       refine aops_allocD zr236 rfl sz236 rfl rfl (by exact .inr ⟨_, rfl⟩) (by show ((nyC l (nzL z s l.length) x).map fv).length = 64; rw [List.length_map, nyC_len]) rfl ?_
       refine aops_nil ?_
       change Awp _ _ _ _ _
       refine awp_early (i := 4) mixed rfl (by kernel_rfl) fld31_1 rfl ?_
       refine any_regionC 6 [0, 1, 3, 5] [1080, 1012] (by kernel_rfl) ?_
       refine rgc_c rfl rfl (c_q (q_fieldAddr_ref fld31_1 rfl)) ?_
       refine rgc_c rfl rfl (c_q (q_load_tb (x := .rs _) sz29 rfl rfl rfl)) ?_
       refine rgc_q rfl (q_sliceP (es := (nyC l (nzL z s l.length) x).map nfC) ar236 rfl (by show ((nyC l (nzL z s l.length) x).map fv).length = 64; rw [List.length_map, nyC_len]) (by decide) (by decide) (by show (((nyC l (nzL z s l.length) x).map fv).map fun d => [d]) = _; exact nyC_row _ _ _)) rfl ?_
       refine rgc_c rfl rfl (c_append (es' := (nyF l (nzL z s l.length) (64 * (x + 1))).map nfC) sl29 zr117 by117 rfl (by decide) rfl rfl rfl rfl (by (try simp only [List.length_map, List.length_append, List.length_cons, List.length_nil]); omega) (by (try simp only [List.length_map, List.length_append, List.length_cons, List.length_nil]); omega) hs1) ?_
       refine rgc_q rfl (q_move (x := .d (.v (.bool true))) rfl) rfl ?_
       refine rgc_c rfl rfl ((c_storeR sz29 rfl rfl rfl (by simp) rfl)) ?_
       refine rgc_nil ?_
       refine aops_nil ?_
       refine ⟨rfl, ?_⟩
       refine .inl ⟨rfl, (x + 1, 0), ⟨rfl, rfl, han.trans hb⟩, ?_⟩
       exact le_round [] _ hw2 rfl ⟨(by rfl), (by rfl), (by rfl), (by rfl), trivial⟩ rfl
   ·
    intro x hI
    obtain ⟨_, _, hf⟩ := hI
    have e : (chF l m).length = m := by unfold chF; rw [List.length_map, List.length_range]
    rw [e, hB] at hf
    cases hf
   ·
    rintro e x (⟨rfl, hX⟩)
    ·
     refine ⟨_, (.cons (.cellA rfl rfl sz31 rfl) (.cons (.cell1 rfl rfl sz40) .nil)), ?_⟩
     rw [hX]; rfl
set_option maxRecDepth 100000 in
theorem noisyOk_p (ne : Int) (l : List Nat) (s z : Int) (n1 : 1 ≤ ne) (n2 : ne ≤ 16) (nl : (l.length : Int) = ne * ne * 64) (wh : WhlL l) (m : Nat) (hm : l.length = 64 * m) (hm2 : m ≤ 256) (hE : nzE s z l.length = 0) (hB : (nyF l (nzL z s l.length) (64 * m)).any bigB = false) : PC Tryz.prog 72 [.agg (mtxC ne l), .v (.int .i64 (s)), .v (.int .i64 (z))] (.tup [.agg (nmC ne (nyF l (nzL z s l.length) (64 * m))), .v (.int .i64 (0))]) := by
 refine pc_of_awpN Tryz.func72 rfl Tryz.ntmps72 (rs := [.cell 6 31, .cell 7 40]) Tryz.results72 (by simp) fun w0 hmine hrnd hpn => ?_
 refine awp_seq ?_
 refine awp_region 1 mixed (by kernel_rfl) ?_
 refine rg_q (q_box rfl (by exact .inr ⟨_, rfl⟩)) ?_
 refine rg_nil ?_
 refine aops_alloc zr31 rfl rfl rfl ?_
 refine aops_alloc zr40 rfl rfl rfl ?_
 refine aops_nil ?_
 change Awp _ _ _ _ _
 refine awp_seq ?_
 refine awp_seq ?_
 refine awp_region 7 mixed (by kernel_rfl) ?_
 refine rg_q (q_loadA (ds := [_, _]) sz31 rfl rfl rfl) ?_
 refine rg_q (q_call en86 (.cons rfl .nil) rfl (checkMatrix_p ne l n1 n2 nl wh)) ?_
 refine rg_q (q_move (x := .d (.tup _)) rfl) (rg_q (q_extract rfl rfl) (rg_q (q_extract rfl rfl) (rg_q (q_a rfl) (rg_q (q_a rfl) ?_))))
 refine rs (awp_region 2 mixed (by kernel_rfl) ?_)
 refine rg_q (q_m rfl) (rg_q (q_neq rfl rfl) ?_)
 refine rn ?_
 change Awp _ _ _ _ _
 refine awp_cond rfl (fun hc2 => ?_) (fun hc2 => ?_)
 ·
  simp at hc2
 ·
  (try simp only [nb, ne_eq] at hc2)
  refine awp_skip ?_
  change Awp _ _ _ _ _
  refine awp_seq ?_
  refine awp_region 9 mixed (by kernel_rfl) ?_
  refine rg_q (q_m rfl) (rg_q (q_m rfl) (rg_q (q_fieldAddr fld31_1 rfl) (rg_q (q_load sz29 rfl rfl) ?_)))
  refine rg_q (q_len isl29 rfl (by exact len_map _ _)) ?_
  refine rg_q (q_call en140 (.cons rfl (.cons rfl (.cons rfl .nil))) rfl ((by have h := noiseP_p s z (l.length : Int); rw [nzR_ok hE] at h; exact h))) ?_
  refine rg_q (q_move (x := .d (.tup _)) rfl) (rg_q (q_extract rfl rfl) (rg_q (q_extract rfl rfl) ?_))
  refine rg_nil ?_
  refine aops_allocD zr77 rfl sz77 rfl rfl (by exact .inl rfl) rfl rfl ?_
  refine aops_q rfl (q_a rfl) ?_
  refine aops_nil ?_
  change Awp _ _ _ _ _
  refine awp_len (t := 32) rfl (fun hl32 => ?_)
  (try simp only [List.length_map] at hl32)
  refine awp_seq ?_
  refine awp_seq ?_
  refine awp_region 2 mixed (by kernel_rfl) ?_
  refine rg_q (q_m rfl) (rg_q (q_neq rfl rfl) ?_)
  refine rn ?_
  change Awp _ _ _ _ _
  refine awp_cond rfl (fun hc5 => ?_) (fun hc5 => ?_)
  ·
   simp at hc5
  ·
   (try simp only [nb, ne_eq] at hc5)
   refine awp_skip ?_
   change Awp _ _ _ _ _
   refine awp_seq ?_
   refine awp_region 3 mixed (by kernel_rfl) ?_
   refine rg_q (q_fieldAddr fld31_0 rfl) (rg_q (q_load sz3 rfl rfl) ?_)
   refine rg_q (q_build (cs := [_, _]) pl31 zr31 rfl (.cons rfl (by exact .inl rfl) .nil) ⟨⟨rfl, by decide⟩, trivial⟩ rfl) ?_
   refine rg_nil ?_
   refine aops_alloc zr31 rfl rfl rfl ?_
   refine aops_store sz31 rfl rfl (by exact .inr ⟨_, rfl⟩) rfl rfl (by decide) rfl ?_
   refine aops_nil ?_
   change Awp _ _ _ _ _
   refine awp_seq ?_
   refine awp_seq ?_
   refine awp_region 3 mixed (by kernel_rfl) ?_
   refine rg_q (q_fieldAddr fld31_1 rfl) (rg_q (q_load sz29 rfl rfl) ?_)
   refine rg_q (q_call en141 (.cons rfl (.cons rfl .nil)) rfl (chunk_p l)) ?_
   refine rn ?_
   change Awp _ _ _ _ _
   refine awp_block ?_
   refine Awp.le (le_ownB 12 80 1 117 1 rfl rfl rfl) ?_
   refine awp_rangeFC (α := List Nat) (β := Nat × Int) (n := 81) (enc := encK) (items := chF l m) 1000 [(6, .ref 6 0), (7, .ref 7 0), (10, .d (.pt [.sl 1 ((nzL z s l.length).map iC)] 0)), (12, .ref 12 0), (46, .d (.fn (.func 216) [.pt [.sl 1 (l.map fC)] 0, .pt [.v (.int .i64 (64))] 0]))] (fun x => [(6, .box [.v (.int .i64 (0)), .v (.slice none 0 0)]), (7, .box [.v (.int .i64 (x.2))]), (12, .tbox [.d (.v (.int .i64 (ne))), .rs 80]), (80, .row 117 1 ((nyF l (nzL z s l.length) (64 * x.1)).map nfC))]) (fun k x => x.1 = k ∧ x.2 = 0 ∧ (nyF l (nzL z s l.length) (64 * k)).any bigB = false) (fun e x => False) (0, 0) hrnd ?_ (.inr ⟨rfl, rfl⟩) en216 (chunk_i l m hm (by omega)) rfl (fun _ => rfl) rfl (fun x => fsl_mem (fsl_cons (fst_box (by repeat first | exact trivial | refine ⟨.v _, ?_⟩)) (fsl_cons (fst_box (by repeat first | exact trivial | refine ⟨.v _, ?_⟩)) (fsl_cons (fst_tbox (by repeat (first | exact ftl_nil | refine ftl_cons (by first | exact D.Flat.v _ | trivial) ?_))) (fsl_cons (nf_flat _) fsl_nil))))) (fun _ => rfl) ⟨rfl, rfl, rfl⟩ (fun h => by cases h) ?_ ?_ ?_
   · exact le_cst (fun k => k) _ _ rfl ⟨(by first | rfl), (by first | rfl), (by first | rfl), (by first | rfl), (by first | rfl), trivial⟩ ⟨(by first | rfl), (by first | rfl), (by first | rfl), (by first | rfl), trivial⟩ rfl (fun k b h => by rw [hpn k] at h; cases h)
   ·
    intro w1 hw1 k x y hI hy
    obtain ⟨h1, hv0, hf⟩ := hI
    obtain ⟨x, e0⟩ := x
    simp only at h1 hv0
    subst h1 hv0
    obtain ⟨hlt, rfl⟩ := chF_at hy
    have hlk := chK_len hm hlt
    have hSl := nyC_len l (nzL z s l.length) x
    have hFl := nyF_len l (nzL z s l.length) (64 * x)
    have hFl2 : ((nyF l (nzL z s l.length) (64 * x)).map nfC).length = 64 * x := by rw [List.length_map, hFl]
    have hFl3 : ((nyF l (nzL z s l.length) (64 * (x, (0 : Int)).1)).map nfC).length = 64 * x := hFl2
    have hzl := nzL_len z s l.length
    have hs1 : (nyF l (nzL z s l.length) (64 * x)).map nfC ++ (nyC l (nzL z s l.length) x).map nfC = (nyF l (nzL z s l.length) (64 * (x + 1))).map nfC := by rw [nyF_chunk, List.map_append]
    have han := ny_any hf
    refine awp_region 1 mixed (by kernel_rfl) ?_
    refine rg_q (q_assign (x := .d (.sl _ _)) rfl) ?_
    refine rn ?_
    refine ⟨rfl, fun w2 hw2 => ?_⟩
    refine awp_block ?_
    refine awp_seq ?_
    refine awp_region 0 mixed (by kernel_rfl) ?_
    refine rg_nil ?_
    refine aops_alloc zr234 rfl rfl rfl ?_
    refine aops_nil ?_
    change Awp _ _ _ _ _
    refine awp_seq ?_
    refine awp_seq ?_
    refine awp_region 4 mixed (by kernel_rfl) ?_
    refine rg_q (q_move (x := .d (.sl _ _)) rfl) ?_
    refine rg_q (q_toArr (cs := (chK l x).map fd) ar236 rfl (fd_row _).symm (by rw [List.length_map]; exact hlk) (by decide)) ?_
    refine rg_q (q_loadA (ds := (chK l x).map fd) sz236 rfl (by rw [List.drop_zero]; exact List.take_of_length_le (by rw [List.length_map, hlk]; exact Nat.le_refl _)) (by rw [List.length_map]; exact hlk)) ?_
    refine rg_q (q_m rfl) ?_
    refine rn ?_
    change Awp _ _ _ _ _
    refine awp_block ?_
    refine awp_loopH [15, 16, 51, 52, 53, 54, 55, 56, 57, 58, 59, 60, 61, 62, 63, 64, 65, 66, 67, 68] [14] (α := Nat) (fun j => [(51, T.i (j : Int))]) (fun j => [(14, .box (outN (nyC l (nzL z s l.length) x) j))]) (fun j => j ≤ 64) (fun j => 64 - j) 0 (Nat.zero_le _) ?_ ?_
    · exact le_head (ms := [14]) (by repeat (exact Out.refl _)) ⟨(by rfl), trivial⟩ ⟨(by rfl), trivial⟩ rfl rfl rfl rfl
    ·
     intro j hj0
     refine awp_seq ?_
     refine awp_region 1 mixed (by kernel_rfl) ?_
     refine rg_q (q_lss rfl rfl) ?_
     refine rn ?_
     change Awp _ _ _ _ _
     refine awp_seq ?_
     refine awp_cond rfl (fun hc12 => ?_) (fun hc12 => ?_)
     ·
      (try simp only [nb, ne_eq] at hc12)
      have hj : j < 64 := by omega
      have hkl : 64 * x + j < l.length := by omega
      obtain ⟨b, hb⟩ : ∃ b, l[64 * x + j]? = some b := ⟨_, List.getElem?_eq_getElem hkl⟩
      obtain ⟨u, hu⟩ : ∃ u, (nzL z s l.length)[64 * x + j]? = some u := ⟨_, List.getElem?_eq_getElem (by omega)⟩
      have hwb := wh b (List.mem_of_getElem? hb)
      have hw1 := hwb.lo
      have hw2 := hwb.hi
      have hub := nzL_in hE u (List.mem_of_getElem? hu)
      have hck : (chK l x)[j]? = some b := by
       unfold chK
       rw [List.getElem?_drop, List.getElem?_take_of_lt (by omega)]; exact hb
      have hidx : ((chK l x).map fd)[((j : Int)).toNat]? = some (fd b) := by rw [Int.toNat_natCast, List.getElem?_map, hck]; rfl
      have hst := outN_set hSl (nyC_at l (nzL z s l.length) x hj)
      rw [nyV_of hb hu] at hst
      have hol := outN_len (k := j) hSl (by omega)
      refine awp_skip ?_
      change Awp _ _ _ _ _
      refine awp_seq ?_
      refine awp_block ?_
      refine awp_seq ?_
      refine awp_region 4 mixed (by kernel_rfl) ?_
      refine rg_q (q_m rfl) ?_
      refine rg_q (q_index_ar ar236 sz117 rfl rfl (by omega) (by omega) hidx) ?_
      refine rg_q (q_a rfl) (rg_q (q_a rfl) ?_)
      refine rn ?_
      change Awp _ _ _ _ _
      refine awp_region 13 mixed (by kernel_rfl) ?_
      refine rg_q (q_m rfl) (rg_q (q_m rfl) ?_)
      refine rg_q (q_convfi flt117 int3 rfl hwb.int) ?_
      refine rg_q (q_load sz77 rfl rfl) (rg_q (q_fieldAddr_ref fld31_1 rfl) ?_)
      refine rg_q (q_load_tb (x := .rs _) sz29 rfl rfl rfl) ?_
      refine rg_q (q_len_rs isl29 rfl rfl) ?_
      refine rg_q (q_m rfl) ?_
      refine rg_q (q_add rfl rfl (In64.mk (by omega) (by omega))) ?_
      refine rg_q (q_indexAddr sl77 rfl rfl (by omega) (map_at (k := 64 * x + j) (by omega) hu)) ?_
      refine rg_q (q_load sz3 rfl rfl) ?_
      refine rg_q (q_add rfl rfl (In64.mk (by omega) (by omega))) ?_
      refine rg_q (q_indexAddr_aref ar234 rfl rfl (by omega) (by omega)) ?_
      refine rg_nil ?_
      refine aops_store (cs' := outN (nyC l (nzL z s l.length) x) (j + 1)) sz3 rfl rfl (by exact .inl rfl) rfl rfl (by rw [hol]; omega) hst ?_
      refine aops_nil ?_
      change Awp _ _ _ _ _
      skip
      (try simp only [List.length_map] at hl60)
      refine awp_region 2 mixed (by kernel_rfl) ?_
      refine rg_q (q_add rfl rfl (In64.mk (by omega) (by omega))) ?_
      refine rg_q (q_m rfl) ?_
      refine rn ?_
      refine ⟨j + 1, by omega, by omega, ?_⟩
      exact le_head (ms := [14]) (by repeat (first | exact Out.head rfl rfl | (refine Out.put ?_ rfl) | (refine Out.site ?_ rfl))) ⟨(by rfl), trivial⟩ ⟨(by rfl), trivial⟩ rfl rfl rfl rfl
     ·
      (try simp only [nb, ne_eq] at hc12)
      have hj64 : j = 64 := by omega
      subst hj64
      rw [outN_all hSl]
      refine awp_exit ?_
      change Awp _ _ _ _ _
      refine awp_seq ?_
      refine awp_seq ?_
      refine awp_region 2 mixed (by kernel_rfl) ?_
      refine rg_q (q_callF en142 (.cons (by exact .ref rfl) .nil) rfl (tooLarge_p _ (by assumption)) (by exact .v _)) ?_
      refine rg_q (q_a rfl) ?_
      refine rs (awp_region 2 mixed (by kernel_rfl) ?_)
      refine rg_q (q_m rfl) (rg_q (q_neq rfl rfl) ?_)
      refine rn ?_
      change Awp _ _ _ _ _
      refine awp_cond rfl (fun hc17 => ?_) (fun hc17 => ?_)
      ·
       exfalso
       have hb := when80 (of_decide_eq_true hc17)
       rw [← han, ny_up (show 64 * (x + 1) ≤ 64 * m by omega) hB] at hb
       cases hb
      ·
       (try simp only [nb, ne_eq] at hc17)
       have hb := when81 hc17
       refine awp_skip ?_
       change Awp _ _ _ _ _
       refine awp_seq ?_
       refine awp_region 1 mixed (by kernel_rfl) ?_
       refine rg_q (q_callF en143 (.cons (by exact .ref rfl) .nil) rfl (trace_p _ (by assumption)) (by exact D.Flat.aggF (by repeat first | exact trivial | refine ⟨.v _, ?_⟩))) ?_
       refine rg_nil ?_
       refine aops_allocD zr236 rfl sz236 rfl rfl (by exact .inr ⟨_, rfl⟩) (by show ((nyC l (nzL z s l.length) x).map fv).length = 64; rw [List.length_map, nyC_len]) rfl ?_
       refine aops_nil ?_
       change Awp _ _ _ _ _
       refine awp_early (i := 4) mixed rfl (by kernel_rfl) fld31_1 rfl ?_
       refine any_regionC 6 [0, 1, 3, 5] [1080, 1012] (by kernel_rfl) ?_
       refine rgc_c rfl rfl (c_q (q_fieldAddr_ref fld31_1 rfl)) ?_
       refine rgc_c rfl rfl (c_q (q_load_tb (x := .rs _) sz29 rfl rfl rfl)) ?_
       refine rgc_q rfl (q_sliceP (es := (nyC l (nzL z s l.length) x).map nfC) ar236 rfl (by show ((nyC l (nzL z s l.length) x).map fv).length = 64; rw [List.length_map, nyC_len]) (by decide) (by decide) (by show (((nyC l (nzL z s l.length) x).map fv).map fun d => [d]) = _; exact nyC_row _ _ _)) rfl ?_
       refine rgc_c rfl rfl (c_append (es' := (nyF l (nzL z s l.length) (64 * (x + 1))).map nfC) sl29 zr117 by117 rfl (by decide) rfl rfl rfl rfl (by (try simp only [List.length_map, List.length_append, List.length_cons, List.length_nil]); omega) (by (try simp only [List.length_map, List.length_append, List.length_cons, List.length_nil]); omega) hs1) ?_
       refine rgc_q rfl (q_move (x := .d (.v (.bool true))) rfl) rfl ?_
       refine rgc_c rfl rfl ((c_storeR sz29 rfl rfl rfl (by simp) rfl)) ?_
       refine rgc_nil ?_
       refine aops_nil ?_
       refine ⟨rfl, ?_⟩
       refine .inl ⟨rfl, (x + 1, 0), ⟨rfl, rfl, han.trans hb⟩, ?_⟩
       exact le_round [] _ hw2 rfl ⟨(by rfl), (by rfl), (by rfl), (by rfl), trivial⟩ rfl
   ·
    intro x hI
    obtain ⟨h1, hv0, hf⟩ := hI
    obtain ⟨x, e0⟩ := x
    simp only at h1 hv0
    have e : (chF l m).length = m := by unfold chF; rw [List.length_map, List.length_range]
    rw [e] at h1
    subst h1 hv0
    change Awp _ _ _ _ _
    refine awp_seq ?_
    refine Awp.le (le_freezeTB 12 80 1 rfl rfl rfl rfl hmine) ?_
    refine Awp.le (le_boxT 12 (nmC ne (nyF l (nzL z s l.length) (64 * x))) rfl rfl (by intro j d h; match j, h with | 0, h => cases h; rfl | 1, h => cases h; rfl)) ?_
    refine awp_region 1 mixed (by kernel_rfl) ?_
    refine rg_q (q_load_refA (ds := [_, _]) sz31 rfl rfl rfl rfl) ?_
    refine rg_nil ?_
    refine aops_store sz31 rfl rfl (by exact .inr ⟨_, rfl⟩) rfl rfl (by decide) rfl ?_
    refine aops_store sz40 rfl rfl (by exact .inl rfl) rfl rfl (by simp; done) rfl ?_
    refine aops_nil ?_
    change Awp _ _ _ _ _
    refine awp_ret ?_
    refine ⟨_, (.cons (.cellA rfl rfl sz31 rfl) (.cons (.cell1 rfl rfl sz40) .nil)), ?_⟩
    rfl
   ·
    exact fun e x h => h.elim
end Go.Proofs.YtamaocfjknpadaaGreat.Am.M
-- mini
namespace Go.Proofs.YtamaocfjknpadaaGreat.Am.M
open Go

theorem nm_mtx (ne : Int) (S : List Int) : nmC ne S = mtxC ne (S.map FloatKind.f32.nearest) := by
  unfold nmC mtxC
  rw [List.map_map]; rfl
theorem vI_fn {v : Int} (h1 : -2047 ≤ v) (h2 : v ≤ 2047) : vI (FloatKind.f32.nearest v) = v := (whl_fn h1 h2).v
def nyZ (t : Tsk) (p : Int × Int) : List Int := nzL p.2 p.1 t.bf.length
def nyS (t : Tsk) (p : Int × Int) : List Int := nyF t.bf (nyZ t p) t.bf.length
def nyT (t : Tsk) (p : Int × Int) : Tsk := ⟨t.ar, t.ne, (nyS t p).map FloatKind.f32.nearest, t.g⟩
theorem nyS_len (t : Tsk) (p : Int × Int) : (nyS t p).length = t.bf.length := nyF_len _ _ _
theorem nyS_in {t : Tsk} {p : Int × Int} (hB : (nyS t p).any bigB = false) : ∀ v ∈ nyS t p, -2047 ≤ v ∧ v ≤ 2047 := fun v hv => by
  have := List.any_eq_false.1 hB v hv
  unfold bigB at this
  simp only [Bool.not_eq_true', Bool.not_eq_false] at this
  exact inR_iff.1 this
theorem nyT_ok {t : Tsk} {p : Int × Int} (h : TskOk t) (hB : (nyS t p).any bigB = false) : TskOk (nyT t p) := by
  refine ⟨h.ck, h.n1, h.n2, ?_, ?_, h.el, h.gr, h.z1, h.z2, h.z3, h.z4⟩
  · show (((nyS t p).map FloatKind.f32.nearest).length : Int) = _
    rw [List.length_map, nyS_len]; exact h.nl
  · intro b hb
    obtain ⟨v, hv, rfl⟩ := List.mem_map.1 hb
    obtain ⟨h1, h2⟩ := nyS_in hB v hv
    rw [vI_fn h1 h2]
    exact whl_fn h1 h2
theorem nyB_in {t : Tsk} {p : Int × Int} (hE : nzE p.1 p.2 t.bf.length = 0) : ∀ u ∈ nyZ t p, -p.2 ≤ u ∧ u ≤ p.2 := by
  obtain ⟨b1, b2, _⟩ := nzE_zero.1 hE
  intro u hu
  unfold nyZ nzL at hu
  obtain ⟨k, _, rfl⟩ := List.mem_map.1 hu
  exact nzV_in (nzS_in b1 (k + 1)) b2.1
theorem sAt_bd {b : List Nat} {z : Int} (hz : 0 ≤ z) (h : ∀ x ∈ b, -z ≤ vI x ∧ vI x ≤ z) (m k : Nat) : -z ≤ sAt ((chK b m).map vI) k ∧ sAt ((chK b m).map vI) k ≤ z := by
  unfold sAt
  rw [List.getD_eq_getElem?_getD]
  cases hx : ((chK b m).map vI)[k]? with
  | none => exact ⟨by show -z ≤ 0; omega, by show 0 ≤ z; omega⟩
  | some v =>
    obtain ⟨x, hx1, rfl⟩ := List.mem_map.1 (List.mem_of_getElem? hx)
    unfold chK at hx1
    exact h x (List.mem_of_mem_take (List.mem_of_mem_drop hx1))
theorem vl_cnt {t : Tsk} {c M : Int} : ∀ l : List (Int × Int), (∀ y k, (-M ≤ reI (smpS t y) k ∧ reI (smpS t y) k ≤ M) ∧ -M ≤ imI (smpS t y) k ∧ imI (smpS t y) k ≤ M) →
    (-(M * (vlA t c [] l).2) ≤ (vlA t c [] l).1.1 ∧ (vlA t c [] l).1.1 ≤ M * (vlA t c [] l).2) ∧ -(M * (vlA t c [] l).2) ≤ (vlA t c [] l).1.2 ∧ (vlA t c [] l).1.2 ≤ M * (vlA t c [] l).2
  | [], _ => by
    have e : vlA t c [] [] = ((0, 0), 0) := rfl
    rw [e]
    simp only [Int.mul_zero]
    decide
  | y :: l, h => by
    have ih := vl_cnt (c := c) l h
    obtain ⟨⟨h1, h2⟩, h3, h4⟩ := h y (smpI t.ar (spI t.g c) y).toNat
    rw [vlA_cons, vlF_nil]
    by_cases q : inR 0 (smpI t.ar (spI t.g c) y) 60 = true
    · rw [if_pos q]
      simp only [Int.mul_add, Int.mul_zero, Int.mul_one, Int.zero_add] at ih ⊢
      omega
    · rw [if_neg q]
      simp only [Int.zero_add]
      exact ih
theorem vl_num {ar : Arr} {ne : Int} {g : Grd} {a b : List Nat} (c : Int) : ∀ l : List (Int × Int), (vlA ⟨ar, ne, a, g⟩ c [] l).2 = (vlA ⟨ar, ne, b, g⟩ c [] l).2
  | [] => rfl
  | y :: l => by
    have ih := vl_num (ar := ar) (ne := ne) (g := g) (a := a) (b := b) c l
    rw [vlA_cons, vlA_cons, vlF_nil, vlF_nil]
    by_cases q : inR 0 (smpI ar (spI g c) y) 60 = true
    · rw [if_pos q, if_pos q]
      simp only
      omega
    · rw [if_neg q, if_neg q]
      simp only
      omega
theorem vl_nn {t : Tsk} (c : Int) : ∀ l : List (Int × Int), 0 ≤ (vlA t c [] l).2 ∧ (vlA t c [] l).2 ≤ (l.length : Int)
  | [] => by
    have e : vlA t c [] [] = ((0, 0), 0) := rfl
    rw [e]; decide
  | y :: l => by
    have ih := vl_nn (t := t) c l
    rw [vlA_cons, vlF_nil, List.length_cons]
    by_cases q : inR 0 (smpI t.ar (spI t.g c) y) 60 = true
    · rw [if_pos q]; simp only; omega
    · rw [if_neg q]; simp only; omega
theorem ny_move {t : Tsk} {p : Int × Int} (hE : nzE p.1 p.2 t.bf.length = 0) (hB : (nyS t p).any bigB = false) (c : Int) (l : List (Int × Int)) :
    (vlA (nyT t p) c [] l).2 = (vlA t c [] l).2 ∧ (-(2 * p.2 * (vlA t c [] l).2) ≤ (vlA (nyT t p) c [] l).1.1 - (vlA t c [] l).1.1 ∧ (vlA (nyT t p) c [] l).1.1 - (vlA t c [] l).1.1 ≤ 2 * p.2 * (vlA t c [] l).2) ∧
    -(2 * p.2 * (vlA t c [] l).2) ≤ (vlA (nyT t p) c [] l).1.2 - (vlA t c [] l).1.2 ∧ (vlA (nyT t p) c [] l).1.2 - (vlA t c [] l).1.2 ≤ 2 * p.2 * (vlA t c [] l).2 := by
  obtain ⟨b, hb⟩ : ∃ b, b = (nyZ t p).map FloatKind.f32.nearest := ⟨_, rfl⟩
  obtain ⟨hz0, hz2⟩ := (nzE_zero.1 hE).2.1
  have hzl : (nyZ t p).length = t.bf.length := nzL_len _ _ _
  have hzin := nyB_in hE
  have h1 : t.bf.length = b.length := by rw [hb, List.length_map, hzl]
  have h2 : t.bf.length = ((nyS t p).map FloatKind.f32.nearest).length := by rw [List.length_map, nyS_len]
  have hvb : ∀ x ∈ b, -p.2 ≤ vI x ∧ vI x ≤ p.2 := fun x hx => by
    rw [hb] at hx
    obtain ⟨u, hu, rfl⟩ := List.mem_map.1 hx
    have := hzin u hu
    rw [vI_fn (by omega) (by omega)]; exact this
  have hlin := vlA_lin (ar := t.ar) (ne := t.ne) (g := t.g) h1 h2 (fun j x y z hx hy hzz => by
    rw [hb, List.getElem?_map] at hy
    rw [List.getElem?_map] at hzz
    cases hu : (nyZ t p)[j]? with
    | none => rw [hu] at hy; cases hy
    | some u =>
      rw [hu] at hy; cases hy
      cases hv : (nyS t p)[j]? with
      | none => rw [hv] at hzz; cases hzz
      | some v =>
        rw [hv] at hzz; cases hzz
        have hvi := nyS_in hB v (List.mem_of_getElem? hv)
        have hui := hzin u (List.mem_of_getElem? hu)
        rw [vI_fn hvi.1 hvi.2, vI_fn (by omega) (by omega)]
        have hjl : j < t.bf.length := (List.getElem?_eq_some_iff.1 hx).1
        have e : (nyS t p)[j]? = some (nyV t.bf (nyZ t p) j) := by
          unfold nyS nyF
          rw [List.getElem?_map, List.getElem?_range hjl]; rfl
        rw [hv] at e
        rw [Option.some.inj e]
        exact nyV_of hx hu) c l
  have hn1 : (vlA (nyT t p) c [] l).2 = (vlA t c [] l).2 := vl_num c l
  have hn2 : (vlA ⟨t.ar, t.ne, b, t.g⟩ c [] l).2 = (vlA t c [] l).2 := vl_num c l
  have hc := vl_cnt (t := ⟨t.ar, t.ne, b, t.g⟩) (c := c) (M := 2 * p.2) l (fun y k => by
    have q := fun k => sAt_bd hz0 hvb (y.1 * t.ne + y.2).toNat k
    have q0 := q k
    have q1 := q (k + 1)
    have q2 := q (k + 2)
    have q3 := q (k + 3)
    unfold reI imI smpS
    simp only
    omega)
  rw [hn2] at hc
  refine ⟨hn1, ?_⟩
  change (vlA (nyT t p) c [] l).1 = ((vlA t c [] l).1.1 + _, (vlA t c [] l).1.2 + _) at hlin
  rw [hlin]
  simp only
  generalize 2 * p.2 * (vlA t c [] l).2 = X at hc ⊢
  omega
theorem ev_le {t : Tsk} (h : TskOk t) : (evL t).length ≤ 256 := by
  unfold evL
  rw [pqL_len, allL_len]
  have := Nat.mul_le_mul (show t.ne.toNat ≤ 16 by have := h.n2; omega) (show t.ne.toNat ≤ 16 by have := h.n2; omega)
  omega
theorem nyS_of (t : Tsk) (p : Int × Int) {m : Nat} (hm : t.bf.length = 64 * m) : nyF t.bf (nzL p.2 p.1 t.bf.length) (64 * m) = nyS t p := by unfold nyS nyZ; rw [← hm]
set_option maxRecDepth 100000 in
theorem topWithinE_p (t : Tsk) (c : Int) (p : Int × Int) (hck0 : (ckT t).2 = 0) (ht : TskOk t) (hl : litB t = true) (hci : 0 ≤ c ∧ c ≤ t.g.co * t.g.ro - 1) (hE : nzE p.1 p.2 t.bf.length ≠ 0) : PC Tryz.prog 15 [.agg (tskC t), .v (.int .i64 (c)), .agg (shC p)] (.v (.bool (true))) := by
 obtain ⟨hgr, _, _⟩ := ckG_ok ht.gr
 have hcl := cells_in hgr
 have hic : inR 0 c (t.g.co * t.g.ro - 1) = true := inR_iff.2 hci
 have hc : clE t.g c = 0 := clE_of hci.1 hci.2
 obtain ⟨l1, l2⟩ := lit_le hl
 have hn1 := ht.n1
 have hn2 := ht.n2
 have hq := mulb (a := t.ne) (b := t.ne) (A := 16) (B := 16) (by omega) (by omega) (by omega) (by omega)
 have hqp := Int.mul_nonneg (show 0 ≤ t.ne by omega) (show 0 ≤ t.ne by omega)
 have hnl := ht.nl
 obtain ⟨m, hmm⟩ : ∃ m, m = (t.ne * t.ne).toNat := ⟨_, rfl⟩
 have hm : t.bf.length = 64 * m := by omega
 have hm2 : m ≤ 256 := by omega
 refine pc_of_awpN Tryz.func15 rfl Tryz.ntmps15 (rs := [.tmp 6]) Tryz.results15 (by simp) fun w0 hmine hrnd hpn => ?_
 refine awp_seq ?_
 refine awp_region 3 mixed (by kernel_rfl) ?_
 refine rg_q (q_box rfl (by exact .inr ⟨_, rfl⟩)) ?_
 refine rg_q (q_box rfl (by exact .inr ⟨_, rfl⟩)) ?_
 refine rg_q (q_a rfl) ?_
 refine rn ?_
 change Awp _ _ _ _ _
 refine awp_seq ?_
 refine awp_seq ?_
 refine awp_region 2 mixed (by kernel_rfl) ?_
 refine rg_q (q_call en71 .nil rfl (focused_p)) ?_
 refine rg_q (q_not rfl) ?_
 refine rn ?_
 change Awp _ _ _ _ _
 refine awp_cond rfl (fun hc1 => ?_) (fun hc1 => ?_)
 ·
  simp at hc1
 ·
  (try simp only [nb, ne_eq] at hc1)
  refine awp_skip ?_
  change Awp _ _ _ _ _
  refine awp_seq ?_
  refine awp_seq ?_
  refine awp_region 15 mixed (by kernel_rfl) ?_
  refine rg_q (q_loadA sz37 rfl rfl rfl) ?_
  refine rg_q (q_call en19 (.cons rfl .nil) rfl (light_p _)) ?_
  refine rg_q (q_not rfl) (rg_q (q_m rfl) ?_)
  refine rg_g rfl rfl (fun hG => (q_loadA sz37 rfl rfl rfl)) ?_
  refine rg_g rfl rfl (fun hG => (q_call en24 (.cons rfl .nil) rfl ((by have h := rtaskErr_p t; rw [hck0] at h; exact h)))) ?_
  refine rg_g rfl rfl (fun hG => (q_neq rfl rfl)) ?_
  refine rg_pick rfl rfl rfl rfl rfl rfl ?_
  refine rg_q (q_m rfl) ?_
  refine rg_g rfl rfl (fun hG => (q_fieldAddr fld37_2 rfl)) ?_
  refine rg_g rfl rfl (fun hG => (q_loadA (ds := [_, _, _, _, _]) sz35 rfl rfl rfl)) ?_
  refine rg_g rfl rfl (fun hG => (q_m rfl)) ?_
  refine rg_g rfl rfl (fun hG => (q_call en25 (.cons rfl (.cons rfl .nil)) rfl (risCell_p t.g c hgr))) ?_
  refine rg_g rfl rfl (fun hG => (q_not rfl)) ?_
  refine rg_pick rfl rfl rfl rfl rfl rfl ?_
  refine rn ?_
  change Awp _ _ _ _ _
  refine awp_cond rfl (fun hc3 => ?_) (fun hc3 => ?_)
  ·
   simp [hl, hic] at hc3
  ·
   (try simp only [nb, ne_eq] at hc3)
   refine awp_skip ?_
   change Awp _ _ _ _ _
   refine awp_seq ?_
   refine awp_regionM 14 [none, none, none, none, none, none, none, none, none, none, none, some 7, some 7, none] mixed (by kernel_rfl) ?_
   refine rgm_q rfl (q_fieldAddr fld37_1 rfl) ?_
   refine rgm_q rfl (q_loadA (ds := [_, _]) sz31 rfl rfl rfl) ?_
   refine rgm_q rfl (q_call en62 (.cons rfl .nil) rfl (copyMatrix5_p t.ne t.bf (by omega))) ?_
   refine rgm_q rfl (q_indexAddr_ar ar63 rfl rfl (by omega) (by omega)) ?_
   refine rgm_q rfl (q_load sz3 rfl rfl) ?_
   refine rgm_q rfl (q_indexAddr_ar ar63 rfl rfl (by omega) (by omega)) ?_
   refine rgm_q rfl (q_load sz3 rfl rfl) ?_
   refine rgm_q rfl (q_call en72 (.cons rfl (.cons rfl (.cons rfl .nil))) rfl (noisyE_p t.ne t.bf p.1 p.2 ht.n1 ht.n2 ht.nl ht.wh hE)) ?_
   refine rgm_q rfl (q_move (x := .d (.tup _)) rfl) ?_
   refine rgm_q rfl (q_extract rfl rfl) ?_
   refine rgm_q rfl (q_extract rfl rfl) ?_
   refine rgm_m (k := 7) rfl rfl (by rfl) (m_alloc zr31 rfl rfl) ?_
   refine rgm_m (k := 7) rfl rfl (by rfl) (m_store sz31 rfl rfl (by exact .inr ⟨_, rfl⟩) rfl rfl (by decide) rfl) ?_
   refine rgm_q rfl (q_a rfl) ?_
   refine rgm_nil (aops_nil ?_)
   change Awp _ _ _ _ _
   refine Awp.le (le_freeze 7 7 0 (cs := mx0) rfl rfl rfl rfl hmine) ?_
   refine awp_seq ?_
   refine awp_seq ?_
   refine awp_region 2 mixed (by kernel_rfl) ?_
   refine rg_q (q_m rfl) (rg_q (q_neq rfl rfl) ?_)
   refine rn ?_
   change Awp _ _ _ _ _
   refine awp_cond rfl (fun hc6 => ?_) (fun hc6 => ?_)
   ·
    (try simp only [nb, ne_eq] at hc6)
    refine awp_seq ?_
    skip
    refine awp_region 13 mixed (by kernel_rfl) ?_
    refine rg_q (q_m rfl) (rg_q (q_eql rfl rfl) (rg_q (q_m rfl) ?_))
    refine rg_g rfl rfl (fun hG => (q_m rfl)) ?_
    refine rg_g rfl rfl (fun hG => (q_eql rfl rfl)) ?_
    refine rg_pick rfl rfl rfl rfl rfl rfl ?_
    refine rg_q (q_m rfl) ?_
    refine rg_g rfl rfl (fun hG => (q_fieldAddr fld31_1 rfl)) ?_
    refine rg_g rfl rfl (fun hG => (q_load sz29 rfl rfl)) ?_
    refine rg_g rfl rfl (fun hG => (q_len_nil isl29 rfl)) ?_
    refine rg_g rfl rfl (fun hG => (q_eql rfl rfl)) ?_
    refine rg_pick rfl rfl rfl rfl rfl rfl ?_
    refine rg_q (q_a rfl) ?_
    refine rn ?_
    change Awp _ _ _ _ _
    refine awp_ret ?_
    refine ⟨_, (.cons (.tmp (by exact .d _)) .nil), ?_⟩
    simp [retD]
   ·
    simp at hc6
set_option maxRecDepth 100000 in
theorem topWithinB_p (t : Tsk) (c : Int) (p : Int × Int) (hck0 : (ckT t).2 = 0) (ht : TskOk t) (hl : litB t = true) (hci : 0 ≤ c ∧ c ≤ t.g.co * t.g.ro - 1) (hE : nzE p.1 p.2 t.bf.length = 0) (hB : (nyS t p).any bigB = true) : PC Tryz.prog 15 [.agg (tskC t), .v (.int .i64 (c)), .agg (shC p)] (.v (.bool (true))) := by
 obtain ⟨hgr, _, _⟩ := ckG_ok ht.gr
 have hcl := cells_in hgr
 have hic : inR 0 c (t.g.co * t.g.ro - 1) = true := inR_iff.2 hci
 have hc : clE t.g c = 0 := clE_of hci.1 hci.2
 obtain ⟨l1, l2⟩ := lit_le hl
 have hn1 := ht.n1
 have hn2 := ht.n2
 have hq := mulb (a := t.ne) (b := t.ne) (A := 16) (B := 16) (by omega) (by omega) (by omega) (by omega)
 have hqp := Int.mul_nonneg (show 0 ≤ t.ne by omega) (show 0 ≤ t.ne by omega)
 have hnl := ht.nl
 obtain ⟨m, hmm⟩ : ∃ m, m = (t.ne * t.ne).toNat := ⟨_, rfl⟩
 have hm : t.bf.length = 64 * m := by omega
 have hm2 : m ≤ 256 := by omega
 refine pc_of_awpN Tryz.func15 rfl Tryz.ntmps15 (rs := [.tmp 6]) Tryz.results15 (by simp) fun w0 hmine hrnd hpn => ?_
 refine awp_seq ?_
 refine awp_region 3 mixed (by kernel_rfl) ?_
 refine rg_q (q_box rfl (by exact .inr ⟨_, rfl⟩)) ?_
 refine rg_q (q_box rfl (by exact .inr ⟨_, rfl⟩)) ?_
 refine rg_q (q_a rfl) ?_
 refine rn ?_
 change Awp _ _ _ _ _
 refine awp_seq ?_
 refine awp_seq ?_
 refine awp_region 2 mixed (by kernel_rfl) ?_
 refine rg_q (q_call en71 .nil rfl (focused_p)) ?_
 refine rg_q (q_not rfl) ?_
 refine rn ?_
 change Awp _ _ _ _ _
 refine awp_cond rfl (fun hc1 => ?_) (fun hc1 => ?_)
 ·
  simp at hc1
 ·
  (try simp only [nb, ne_eq] at hc1)
  refine awp_skip ?_
  change Awp _ _ _ _ _
  refine awp_seq ?_
  refine awp_seq ?_
  refine awp_region 15 mixed (by kernel_rfl) ?_
  refine rg_q (q_loadA sz37 rfl rfl rfl) ?_
  refine rg_q (q_call en19 (.cons rfl .nil) rfl (light_p _)) ?_
  refine rg_q (q_not rfl) (rg_q (q_m rfl) ?_)
  refine rg_g rfl rfl (fun hG => (q_loadA sz37 rfl rfl rfl)) ?_
  refine rg_g rfl rfl (fun hG => (q_call en24 (.cons rfl .nil) rfl ((by have h := rtaskErr_p t; rw [hck0] at h; exact h)))) ?_
  refine rg_g rfl rfl (fun hG => (q_neq rfl rfl)) ?_
  refine rg_pick rfl rfl rfl rfl rfl rfl ?_
  refine rg_q (q_m rfl) ?_
  refine rg_g rfl rfl (fun hG => (q_fieldAddr fld37_2 rfl)) ?_
  refine rg_g rfl rfl (fun hG => (q_loadA (ds := [_, _, _, _, _]) sz35 rfl rfl rfl)) ?_
  refine rg_g rfl rfl (fun hG => (q_m rfl)) ?_
  refine rg_g rfl rfl (fun hG => (q_call en25 (.cons rfl (.cons rfl .nil)) rfl (risCell_p t.g c hgr))) ?_
  refine rg_g rfl rfl (fun hG => (q_not rfl)) ?_
  refine rg_pick rfl rfl rfl rfl rfl rfl ?_
  refine rn ?_
  change Awp _ _ _ _ _
  refine awp_cond rfl (fun hc3 => ?_) (fun hc3 => ?_)
  ·
   simp [hl, hic] at hc3
  ·
   (try simp only [nb, ne_eq] at hc3)
   refine awp_skip ?_
   change Awp _ _ _ _ _
   refine awp_seq ?_
   refine awp_regionM 14 [none, none, none, none, none, none, none, none, none, none, none, some 7, some 7, none] mixed (by kernel_rfl) ?_
   refine rgm_q rfl (q_fieldAddr fld37_1 rfl) ?_
   refine rgm_q rfl (q_loadA (ds := [_, _]) sz31 rfl rfl rfl) ?_
   refine rgm_q rfl (q_call en62 (.cons rfl .nil) rfl (copyMatrix5_p t.ne t.bf (by omega))) ?_
   refine rgm_q rfl (q_indexAddr_ar ar63 rfl rfl (by omega) (by omega)) ?_
   refine rgm_q rfl (q_load sz3 rfl rfl) ?_
   refine rgm_q rfl (q_indexAddr_ar ar63 rfl rfl (by omega) (by omega)) ?_
   refine rgm_q rfl (q_load sz3 rfl rfl) ?_
   refine rgm_q rfl (q_call en72 (.cons rfl (.cons rfl (.cons rfl .nil))) rfl (noisyB_p t.ne t.bf p.1 p.2 ht.n1 ht.n2 ht.nl ht.wh m hm hm2 hE (by rw [nyS_of t p hm]; exact hB))) ?_
   refine rgm_q rfl (q_move (x := .d (.tup _)) rfl) ?_
   refine rgm_q rfl (q_extract rfl rfl) ?_
   refine rgm_q rfl (q_extract rfl rfl) ?_
   refine rgm_m (k := 7) rfl rfl (by rfl) (m_alloc zr31 rfl rfl) ?_
   refine rgm_m (k := 7) rfl rfl (by rfl) (m_store sz31 rfl rfl (by exact .inr ⟨_, rfl⟩) rfl rfl (by decide) rfl) ?_
   refine rgm_q rfl (q_a rfl) ?_
   refine rgm_nil (aops_nil ?_)
   change Awp _ _ _ _ _
   refine Awp.le (le_freeze 7 7 0 (cs := mx0) rfl rfl rfl rfl hmine) ?_
   refine awp_seq ?_
   refine awp_seq ?_
   refine awp_region 2 mixed (by kernel_rfl) ?_
   refine rg_q (q_m rfl) (rg_q (q_neq rfl rfl) ?_)
   refine rn ?_
   change Awp _ _ _ _ _
   refine awp_cond rfl (fun hc6 => ?_) (fun hc6 => ?_)
   ·
    (try simp only [nb, ne_eq] at hc6)
    refine awp_seq ?_
    refine awp_region 13 mixed (by kernel_rfl) ?_
    refine rg_q (q_m rfl) (rg_q (q_eql rfl rfl) (rg_q (q_m rfl) ?_))
    refine rg_g rfl rfl (fun hG => (q_m rfl)) ?_
    refine rg_g rfl rfl (fun hG => (q_eql rfl rfl)) ?_
    refine rg_pick rfl rfl rfl rfl rfl rfl ?_
    refine rg_q (q_m rfl) ?_
    refine rg_g rfl rfl (fun hG => (q_fieldAddr fld31_1 rfl)) ?_
    refine rg_g rfl rfl (fun hG => (q_load sz29 rfl rfl)) ?_
    refine rg_g rfl rfl (fun hG => (q_len_nil isl29 rfl)) ?_
    refine rg_g rfl rfl (fun hG => (q_eql rfl rfl)) ?_
    refine rg_pick rfl rfl rfl rfl rfl rfl ?_
    refine rg_q (q_a rfl) ?_
    refine rn ?_
    change Awp _ _ _ _ _
    refine awp_ret ?_
    refine ⟨_, (.cons (.tmp (by exact .d _)) .nil), ?_⟩
    simp [retD]
   ·
    simp at hc6
set_option maxHeartbeats 4000000 in
set_option maxRecDepth 100000 in
theorem topWithinOk_p (t : Tsk) (c : Int) (p : Int × Int) (hck0 : (ckT t).2 = 0) (ht : TskOk t) (hl : litB t = true) (hci : 0 ≤ c ∧ c ≤ t.g.co * t.g.ro - 1) (hE : nzE p.1 p.2 t.bf.length = 0) (hB : (nyS t p).any bigB = false) : PC Tryz.prog 15 [.agg (tskC t), .v (.int .i64 (c)), .agg (shC p)] (.v (.bool (true))) := by
 obtain ⟨hgr, _, _⟩ := ckG_ok ht.gr
 have hcl := cells_in hgr
 have hic : inR 0 c (t.g.co * t.g.ro - 1) = true := inR_iff.2 hci
 have hc : clE t.g c = 0 := clE_of hci.1 hci.2
 obtain ⟨l1, l2⟩ := lit_le hl
 have hn1 := ht.n1
 have hn2 := ht.n2
 have hq := mulb (a := t.ne) (b := t.ne) (A := 16) (B := 16) (by omega) (by omega) (by omega) (by omega)
 have hqp := Int.mul_nonneg (show 0 ≤ t.ne by omega) (show 0 ≤ t.ne by omega)
 have hnl := ht.nl
 obtain ⟨m, hmm⟩ : ∃ m, m = (t.ne * t.ne).toNat := ⟨_, rfl⟩
 have hm : t.bf.length = 64 * m := by omega
 have hm2 : m ≤ 256 := by omega
 have ht2 := nyT_ok (p := p) ht hB
 have hbl : (nyT t p).bf.length = t.bf.length := by show ((nyS t p).map FloatKind.f32.nearest).length = _; rw [List.length_map, nyS_len]
 obtain ⟨hz0, hz2⟩ := (nzE_zero.1 hE).2.1
 obtain ⟨hv1, hv2, hv3⟩ := ny_move hE hB c (evL t)
 change (vlI (nyT t p) c).2 = (vlI t c).2 at hv1
 obtain ⟨hn0, hnL⟩ := vl_nn (t := t) c (evL t)
 have hN : 0 ≤ (vlI t c).2 ∧ (vlI t c).2 ≤ 256 := ⟨hn0, by have := ev_le ht; exact Int.le_trans hnL (by omega)⟩
 obtain ⟨⟨a1, a2⟩, a3, a4⟩ := vs_in ht c (l := evL t) (by have := ev_le ht; omega)
 obtain ⟨⟨b1, b2⟩, b3, b4⟩ := vs_in ht2 c (l := evL t) (by have := ev_le ht; omega)
 change -6600000 ≤ (vlI t c).1.1 at a1
 change (vlI t c).1.1 ≤ 6600000 at a2
 change -6600000 ≤ (vlI t c).1.2 at a3
 change (vlI t c).1.2 ≤ 6600000 at a4
 change -6600000 ≤ (vlI (nyT t p) c).1.1 at b1
 change (vlI (nyT t p) c).1.1 ≤ 6600000 at b2
 change -6600000 ≤ (vlI (nyT t p) c).1.2 at b3
 change (vlI (nyT t p) c).1.2 ≤ 6600000 at b4
 obtain ⟨wn3, wn4⟩ := vl_ends ht2 c
 have hmul := mulb (a := 2 * (vlI t c).2) (b := p.2) (A := 512) (B := 200) (by omega) (by omega) (by omega) (by omega)
 have hme : 2 * p.2 * (vlI t c).2 = 2 * (vlI t c).2 * p.2 := by grind
 change (-(2 * p.2 * (vlI t c).2) ≤ (vlI (nyT t p) c).1.1 - (vlI t c).1.1 ∧ (vlI (nyT t p) c).1.1 - (vlI t c).1.1 ≤ 2 * p.2 * (vlI t c).2) at hv2
 change -(2 * p.2 * (vlI t c).2) ≤ (vlI (nyT t p) c).1.2 - (vlI t c).1.2 ∧ (vlI (nyT t p) c).1.2 - (vlI t c).1.2 ≤ 2 * p.2 * (vlI t c).2 at hv3
 rw [hme] at hv2 hv3
 have wn0 : inR 0 (vlI t c).2 256 = true := inR_iff.2 hN
 have wn1 := inR_iff.2 hv2
 have wn2 := inR_iff.2 hv3
 refine pc_of_awpN Tryz.func15 rfl Tryz.ntmps15 (rs := [.tmp 6]) Tryz.results15 (by simp) fun w0 hmine hrnd hpn => ?_
 refine awp_seq ?_
 refine awp_region 3 mixed (by kernel_rfl) ?_
 refine rg_q (q_box rfl (by exact .inr ⟨_, rfl⟩)) ?_
 refine rg_q (q_box rfl (by exact .inr ⟨_, rfl⟩)) ?_
 refine rg_q (q_a rfl) ?_
 refine rn ?_
 change Awp _ _ _ _ _
 refine awp_seq ?_
 refine awp_seq ?_
 refine awp_region 2 mixed (by kernel_rfl) ?_
 refine rg_q (q_call en71 .nil rfl (focused_p)) ?_
 refine rg_q (q_not rfl) ?_
 refine rn ?_
 change Awp _ _ _ _ _
 refine awp_cond rfl (fun hc1 => ?_) (fun hc1 => ?_)
 ·
  simp at hc1
 ·
  (try simp only [nb, ne_eq] at hc1)
  refine awp_skip ?_
  change Awp _ _ _ _ _
  refine awp_seq ?_
  refine awp_seq ?_
  refine awp_region 15 mixed (by kernel_rfl) ?_
  refine rg_q (q_loadA sz37 rfl rfl rfl) ?_
  refine rg_q (q_call en19 (.cons rfl .nil) rfl (light_p _)) ?_
  refine rg_q (q_not rfl) (rg_q (q_m rfl) ?_)
  refine rg_g rfl rfl (fun hG => (q_loadA sz37 rfl rfl rfl)) ?_
  refine rg_g rfl rfl (fun hG => (q_call en24 (.cons rfl .nil) rfl ((by have h := rtaskErr_p t; rw [hck0] at h; exact h)))) ?_
  refine rg_g rfl rfl (fun hG => (q_neq rfl rfl)) ?_
  refine rg_pick rfl rfl rfl rfl rfl rfl ?_
  refine rg_q (q_m rfl) ?_
  refine rg_g rfl rfl (fun hG => (q_fieldAddr fld37_2 rfl)) ?_
  refine rg_g rfl rfl (fun hG => (q_loadA (ds := [_, _, _, _, _]) sz35 rfl rfl rfl)) ?_
  refine rg_g rfl rfl (fun hG => (q_m rfl)) ?_
  refine rg_g rfl rfl (fun hG => (q_call en25 (.cons rfl (.cons rfl .nil)) rfl (risCell_p t.g c hgr))) ?_
  refine rg_g rfl rfl (fun hG => (q_not rfl)) ?_
  refine rg_pick rfl rfl rfl rfl rfl rfl ?_
  refine rn ?_
  change Awp _ _ _ _ _
  refine awp_cond rfl (fun hc3 => ?_) (fun hc3 => ?_)
  ·
   simp [hl, hic] at hc3
  ·
   (try simp only [nb, ne_eq] at hc3)
   refine awp_skip ?_
   change Awp _ _ _ _ _
   refine awp_seq ?_
   refine awp_regionM 14 [none, none, none, none, none, none, none, none, none, none, none, some 7, some 7, none] mixed (by kernel_rfl) ?_
   refine rgm_q rfl (q_fieldAddr fld37_1 rfl) ?_
   refine rgm_q rfl (q_loadA (ds := [_, _]) sz31 rfl rfl rfl) ?_
   refine rgm_q rfl (q_call en62 (.cons rfl .nil) rfl (copyMatrix5_p t.ne t.bf (by omega))) ?_
   refine rgm_q rfl (q_indexAddr_ar ar63 rfl rfl (by omega) (by omega)) ?_
   refine rgm_q rfl (q_load sz3 rfl rfl) ?_
   refine rgm_q rfl (q_indexAddr_ar ar63 rfl rfl (by omega) (by omega)) ?_
   refine rgm_q rfl (q_load sz3 rfl rfl) ?_
   refine rgm_q rfl (q_call en72 (.cons rfl (.cons rfl (.cons rfl .nil))) rfl ((by have h := noisyOk_p t.ne t.bf p.1 p.2 ht.n1 ht.n2 ht.nl ht.wh m hm hm2 hE (by rw [nyS_of t p hm]; exact hB); rw [nyS_of t p hm, nm_mtx] at h; exact h))) ?_
   refine rgm_q rfl (q_move (x := .d (.tup _)) rfl) ?_
   refine rgm_q rfl (q_extract rfl rfl) ?_
   refine rgm_q rfl (q_extract rfl rfl) ?_
   refine rgm_m (k := 7) rfl rfl (by rfl) (m_alloc zr31 rfl rfl) ?_
   refine rgm_m (k := 7) rfl rfl (by rfl) (m_store sz31 rfl rfl (by exact .inr ⟨_, rfl⟩) rfl rfl (by decide) rfl) ?_
   refine rgm_q rfl (q_a rfl) ?_
   refine rgm_nil (aops_nil ?_)
   change Awp _ _ _ _ _
   refine Awp.le (le_freeze 7 7 0 (cs := mtxC t.ne ((nyS t p).map FloatKind.f32.nearest)) rfl rfl rfl rfl hmine) ?_
   refine awp_seq ?_
   refine awp_seq ?_
   refine awp_region 2 mixed (by kernel_rfl) ?_
   refine rg_q (q_m rfl) (rg_q (q_neq rfl rfl) ?_)
   refine rn ?_
   change Awp _ _ _ _ _
   refine awp_cond rfl (fun hc6 => ?_) (fun hc6 => ?_)
   ·
    simp at hc6
   ·
    (try simp only [nb, ne_eq] at hc6)
    refine awp_skip ?_
    change Awp _ _ _ _ _
    refine awp_seq ?_
    refine awp_region 2 mixed (by kernel_rfl) ?_
    refine rg_q (q_loadA sz37 rfl rfl rfl) ?_
    refine rg_q (q_call en21 (.cons rfl .nil) rfl (rcopyT_p t (by omega) (by omega))) ?_
    refine rg_nil ?_
    refine aops_alloc zr37 rfl rfl rfl ?_
    refine aops_store sz37 rfl rfl (by exact .inr ⟨_, rfl⟩) rfl rfl (by decide) rfl ?_
    refine aops_nil ?_
    change Awp _ _ _ _ _
    refine awp_seq ?_
    refine awp_region 2 mixed (by kernel_rfl) ?_
    refine rg_q (q_loadA (ds := [_, _]) sz31 rfl rfl rfl) ?_
    refine rg_q (q_fieldAddr_ref fld37_1 rfl) ?_
    refine rg_nil ?_
    refine aops_store sz31 rfl rfl (by exact .inr ⟨_, rfl⟩) rfl rfl (by exact Nat.le_of_ble_eq_true rfl) rfl ?_
    refine aops_nil ?_
    change Awp _ _ _ _ _
    refine Awp.le (le_freeze 9 9 0 (cs := tskC (nyT t p)) rfl rfl rfl rfl hmine) ?_
    refine awp_seq ?_
    refine awp_region 11 mixed (by kernel_rfl) ?_
    refine rg_q (q_loadA sz37 rfl rfl rfl) ?_
    refine rg_q (q_call en21 (.cons rfl .nil) rfl (rcopyT_p t (by omega) (by omega))) ?_
    refine rg_q (q_m rfl) ?_
    refine rg_q (q_call en23 (.cons rfl (.cons rfl .nil)) rfl (valueAt_p t c ht hc)) ?_
    refine rg_q (q_move (x := .d (.tup _)) rfl) (rg_q (q_extract rfl rfl) (rg_q (q_extract rfl rfl) (rg_q (q_extract rfl rfl) (rg_q (q_a rfl) (rg_q (q_a rfl) ?_)))))
    refine rg_q (q_a rfl) ?_
    refine rs (awp_region 11 mixed (by kernel_rfl) ?_)
    refine rg_q (q_loadA sz37 rfl rfl rfl) ?_
    refine rg_q (q_call en21 (.cons rfl .nil) rfl (rcopyT_p (nyT t p) (by show t.ar.el.length ≤ 1000; omega) (by omega))) ?_
    refine rg_q (q_m rfl) ?_
    refine rg_q (q_call en23 (.cons rfl (.cons rfl .nil)) rfl ((by have h := valueAt_p (nyT t p) c ht2 hc; rw [hv1] at h; exact h))) ?_
    refine rg_q (q_move (x := .d (.tup _)) rfl) (rg_q (q_extract rfl rfl) (rg_q (q_extract rfl rfl) (rg_q (q_extract rfl rfl) (rg_q (q_a rfl) (rg_q (q_a rfl) ?_)))))
    refine rg_q (q_a rfl) ?_
    refine rs (awp_region 7 mixed (by kernel_rfl) ?_)
    refine rg_q (q_loadA sz37 rfl rfl rfl) ?_
    refine rg_q (q_call en21 (.cons rfl .nil) rfl (rcopyT_p (nyT t p) (by show t.ar.el.length ≤ 1000; omega) (by omega))) ?_
    refine rg_q (q_m rfl) ?_
    refine rg_q (q_call en28 (.cons rfl (.cons rfl .nil)) rfl (endsAt_p (nyT t p) c ht2 hc)) ?_
    refine rg_q (q_move (x := .d (.tup _)) rfl) (rg_q (q_extract rfl rfl) (rg_q (q_extract rfl rfl) ?_))
    refine rg_nil ?_
    refine aops_allocD zr57 rfl sz57 rfl rfl (by exact .inr ⟨_, rfl⟩) rfl rfl ?_
    refine aops_q rfl (q_a rfl) ?_
    refine aops_nil ?_
    change Awp _ _ _ _ _
    refine awp_seq ?_
    refine awp_seq ?_
    refine awp_region 20 mixed (by kernel_rfl) ?_
    refine rg_q (q_m rfl) (rg_q (q_neq rfl rfl) (rg_q (q_m rfl) ?_))
    refine rg_g rfl rfl (fun hG => (q_m rfl)) ?_
    refine rg_g rfl rfl (fun hG => (q_neq rfl rfl)) ?_
    refine rg_pick rfl rfl rfl rfl rfl rfl ?_
    refine rg_q (q_m rfl) ?_
    refine rg_g rfl rfl (fun hG => (q_m rfl)) ?_
    refine rg_g rfl rfl (fun hG => (q_neq rfl rfl)) ?_
    refine rg_pick rfl rfl rfl rfl rfl rfl ?_
    refine rg_q (q_m rfl) ?_
    refine rg_g rfl rfl (fun hG => (q_m rfl)) ?_
    refine rg_g rfl rfl (fun hG => (q_m rfl)) ?_
    refine rg_g rfl rfl (fun hG => (q_neq rfl rfl)) ?_
    refine rg_pick rfl rfl rfl rfl rfl rfl ?_
    refine rg_q (q_m rfl) ?_
    refine rg_g rfl rfl (fun hG => (q_m rfl)) ?_
    refine rg_g rfl rfl (fun hG => (q_call en31 (.cons rfl (.cons rfl (.cons rfl .nil))) rfl (within4_p _ _ _))) ?_
    refine rg_g rfl rfl (fun hG => (q_not rfl)) ?_
    refine rg_pick rfl rfl rfl rfl rfl rfl ?_
    refine rn ?_
    change Awp _ _ _ _ _
    refine awp_cond rfl (fun hc13 => ?_) (fun hc13 => ?_)
    ·
     simp [wn0] at hc13
    ·
     (try simp only [nb, ne_eq] at hc13)
     refine awp_skip ?_
     change Awp _ _ _ _ _
     refine awp_seq ?_
     refine awp_region 7 mixed (by kernel_rfl) ?_
     refine rg_q (q_m rfl) ?_
     refine rg_q (q_call en29 (.cons rfl .nil) rfl (fparts_p (vlI t c).1.1 (vlI t c).1.2 (by omega) (by omega) (by omega) (by omega))) ?_
     refine rg_q (q_move (x := .d (.tup _)) rfl) (rg_q (q_extract rfl rfl) (rg_q (q_extract rfl rfl) (rg_q (q_a rfl) (rg_q (q_a rfl) ?_))))
     refine rs (awp_region 7 mixed (by kernel_rfl) ?_)
     refine rg_q (q_m rfl) ?_
     refine rg_q (q_call en29 (.cons rfl .nil) rfl (fparts_p (vlI (nyT t p) c).1.1 (vlI (nyT t p) c).1.2 (by omega) (by omega) (by omega) (by omega))) ?_
     refine rg_q (q_move (x := .d (.tup _)) rfl) (rg_q (q_extract rfl rfl) (rg_q (q_extract rfl rfl) (rg_q (q_a rfl) (rg_q (q_a rfl) ?_))))
     refine rs (awp_region 6 mixed (by kernel_rfl) ?_)
     refine rg_q (q_m rfl) ?_
     refine rg_q (q_mul rfl rfl (In64.mk (by omega) (by omega))) ?_
     refine rg_q (q_indexAddr_ar ar63 rfl rfl (by omega) (by omega)) ?_
     refine rg_q (q_load sz3 rfl rfl) ?_
     refine rg_q (q_mul rfl rfl (In64.mk (by omega) (by omega))) ?_
     refine rg_q (q_a rfl) ?_
     refine rs (awp_region 37 mixed (by kernel_rfl) ?_)
     refine rg_q (q_m rfl) (rg_q (q_m rfl) ?_)
     refine rg_q (q_sub rfl rfl (In64.mk (by omega) (by omega))) ?_
     refine rg_q (q_m rfl) ?_
     refine rg_q (q_neg rfl (In64.mk (by omega) (by omega))) ?_
     refine rg_q (q_m rfl) ?_
     refine rg_q (q_call en31 (.cons rfl (.cons rfl (.cons rfl .nil))) rfl (within4_p _ _ _)) ?_
     refine rg_q (q_m rfl) ?_
     refine rg_g rfl rfl (fun hG => (q_m rfl)) ?_
     refine rg_g rfl rfl (fun hG => (q_m rfl)) ?_
     refine rg_g rfl rfl (fun hG => (q_sub rfl rfl (In64.mk (by (have hg0 := T.bool_inj (a := _) hG.1; (try simp only [nb, ne_eq] at hg0); omega)) (by (have hg0 := T.bool_inj (a := _) hG.1; (try simp only [nb, ne_eq] at hg0); omega))))) ?_
     refine rg_g rfl rfl (fun hG => (q_m rfl)) ?_
     refine rg_g rfl rfl (fun hG => (q_neg rfl (In64.mk (by (have hg0 := T.bool_inj (a := _) hG.1; (try simp only [nb, ne_eq] at hg0); omega)) (by (have hg0 := T.bool_inj (a := _) hG.1; (try simp only [nb, ne_eq] at hg0); omega))))) ?_
     refine rg_g rfl rfl (fun hG => (q_m rfl)) ?_
     refine rg_g rfl rfl (fun hG => (q_call en31 (.cons rfl (.cons rfl (.cons rfl .nil))) rfl (within4_p _ _ _))) ?_
     refine rg_pick rfl rfl rfl rfl rfl rfl ?_
     refine rg_q (q_m rfl) ?_
     refine rg_g rfl rfl (fun hG => (q_m rfl)) ?_
     refine rg_g rfl rfl (fun hG => (q_indexAddr_ar ar57 rfl rfl (by (have hg0 := T.bool_inj (a := _) hG.1; (try simp only [nb, ne_eq] at hg0); omega)) (by (have hg0 := T.bool_inj (a := _) hG.1; (try simp only [nb, ne_eq] at hg0); omega)))) ?_
     refine rg_g rfl rfl (fun hG => (q_fieldAddr fld56_0 rfl)) ?_
     refine rg_g rfl rfl (fun hG => (q_load sz3 rfl rfl)) ?_
     refine rg_g rfl rfl (fun hG => (q_indexAddr_ar ar57 rfl rfl (by (have hg0 := T.bool_inj (a := _) hG.1; (try simp only [nb, ne_eq] at hg0); omega)) (by (have hg0 := T.bool_inj (a := _) hG.1; (try simp only [nb, ne_eq] at hg0); omega)))) ?_
     refine rg_g rfl rfl (fun hG => (q_fieldAddr fld56_1 rfl)) ?_
     refine rg_g rfl rfl (fun hG => (q_load sz3 rfl rfl)) ?_
     refine rg_g rfl rfl (fun hG => (q_call en31 (.cons rfl (.cons rfl (.cons rfl .nil))) rfl (within4_p _ _ _))) ?_
     refine rg_pick rfl rfl rfl rfl rfl rfl ?_
     refine rg_q (q_m rfl) ?_
     refine rg_g rfl rfl (fun hG => (q_m rfl)) ?_
     refine rg_g rfl rfl (fun hG => (q_indexAddr_ar ar57 rfl rfl (by (have hg0 := T.bool_inj (a := _) hG.1; (try simp only [nb, ne_eq] at hg0); omega)) (by (have hg0 := T.bool_inj (a := _) hG.1; (try simp only [nb, ne_eq] at hg0); omega)))) ?_
     refine rg_g rfl rfl (fun hG => (q_fieldAddr fld56_0 rfl)) ?_
     refine rg_g rfl rfl (fun hG => (q_load sz3 rfl rfl)) ?_
     refine rg_g rfl rfl (fun hG => (q_indexAddr_ar ar57 rfl rfl (by (have hg0 := T.bool_inj (a := _) hG.1; (try simp only [nb, ne_eq] at hg0); omega)) (by (have hg0 := T.bool_inj (a := _) hG.1; (try simp only [nb, ne_eq] at hg0); omega)))) ?_
     refine rg_g rfl rfl (fun hG => (q_fieldAddr fld56_1 rfl)) ?_
     refine rg_g rfl rfl (fun hG => (q_load sz3 rfl rfl)) ?_
     refine rg_g rfl rfl (fun hG => (q_call en31 (.cons rfl (.cons rfl (.cons rfl .nil))) rfl (within4_p _ _ _))) ?_
     refine rg_pick rfl rfl rfl rfl rfl rfl ?_
     refine rg_q (q_a rfl) ?_
     refine rn ?_
     change Awp _ _ _ _ _
     refine awp_ret ?_
     refine ⟨_, (.cons (.tmp (by exact .d _)) .nil), ?_⟩
     simp [retD, wn1, wn2, wn3, wn4]

set_option maxRecDepth 100000 in
theorem topWithinN_p (t : Tsk) (c : Int) (p : Int × Int) (hN : ¬ (litB t = true ∧ (ckT t).2 = 0 ∧ (0 ≤ c ∧ c ≤ t.g.co * t.g.ro - 1))) : PC Tryz.prog 15 [.agg (tskC t), .v (.int .i64 (c)), .agg (shC p)] (.v (.bool (true))) := by
 refine pc_of_awpN Tryz.func15 rfl Tryz.ntmps15 (rs := [.tmp 6]) Tryz.results15 (by simp) fun w0 hmine hrnd hpn => ?_
 refine awp_seq ?_
 refine awp_region 3 mixed (by kernel_rfl) ?_
 refine rg_q (q_box rfl (by exact .inr ⟨_, rfl⟩)) ?_
 refine rg_q (q_box rfl (by exact .inr ⟨_, rfl⟩)) ?_
 refine rg_q (q_a rfl) ?_
 refine rn ?_
 change Awp _ _ _ _ _
 refine awp_seq ?_
 refine awp_seq ?_
 refine awp_region 2 mixed (by kernel_rfl) ?_
 refine rg_q (q_call en71 .nil rfl (focused_p)) ?_
 refine rg_q (q_not rfl) ?_
 refine rn ?_
 change Awp _ _ _ _ _
 refine awp_cond rfl (fun hc1 => ?_) (fun hc1 => ?_)
 ·
  simp at hc1
 ·
  (try simp only [nb, ne_eq] at hc1)
  refine awp_skip ?_
  change Awp _ _ _ _ _
  refine awp_seq ?_
  refine awp_seq ?_
  refine awp_region 15 mixed (by kernel_rfl) ?_
  refine rg_q (q_loadA sz37 rfl rfl rfl) ?_
  refine rg_q (q_call en19 (.cons rfl .nil) rfl (light_p _)) ?_
  refine rg_q (q_not rfl) (rg_q (q_m rfl) ?_)
  refine rg_g rfl rfl (fun hG => (q_loadA sz37 rfl rfl rfl)) ?_
  refine rg_g rfl rfl (fun hG => (q_call en24 (.cons rfl .nil) rfl (rtaskErr_p t))) ?_
  refine rg_g rfl rfl (fun hG => (q_neq rfl rfl)) ?_
  refine rg_pick rfl rfl rfl rfl rfl rfl ?_
  refine rg_q (q_m rfl) ?_
  refine rg_g rfl rfl (fun hG => (q_fieldAddr fld37_2 rfl)) ?_
  refine rg_g rfl rfl (fun hG => (q_loadA (ds := [_, _, _, _, _]) sz35 rfl rfl rfl)) ?_
  refine rg_g rfl rfl (fun hG => (q_m rfl)) ?_
  refine rg_g rfl rfl (fun hG => (q_call en25 (.cons rfl (.cons rfl .nil)) rfl ((risCell_p t.g c (by have hg0 := T.bool_inj (a := _) hG.1; (try simp only [nb, ne_eq] at hg0); exact (ckG_ok (ckT_ok hg0.2).gr).1))))) ?_
  refine rg_g rfl rfl (fun hG => (q_not rfl)) ?_
  refine rg_pick rfl rfl rfl rfl rfl rfl ?_
  refine rn ?_
  change Awp _ _ _ _ _
  refine awp_cond rfl (fun hc3 => ?_) (fun hc3 => ?_)
  ·
   (try simp only [nb, ne_eq] at hc3)
   refine awp_seq ?_
   refine awp_region 1 mixed (by kernel_rfl) ?_
   refine rg_q (q_a rfl) ?_
   refine rn ?_
   change Awp _ _ _ _ _
   refine awp_ret ?_
   refine ⟨_, (.cons (.tmp (by exact .d _)) .nil), ?_⟩
   rfl
  ·
   exfalso
   simp at hc3
   exact hN ⟨hc3.1.1, hc3.1.2, inR_iff.1 hc3.2⟩
theorem topWithin_p (t : Tsk) (c : Int) (p : Int × Int) : PC Tryz.prog 15 [.agg (tskC t), .v (.int .i64 (c)), .agg (shC p)] (.v (.bool true)) := by
  by_cases h1 : litB t = true ∧ (ckT t).2 = 0 ∧ (0 ≤ c ∧ c ≤ t.g.co * t.g.ro - 1)
  · obtain ⟨hl, hk, hci⟩ := h1
    have ht := ckT_ok hk
    by_cases hE : nzE p.1 p.2 t.bf.length = 0
    · cases hB : (nyS t p).any bigB with
      | true => exact topWithinB_p t c p hk ht hl hci hE hB
      | false => exact topWithinOk_p t c p hk ht hl hci hE hB
    · exact topWithinE_p t c p hk ht hl hci hE
  · exact topWithinN_p t c p h1
end Go.Proofs.YtamaocfjknpadaaGreat.Am.M
