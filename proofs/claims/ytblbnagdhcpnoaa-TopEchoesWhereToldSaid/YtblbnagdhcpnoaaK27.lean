/- Contracts over the abstract machine: TopEchoesWhereTold. Conditions: none. -/
import Derived.Test.YtblbnagdhcpnoaaK26
set_option linter.unusedVariables false
set_option linter.unusedSimpArgs false
-- mini
namespace Go.Proofs.Ytblbnagdhcpnoaa.Am.M
open Go

theorem ex_smp : smpR oneS.ar (0, 400) (0, 0) = (2, 0) := by decide +kernel
set_option maxRecDepth 100000 in
theorem benched_p  : PC Try.prog 45 [] (.v (.bool (true))) := by
  refine pc_of_awpN Try.func45 rfl Try.ntmps45 (rs := [.tmp 0]) Try.results45 (by simp) fun w0 hmine hrnd hpn => ?_
  refine awp_seq ?_
  refine awp_region 1 mixed (by kernel_rfl) ?_
  refine rg_q (q_assign (x := .d (.v _)) rfl) ?_
  refine rg_nil ?_
  refine aops_nil ?_
  change Awp _ _ _ _ _
  refine awp_seq ?_
  refine awp_region 6 mixed (by kernel_rfl) ?_
  refine rg_q (q_call en48 .nil rfl (one_p)) ?_
  refine rg_q (q_buildA (cs := [_, _]) ar75 zr75 rfl .nil trivial rfl) ?_
  refine rg_q (q_call en37 (.cons rfl (.cons rfl .nil)) rfl ((by have h := traceOfS_p oneS (0, 0); rw [ex_tc] at h; exact h))) ?_
  refine rg_q (q_move (x := .d (.tup _)) rfl) ?_
  refine rg_q (q_extract rfl rfl) ?_
  refine rg_q (q_extract rfl rfl) ?_
  refine rg_nil ?_
  refine aops_alloc zr61 rfl rfl rfl ?_
  refine aops_store (cs' := exB.map fd) sz61 rfl rfl (by exact .inr ⟨_, rfl⟩) rfl rfl (Nat.le_of_ble_eq_true rfl) rfl ?_
  refine aops_q rfl (q_assign (x := .d (.v _)) rfl) ?_
  refine aops_nil ?_
  change Awp _ _ _ _ _
  refine awp_seq ?_
  refine awp_region 10 mixed (by kernel_rfl) ?_
  refine rg_q (q_call en48 .nil rfl (one_p)) ?_
  refine rg_q (q_fieldA fd54_0 sz28 rfl rfl rfl) ?_
  refine rg_q (q_build (cs := [_, _]) pl38 zr38 rfl (.cons rfl (by exact .inl rfl) (.cons rfl (by exact .inl rfl) .nil)) ⟨⟨rfl, by decide⟩, ⟨rfl, by decide⟩, trivial⟩ rfl) ?_
  refine rg_q (q_buildA (cs := [_, _]) ar75 zr75 rfl .nil trivial rfl) ?_
  refine rg_q (q_call en38 (.cons rfl (.cons rfl (.cons rfl .nil))) rfl ((by have h := sampleOf_p oneS.ar (0, 400) (0, 0); rw [ex_smp] at h; exact h))) ?_
  refine rg_q (q_move (x := .d (.tup _)) rfl) ?_
  refine rg_q (q_extract rfl rfl) ?_
  refine rg_q (q_extract rfl rfl) ?_
  refine rg_q (q_assign (x := .d (.v _)) rfl) ?_
  refine rg_q (q_assign (x := .d (.v _)) rfl) ?_
  refine rg_nil ?_
  refine aops_nil ?_
  change Awp _ _ _ _ _
  refine awp_seq ?_
  refine awp_region 16 mixed (by kernel_rfl) ?_
  refine rg_q (q_move (x := .d (.v _)) rfl) ?_
  refine rg_q (q_eql rfl rfl) ?_
  refine rg_q (q_move (x := .d (.v _)) rfl) ?_
  refine rg_g rfl rfl (fun hG => (q_load_refA sz61 rfl rfl rfl rfl)) ?_
  refine rg_g rfl rfl (fun hG => (q_buildA ar61 zr61 rfl (.cons rfl (by exact .inl rfl) (.cons rfl (by exact .inl rfl) .nil)) ⟨⟨rfl, by decide⟩, ⟨rfl, by decide⟩, trivial⟩ rfl)) ?_
  refine rg_g rfl rfl (fun hG => (q_call en29 (.cons rfl (.cons rfl .nil)) rfl (sameTrace_p exB exB rfl rfl))) ?_
  refine rg_pick rfl rfl rfl rfl rfl rfl ?_
  refine rg_q (q_move (x := .d (.v _)) rfl) ?_
  refine rg_g rfl rfl (fun hG => (q_move (x := .d (.v _)) rfl)) ?_
  refine rg_g rfl rfl (fun hG => (q_eql rfl rfl)) ?_
  refine rg_pick rfl rfl rfl rfl rfl rfl ?_
  refine rg_q (q_move (x := .d (.v _)) rfl) ?_
  refine rg_g rfl rfl (fun hG => (q_move (x := .d (.v _)) rfl)) ?_
  refine rg_g rfl rfl (fun hG => (q_eql rfl rfl)) ?_
  refine rg_pick rfl rfl rfl rfl rfl rfl ?_
  refine rg_q (q_assign (x := .d (.v _)) rfl) ?_
  refine rg_nil ?_
  refine aops_nil ?_
  change Awp _ _ _ _ _
  refine awp_ret ?_
  refine ⟨_, (.cons (.tmp (by exact .d _)) .nil), ?_⟩
  simp [retD]

def zF : Flw := ⟨0, (0, 0), (0, 0), 0, 0, 0⟩
theorem fl_at0 {l : List Flw} (h : 0 < l.length) : l[0]? = some (l.getD 0 zF) := by rw [List.getD_eq_getElem?_getD, List.getElem?_eq_getElem h]; rfl
theorem pl_at0 {l : List Int} (h : 0 < l.length) : l[0]? = some (l.getD 0 0) := by rw [List.getD_eq_getElem?_getD, List.getElem?_eq_getElem h]; rfl
def ownS (s : Spc) : Spc := ⟨s.ar, s.pl.take 1, s.fl⟩
theorem pls_ok {l : List Int} (h : plsE l = 0) : 1 ≤ l.length ∧ l.any plsB = false := by
  unfold plsE at h
  by_cases h1 : l.length = 0
  · rw [if_pos h1] at h; cases h
  rw [if_neg h1] at h
  by_cases h2 : 16 < l.length
  · rw [if_pos h2] at h; cases h
  rw [if_neg h2, when_zero (by decide)] at h
  exact ⟨by omega, h⟩
theorem spc_pulse {s : Spc} (h : (ckSpc s).2 = 0) : plsE s.pl = 0 := by
  unfold ckSpc at h
  by_cases h1 : (ckArr s.ar).2 ≠ 0
  · rw [if_pos h1] at h; exact absurd h h1
  rw [if_neg h1] at h
  by_cases h2 : spcE0 s ≠ 0
  · rw [if_pos h2] at h; exact absurd h h2
  have h3 := Decidable.not_not.1 h2
  unfold spcE0 at h3
  exact first_zero.1 h3 _ (by simp)
theorem own_ok {s : Spc} (h : (ckSpc s).2 = 0) : (ckSpc (ownS s)).2 = 0 := by
  have hp := spc_pulse h
  obtain ⟨hl, ha⟩ := pls_ok hp
  have hq : plsE (s.pl.take 1) = 0 := by
    have hl1 : (s.pl.take 1).length = 1 := by rw [List.length_take]; omega
    unfold plsE
    rw [if_neg (by omega), if_neg (by omega), when_zero (by decide)]
    rw [List.any_eq_false] at ha ⊢
    exact fun x hx => ha x (List.mem_of_mem_take hx)
  have e : spcE0 (ownS s) = spcE0 s := by
    unfold spcE0
    rw [show (ownS s).pl = s.pl.take 1 from rfl, hq, hp]; rfl
  unfold ckSpc at h ⊢
  rw [e]
  exact h
def spk (n v : Int) : List Int := if 0 ≤ n ∧ n ≤ 63 then zI.set n.toNat v else zI
theorem own_smT {s : Spc} {x : Flw} {pr : Int × Int} (hp : 1 ≤ s.pl.length) (hf : s.fl = [x]) (hk : x.kd = 0) : smT (ownS s).ar (ownS s).pl pr (ptsS (ownS s)) (ptsS (ownS s)).length = spk (smpI s.ar x.at_ pr) (x.am * s.pl.getD 0 0) := by
  have hpt : ptsS (ownS s) = [(x.at_, x.am)] := by
    show s.fl.flatMap ptsL = _
    rw [hf, List.flatMap_cons]
    unfold ptsL
    rw [if_pos hk]; rfl
  rw [hpt]
  have hp1 : (ownS s).pl = [s.pl.getD 0 0] := by
    show s.pl.take 1 = _
    cases h : s.pl with
    | nil => rw [h] at hp; simp at hp
    | cons a l => rfl
  rw [hp1]
  show adT zI [s.pl.getD 0 0] x.am (smpI s.ar x.at_ pr) 1 = _
  unfold adT spk
  rw [show smpI s.ar x.at_ pr + ((0 : Nat) : Int) = smpI s.ar x.at_ pr by omega]
  by_cases h : 0 ≤ smpI s.ar x.at_ pr ∧ smpI s.ar x.at_ pr ≤ 63
  · rw [if_pos h, if_pos h]
    have hz : (adT zI [s.pl.getD 0 0] x.am (smpI s.ar x.at_ pr) 0).getD (smpI s.ar x.at_ pr).toNat 0 = 0 := by
      show zI.getD _ 0 = 0
      rw [List.getD_eq_getElem?_getD]
      cases hq : zI[(smpI s.ar x.at_ pr).toNat]? with
      | none => rfl
      | some v => exact List.eq_of_mem_replicate (List.mem_of_getElem? hq)
    rw [hz, Int.zero_add]; rfl
  · rw [if_neg h, if_neg h]; rfl
theorem spk_len (n v : Int) : (spk n v).length = 64 := by
  unfold spk
  split
  · rw [List.length_set]; rfl
  · rfl
theorem spk_at (n v : Int) {k : Nat} (hk : k < 64) : sAt (spk n v) k = if n = (k : Int) then v else 0 := by
  have hz : ∀ j, zI.getD j 0 = 0 := fun j => by
    rw [List.getD_eq_getElem?_getD]
    cases hq : zI[j]? with
    | none => rfl
    | some u => exact List.eq_of_mem_replicate (List.mem_of_getElem? hq)
  unfold sAt spk
  by_cases h : 0 ≤ n ∧ n ≤ 63
  · rw [if_pos h]
    by_cases hn : n = (k : Int)
    · rw [if_pos hn, List.getD_eq_getElem?_getD, List.getElem?_set]
      have e : n.toNat = k := by omega
      rw [if_pos e, if_pos (by show n.toNat < 64; omega)]; rfl
    · rw [if_neg hn, List.getD_eq_getElem?_getD, List.getElem?_set, if_neg (by omega), ← List.getD_eq_getElem?_getD]
      exact hz k
  · rw [if_neg h, if_neg (by omega)]; exact hz k
theorem spk_sq (n v : Int) {k : Nat} (hk : k < 61) : sqI (spk n v) k = if inR (k : Int) n ((k : Int) + 3) = true ∧ inR 0 n 63 = true then v * v else 0 := by
  unfold sqI reI imI
  rw [spk_at n v (show k < 64 by omega), spk_at n v (show k + 1 < 64 by omega), spk_at n v (show k + 2 < 64 by omega), spk_at n v (show k + 3 < 64 by omega)]
  by_cases h : (k : Int) ≤ n ∧ n ≤ (k : Int) + 3
  · have hr : (if inR (k : Int) n ((k : Int) + 3) = true ∧ inR 0 n 63 = true then v * v else 0) = v * v := if_pos ⟨by unfold inR; rw [decide_eq_true h.1, decide_eq_true h.2]; rfl, by unfold inR; rw [decide_eq_true (show 0 ≤ n by omega), decide_eq_true (show n ≤ 63 by omega)]; rfl⟩
    rw [hr]
    have h4 : n = (k : Int) ∨ n = ((k + 1 : Nat) : Int) ∨ n = ((k + 2 : Nat) : Int) ∨ n = ((k + 3 : Nat) : Int) := by omega
    rcases h4 with h | h | h | h
    · rw [if_pos h, if_neg (by omega), if_neg (by omega), if_neg (by omega)]; simp
    · rw [if_neg (by omega), if_neg (by omega), if_pos h, if_neg (by omega)]; simp [Int.neg_mul_neg]
    · rw [if_neg (by omega), if_pos h, if_neg (by omega), if_neg (by omega)]; simp [Int.neg_mul_neg]
    · rw [if_neg (by omega), if_neg (by omega), if_neg (by omega), if_pos h]; simp [Int.neg_mul_neg]
  · have hr : (if inR (k : Int) n ((k : Int) + 3) = true ∧ inR 0 n 63 = true then v * v else 0) = 0 := if_neg (fun q => h (by have := q.1; unfold inR at this; rw [Bool.and_eq_true] at this; exact ⟨of_decide_eq_true this.1, of_decide_eq_true this.2⟩))
    rw [hr, if_neg (by omega), if_neg (by omega), if_neg (by omega), if_neg (by omega)]; simp
theorem big_all {S : List Int} (h : S.any bigB = false) : ∀ v ∈ S, -2047 ≤ v ∧ v ≤ 2047 := by
  intro v hv
  have := List.any_eq_false.1 h v hv
  unfold bigB at this
  simp [inR] at this
  omega
theorem tcR_is {s : Spc} {pr : Int × Int} (h1 : (ckSpc s).2 = 0) (h2 : pairE s.ar.el.length pr = 0) : tcR s pr = trcR s (ptsS s) pr := by
  unfold tcR; rw [if_neg (fun q => q h1), if_neg (fun q => q h2)]
theorem trR_ln (s : Spc) (p : Int × Int) : (tcR s p).1.length = 64 := by
  unfold tcR
  split
  · rfl
  · split
    · rfl
    · exact trcR_len _ _ _
theorem env_at {S : List Int} {k : Nat} (hk : k < 61) : ((envL S).map iv)[0 + (k : Int).toNat * 1]? = some (iv (sqI S k)) := by
  rw [Int.toNat_natCast, Nat.zero_add, Nat.mul_one, List.getElem?_map]
  unfold envL
  rw [List.getElem?_map, List.getElem?_range hk]; rfl
theorem fl_pts0 {t : Int} {x : Flw} (h : flE t x = 0) (hk : x.kd = 0) : spotE x.at_ = 0 ∧ plateE x.at_.2 t = 0 := by
  rw [flE_is] at h
  by_cases h0 : flwE x = 0
  · have hr : ∀ a b : Int, (if flwE x ≠ 0 then a else b) = b := fun a b => if_neg (fun q => q h0)
    rw [hr] at h
    have hok := flw_ok h0
    have := hok.a1
    have := hok.a2
    refine ⟨spot_ok.2 (by omega), ?_⟩
    by_cases h1 : inR 1 x.at_.2 (t - 1) = true
    · rw [plateE_is, if_pos h1]
    · rw [if_pos (.inl (by simpa using h1))] at h; cases h
  · have hr : ∀ a b : Int, (if flwE x ≠ 0 then a else b) = a := fun a b => if_pos h0
    rw [hr] at h; exact absurd h h0
theorem ckFls_one {t : Int} {x : Flw} (h : (ckFls t 0 [x]).2 = 0) : flE t x = 0 := by
  unfold ckFls at h
  by_cases h1 : flE t x ≠ 0
  · rw [if_pos h1] at h; exact absurd h h1
  · exact Decidable.not_not.1 h1
theorem spc_fls {s : Spc} (h : (ckSpc s).2 = 0) : (ckFls s.ar.ou.t 0 s.fl).2 = 0 := by
  unfold ckSpc at h
  by_cases h1 : (ckArr s.ar).2 ≠ 0
  · rw [if_pos h1] at h; exact absurd h h1
  rw [if_neg h1] at h
  by_cases h2 : spcE0 s ≠ 0
  · rw [if_pos h2] at h; exact absurd h h2
  rwa [if_neg h2] at h
set_option maxRecDepth 100000 in
theorem topEchoes_p (s : Spc) (pr : Int × Int) : PC Try.prog 11 [.agg (spcC s), .agg (shC pr)] (.v (.bool (true))) := by
  refine pc_of_awpN Try.func11 rfl Try.ntmps11 (rs := [.tmp 4]) Try.results11 (by simp) fun w0 hmine hrnd hpn => ?_
  refine awp_seq ?_
  refine awp_region 3 mixed (by kernel_rfl) ?_
  refine rg_q (q_box rfl (by exact .inr ⟨_, rfl⟩)) ?_
  refine rg_q (q_box rfl (by exact .inr ⟨_, rfl⟩)) ?_
  refine rg_q (q_assign (x := .d (.v _)) rfl) ?_
  refine rg_nil ?_
  refine aops_nil ?_
  change Awp _ _ _ _ _
  refine awp_seq ?_
  refine awp_seq ?_
  refine awp_region 2 mixed (by kernel_rfl) ?_
  refine rg_q (q_call en45 .nil rfl (benched_p)) ?_
  refine rg_q (q_not rfl) ?_
  refine rg_nil ?_
  refine aops_nil ?_
  change Awp _ _ _ _ _
  refine awp_cond rfl (fun hc1 => ?_) (fun hc1 => ?_)
  ·
    simp at hc1
  ·
    (try simp only [decide_eq_true_eq, decide_eq_false_iff_not, Bool.and_eq_true, Bool.or_eq_true, Bool.and_eq_false_iff, Bool.or_eq_false_iff, Bool.not_eq_true', Bool.not_eq_false', Bool.not_true, Bool.not_false, bif_and, bif_or, Bool.not_not, ne_eq, Decidable.not_not, not_true_eq_false, not_false_eq_true, Int.not_le, Int.not_lt] at hc1)
    refine awp_skip ?_
    change Awp _ _ _ _ _
    refine awp_seq ?_
    refine awp_seq ?_
    refine awp_region 29 mixed (by kernel_rfl) ?_
    refine rg_q (q_loadA sz54 rfl rfl rfl) ?_
    refine rg_q (q_call en22 (.cons rfl .nil) rfl (slight_p s)) ?_
    refine rg_q (q_not rfl) ?_
    refine rg_q (q_move (x := .d (.v _)) rfl) ?_
    refine rg_g rfl rfl (fun hG => (q_loadA sz54 rfl rfl rfl)) ?_
    refine rg_g rfl rfl (fun hG => (q_call en34 (.cons rfl .nil) rfl (specimenErr_p s))) ?_
    refine rg_g rfl rfl (fun hG => (q_neq rfl rfl)) ?_
    refine rg_pick rfl rfl rfl rfl rfl rfl ?_
    refine rg_q (q_move (x := .d (.v _)) rfl) ?_
    refine rg_g rfl rfl (fun hG => (q_fieldAddr fld54_0 rfl)) ?_
    refine rg_g rfl rfl (fun hG => (q_loadA (ds := [_, _, _, _, _, _, _, _, _, _, _]) sz28 rfl rfl rfl)) ?_
    refine rg_g rfl rfl (fun hG => (q_loadA (ds := [_, _]) sz75 rfl rfl rfl)) ?_
    refine rg_g rfl rfl (fun hG => (q_call en35 (.cons rfl (.cons rfl .nil)) rfl (rpairErr_p s.ar pr (by have hg0 := T.bool_inj (a := _) hG.1; (try simp only [decide_eq_true_eq, decide_eq_false_iff_not, Bool.and_eq_true, Bool.or_eq_true, Bool.and_eq_false_iff, Bool.or_eq_false_iff, Bool.not_eq_true', Bool.not_eq_false', Bool.not_true, Bool.not_false, bif_and, bif_or, Bool.not_not, ne_eq, Decidable.not_not, not_true_eq_false, not_false_eq_true, Int.not_le, Int.not_lt] at hg0); have := (sli_le hg0.1).1; omega)))) ?_
    refine rg_g rfl rfl (fun hG => (q_neq rfl rfl)) ?_
    refine rg_pick rfl rfl rfl rfl rfl rfl ?_
    refine rg_q (q_move (x := .d (.v _)) rfl) ?_
    refine rg_g rfl rfl (fun hG => (q_fieldAddr fld54_2 rfl)) ?_
    refine rg_g rfl rfl (fun hG => (q_load sz52 rfl rfl)) ?_
    refine rg_g rfl rfl (fun hG => (q_len isl52 rfl (by exact len_map _ _))) ?_
    refine rg_g rfl rfl (fun hG => (q_neq rfl rfl)) ?_
    refine rg_pick rfl rfl rfl rfl rfl rfl ?_
    refine rg_q (q_move (x := .d (.v _)) rfl) ?_
    refine rg_g rfl rfl (fun hG => (q_fieldAddr fld54_2 rfl)) ?_
    refine rg_g rfl rfl (fun hG => (q_load sz52 rfl rfl)) ?_
    refine rg_g rfl rfl (fun hG => (q_indexAddr sl52 rfl rfl (by (have hg0 := T.bool_inj (a := _) hG.1; (try simp only [decide_eq_true_eq, decide_eq_false_iff_not, Bool.and_eq_true, Bool.or_eq_true, Bool.and_eq_false_iff, Bool.or_eq_false_iff, Bool.not_eq_true', Bool.not_eq_false', Bool.not_true, Bool.not_false, bif_and, bif_or, Bool.not_not, ne_eq, Decidable.not_not, not_true_eq_false, not_false_eq_true, Int.not_le, Int.not_lt] at hg0); omega)) (map_at (k := 0) (by rfl) (fl_at0 (by (have hg0 := T.bool_inj (a := _) hG.1; (try simp only [decide_eq_true_eq, decide_eq_false_iff_not, Bool.and_eq_true, Bool.or_eq_true, Bool.and_eq_false_iff, Bool.or_eq_false_iff, Bool.not_eq_true', Bool.not_eq_false', Bool.not_true, Bool.not_false, bif_and, bif_or, Bool.not_not, ne_eq, Decidable.not_not, not_true_eq_false, not_false_eq_true, Int.not_le, Int.not_lt] at hg0); omega)))))) ?_
    refine rg_g rfl rfl (fun hG => (q_fieldAddr fld40_0 rfl)) ?_
    refine rg_g rfl rfl (fun hG => (q_load sz3 rfl rfl)) ?_
    refine rg_g rfl rfl (fun hG => (q_neq rfl rfl)) ?_
    refine rg_pick rfl rfl rfl rfl rfl rfl ?_
    refine rg_nil ?_
    refine aops_nil ?_
    change Awp _ _ _ _ _
    refine awp_cond rfl (fun hc3 => ?_) (fun hc3 => ?_)
    ·
      (try simp only [decide_eq_true_eq, decide_eq_false_iff_not, Bool.and_eq_true, Bool.or_eq_true, Bool.and_eq_false_iff, Bool.or_eq_false_iff, Bool.not_eq_true', Bool.not_eq_false', Bool.not_true, Bool.not_false, bif_and, bif_or, Bool.not_not, ne_eq, Decidable.not_not, not_true_eq_false, not_false_eq_true, Int.not_le, Int.not_lt] at hc3)
      refine awp_seq ?_
      refine awp_region 1 mixed (by kernel_rfl) ?_
      refine rg_q (q_assign (x := .d (.v _)) rfl) ?_
      refine rg_nil ?_
      refine aops_nil ?_
      change Awp _ _ _ _ _
      refine awp_ret ?_
      refine ⟨_, (.cons (.tmp (by exact .d _)) .nil), ?_⟩
      rfl
    ·
      (try simp only [decide_eq_true_eq, decide_eq_false_iff_not, Bool.and_eq_true, Bool.or_eq_true, Bool.and_eq_false_iff, Bool.or_eq_false_iff, Bool.not_eq_true', Bool.not_eq_false', Bool.not_true, Bool.not_false, bif_and, bif_or, Bool.not_not, ne_eq, Decidable.not_not, not_true_eq_false, not_false_eq_true, Int.not_le, Int.not_lt] at hc3)
      obtain ⟨⟨⟨⟨hsl, h0⟩, hp0⟩, hl1⟩, hkd⟩ := hc3
      obtain ⟨x, hfx⟩ : ∃ x, s.fl = [x] := by
        match hq : s.fl with
        | [] => rw [hq] at hl1; simp at hl1
        | [x] => exact ⟨x, rfl⟩
        | x :: y :: l => rw [hq] at hl1; simp at hl1; omega
      have hx0 : s.fl[0]? = some x := by rw [hfx]; rfl
      have hk : x.kd = 0 := by rw [hfx] at hkd; exact hkd
      obtain ⟨l1, l2, l3⟩ := sli_le hsl
      have hsp := spc_ok h0
      have hok := hsp.ar
      obtain ⟨hpl1, hpany⟩ := pls_ok (spc_pulse h0)
      have hpk := pair_ok hp0
      have hfe := ckFls_one (x := x) (by have := spc_fls h0; rwa [hfx] at this)
      obtain ⟨hs, hpt⟩ := fl_pts0 hfe hk
      have hoz : opE s.ar x.at_ pr = 0 := by
        have hck : (ckArr s.ar).2 = 0 := by
          unfold ckSpc at h0
          by_cases h1 : (ckArr s.ar).2 ≠ 0
          · rw [if_pos h1] at h0; exact absurd h0 h1
          · exact Decidable.not_not.1 h1
        unfold opE
        rw [if_neg (fun q => q hck)]
        exact first_zero.2 (by intro y hy; simp only [List.mem_cons, List.not_mem_nil, or_false] at hy; rcases hy with rfl | rfl | rfl; exact hs; exact hpt; exact hp0)
      have hsm : smpR s.ar x.at_ pr = (smpI s.ar x.at_ pr, 0) := by unfold smpR; rw [if_neg (fun q => q hoz)]
      have how := own_ok h0
      have htc : tcR (ownS s) pr = trcR (ownS s) (ptsS (ownS s)) pr := tcR_is how hp0
      have hsmT := own_smT (pr := pr) hpl1 hfx hk
      have htl := trR_ln (ownS s) pr
      have hsz := smp_in hok x.at_ pr
      have hxok := hsp.fl x (by rw [hfx]; simp)
      have hpb := hsp.p2 (s.pl.getD 0 0) (List.mem_of_getElem? (pl_at0 hpl1))
      have hva := amp_mul hxok.am hsp.p2 (s.pl.getD 0 0) (List.mem_of_getElem? (pl_at0 hpl1))
      have hvm := mulb (a := x.am * s.pl.getD 0 0) (b := x.am * s.pl.getD 0 0) (A := 100000) (B := 100000) (by omega) (by omega) (by omega) (by omega)
      refine awp_skip ?_
      change Awp _ _ _ _ _
      refine awp_seq ?_
      refine awp_region 2 mixed (by kernel_rfl) ?_
      refine rg_q (q_loadA sz54 rfl rfl rfl) ?_
      refine rg_q (q_call en24 (.cons rfl .nil) rfl (copySpc_p s (by omega) (by omega) (by omega))) ?_
      refine rg_nil ?_
      refine aops_alloc zr54 rfl rfl rfl ?_
      refine aops_store sz54 rfl rfl (by exact .inr ⟨_, rfl⟩) rfl rfl (by decide) rfl ?_
      refine aops_nil ?_
      change Awp _ _ _ _ _
      refine awp_seq ?_
      refine awp_region 4 mixed (by kernel_rfl) ?_
      refine rg_q (q_fieldAddr_ref fld54_1 rfl) ?_
      refine rg_q (q_load_ref sz51 rfl rfl rfl) ?_
      refine rg_q (q_slice (hi := 1) sl51 rfl rfl rfl (Nat.zero_le _) (by rw [List.length_map]; exact hpl1) (by exact map_slice _ _ _ _)) ?_
      refine rg_q (q_fieldAddr_ref fld54_1 rfl) ?_
      refine rg_nil ?_
      refine aops_store sz51 rfl rfl (by exact .inl rfl) rfl rfl (by exact Nat.le_of_ble_eq_true rfl) rfl ?_
      refine aops_nil ?_
      change Awp _ _ _ _ _
      refine awp_seq ?_
      refine awp_region 15 mixed (by kernel_rfl) ?_
      refine rg_q (q_fieldAddr fld54_0 rfl) ?_
      refine rg_q (q_loadA (ds := [_, _, _, _, _, _, _, _, _, _, _]) sz28 rfl rfl rfl) ?_
      refine rg_q (q_call en15 (.cons rfl .nil) rfl (copyArr_p s.ar (by omega))) ?_
      refine rg_q (q_fieldAddr fld54_2 rfl) ?_
      refine rg_q (q_load sz52 rfl rfl) ?_
      refine rg_q (q_indexAddr sl52 rfl rfl (by omega) (map_at (k := 0) (by rfl) hx0)) ?_
      refine rg_q (q_fieldAddr fld40_1 rfl) ?_
      refine rg_q (q_loadA (ds := [_, _]) sz38 rfl rfl rfl) ?_
      refine rg_q (q_loadA (ds := [_, _]) sz75 rfl rfl rfl) ?_
      refine rg_q (q_call en38 (.cons rfl (.cons rfl (.cons rfl .nil))) rfl (sampleOf_p s.ar x.at_ pr)) ?_
      refine rg_q (q_move (x := .d (.tup _)) rfl) ?_
      refine rg_q (q_extract rfl rfl) ?_
      refine rg_q (q_extract rfl rfl) ?_
      refine rg_q (q_assign (x := .d (.v _)) rfl) ?_
      refine rg_q (q_assign (x := .d (.v _)) rfl) ?_
      refine rg_nil ?_
      refine aops_nil ?_
      change Awp _ _ _ _ _
      refine awp_seq ?_
      refine awp_region 6 mixed (by kernel_rfl) ?_
      refine rg_q (q_load_refA sz54 rfl rfl rfl rfl) ?_
      refine rg_q (q_loadA (ds := [_, _]) sz75 rfl rfl rfl) ?_
      refine rg_q (q_call en37 (.cons rfl (.cons rfl .nil)) rfl (traceOfS_p (ownS s) pr)) ?_
      refine rg_q (q_move (x := .d (.tup _)) rfl) ?_
      refine rg_q (q_extract rfl rfl) ?_
      refine rg_q (q_extract rfl rfl) ?_
      refine rg_nil ?_
      refine aops_allocD zr61 rfl sz61 rfl rfl (by exact .inr ⟨_, rfl⟩) htl rfl ?_
      refine aops_q rfl (q_assign (x := .d (.v _)) rfl) ?_
      refine aops_nil ?_
      change Awp _ _ _ _ _
      refine awp_seq ?_
      refine awp_seq ?_
      refine awp_region 6 mixed (by kernel_rfl) ?_
      refine rg_q (q_move (x := .d (.v _)) rfl) ?_
      refine rg_q (q_neq rfl rfl) ?_
      refine rg_q (q_move (x := .d (.v _)) rfl) ?_
      refine rg_g rfl rfl (fun hG => (q_move (x := .d (.v _)) rfl)) ?_
      refine rg_g rfl rfl (fun hG => (q_neq rfl rfl)) ?_
      refine rg_pick rfl rfl rfl rfl rfl rfl ?_
      refine rg_nil ?_
      refine aops_nil ?_
      change Awp _ _ _ _ _
      refine awp_cond rfl (fun hc9 => ?_) (fun hc9 => ?_)
      ·
        (try simp only [decide_eq_true_eq, decide_eq_false_iff_not, Bool.and_eq_true, Bool.or_eq_true, Bool.and_eq_false_iff, Bool.or_eq_false_iff, Bool.not_eq_true', Bool.not_eq_false', Bool.not_true, Bool.not_false, bif_and, bif_or, Bool.not_not, ne_eq, Decidable.not_not, not_true_eq_false, not_false_eq_true, Int.not_le, Int.not_lt] at hc9)
        have hbg : (spk (smpI s.ar x.at_ pr) (x.am * s.pl.getD 0 0)).any bigB = true := by
          cases hq : (spk (smpI s.ar x.at_ pr) (x.am * s.pl.getD 0 0)).any bigB with
          | true => rfl
          | false =>
            rw [hsm] at hc9
            rw [htc] at hc9
            unfold trcR at hc9
            rw [hsmT, hq] at hc9
            simp at hc9
        have he8 : (tcR (ownS s) pr).2 = 8 := by rw [htc]; unfold trcR; rw [hsmT, hbg]; rfl
        refine awp_seq ?_
        refine awp_region 7 mixed (by kernel_rfl) ?_
        refine rg_q (q_move (x := .d (.v _)) rfl) ?_
        refine rg_q (q_eql rfl rfl) ?_
        refine rg_q (q_move (x := .d (.v _)) rfl) ?_
        refine rg_g rfl rfl (fun hG => (q_move (x := .d (.v _)) rfl)) ?_
        refine rg_g rfl rfl (fun hG => (q_eql rfl rfl)) ?_
        refine rg_pick rfl rfl rfl rfl rfl rfl ?_
        refine rg_q (q_assign (x := .d (.v _)) rfl) ?_
        refine rg_nil ?_
        refine aops_nil ?_
        change Awp _ _ _ _ _
        refine awp_ret ?_
        refine ⟨_, (.cons (.tmp (by exact .d _)) .nil), ?_⟩
        rw [hsm, he8]; simp [retD]
      ·
        (try simp only [decide_eq_true_eq, decide_eq_false_iff_not, Bool.and_eq_true, Bool.or_eq_true, Bool.and_eq_false_iff, Bool.or_eq_false_iff, Bool.not_eq_true', Bool.not_eq_false', Bool.not_true, Bool.not_false, bif_and, bif_or, Bool.not_not, ne_eq, Decidable.not_not, not_true_eq_false, not_false_eq_true, Int.not_le, Int.not_lt] at hc9)
        have hbg : (spk (smpI s.ar x.at_ pr) (x.am * s.pl.getD 0 0)).any bigB = false := by
          cases hq : (spk (smpI s.ar x.at_ pr) (x.am * s.pl.getD 0 0)).any bigB with
          | false => rfl
          | true =>
            have he8 : (tcR (ownS s) pr).2 = 8 := by rw [htc]; unfold trcR; rw [hsmT, hq]; rfl
            have := hc9.2
            rw [he8] at this; simp at this
        have hall := big_all hbg
        have htf : tcR (ownS s) pr = ((spk (smpI s.ar x.at_ pr) (x.am * s.pl.getD 0 0)).map fv, 0) := by rw [htc]; unfold trcR; rw [hsmT, hbg]; rfl
        rw [htf]
        refine awp_skip ?_
        change Awp _ _ _ _ _
        refine awp_seq ?_
        refine awp_region 5 mixed (by kernel_rfl) ?_
        refine rg_q (q_loadA (ds := (spk (smpI s.ar x.at_ pr) (x.am * s.pl.getD 0 0)).map fv) sz61 rfl (by rw [List.drop_zero]; exact List.take_of_length_le (by show ((spk (smpI s.ar x.at_ pr) (x.am * s.pl.getD 0 0)).map fv).length ≤ 64; rw [List.length_map, spk_len]; exact Nat.le_refl _)) (by rw [List.length_map, spk_len])) ?_
        refine rg_q (q_call en46 (.cons rfl .nil) rfl (envelope_p (spk (smpI s.ar x.at_ pr) (x.am * s.pl.getD 0 0)) (spk_len _ _) hall)) ?_
        refine rg_q (q_move (x := .d (.tup _)) rfl) ?_
        refine rg_q (q_extract rfl rfl) ?_
        refine rg_q (q_extract rfl rfl) ?_
        refine rg_nil ?_
        refine aops_allocD zr95 rfl sz95 rfl rfl (by exact .inr ⟨_, rfl⟩) (envL_len _) rfl ?_
        refine aops_q rfl (q_assign (x := .d (.v _)) rfl) ?_
        refine aops_nil ?_
        change Awp _ _ _ _ _
        refine awp_seq ?_
        refine awp_seq ?_
        refine awp_region 2 mixed (by kernel_rfl) ?_
        refine rg_q (q_move (x := .d (.v _)) rfl) ?_
        refine rg_q (q_neq rfl rfl) ?_
        refine rg_nil ?_
        refine aops_nil ?_
        change Awp _ _ _ _ _
        refine awp_cond rfl (fun hc12 => ?_) (fun hc12 => ?_)
        ·
          simp at hc12
        ·
          (try simp only [decide_eq_true_eq, decide_eq_false_iff_not, Bool.and_eq_true, Bool.or_eq_true, Bool.and_eq_false_iff, Bool.or_eq_false_iff, Bool.not_eq_true', Bool.not_eq_false', Bool.not_true, Bool.not_false, bif_and, bif_or, Bool.not_not, ne_eq, Decidable.not_not, not_true_eq_false, not_false_eq_true, Int.not_le, Int.not_lt] at hc12)
          refine awp_skip ?_
          change Awp _ _ _ _ _
          refine awp_seq ?_
          refine awp_region 11 mixed (by kernel_rfl) ?_
          refine rg_q (q_fieldAddr fld54_2 rfl) ?_
          refine rg_q (q_load sz52 rfl rfl) ?_
          refine rg_q (q_indexAddr sl52 rfl rfl (by omega) (map_at (k := 0) (by rfl) hx0)) ?_
          refine rg_q (q_fieldAddr fld40_4 rfl) ?_
          refine rg_q (q_load sz3 rfl rfl) ?_
          refine rg_q (q_fieldAddr fld54_1 rfl) ?_
          refine rg_q (q_load sz51 rfl rfl) ?_
          refine rg_q (q_indexAddr sl51 rfl rfl (by omega) (map_at (k := 0) (by rfl) (pl_at0 hpl1))) ?_
          refine rg_q (q_load sz3 rfl rfl) ?_
          refine rg_q (q_mul rfl rfl (In64.mk (by omega) (by omega))) ?_
          refine rg_q (q_assign (x := .d (.v _)) rfl) ?_
          refine rg_nil ?_
          refine aops_nil ?_
          change Awp _ _ _ _ _
          refine awp_seq ?_
          refine awp_seq ?_
          refine awp_region 1 mixed (by kernel_rfl) ?_
          refine rg_q (q_assign (x := .d (.v _)) rfl) ?_
          refine rg_nil ?_
          refine aops_nil ?_
          change Awp _ _ _ _ _
          refine awp_block ?_
          refine awp_loopH [4, 13, 14, 100, 101, 102, 103, 104, 105, 106, 107, 108, 109, 110, 111, 112, 113, 114, 115, 116, 117, 118, 119, 120] [] (α := Nat) (fun k => [(13, T.i (k : Int))]) (fun k => []) (fun k => k ≤ 61) (fun k => 61 - k) 0 (Nat.zero_le _) ?_ ?_
          · exact le_head (ms := []) (by repeat (exact Out.refl _)) ⟨(by rfl), trivial⟩ trivial rfl rfl rfl rfl
          ·
            intro k hk61
            refine awp_seq ?_
            refine awp_seq ?_
            refine awp_region 2 mixed (by kernel_rfl) ?_
            refine rg_q (q_move (x := .d (.v _)) rfl) ?_
            refine rg_q (q_lss rfl rfl) ?_
            refine rg_nil ?_
            refine aops_nil ?_
            change Awp _ _ _ _ _
            refine awp_cond rfl (fun hc16 => ?_) (fun hc16 => ?_)
            ·
              (try simp only [decide_eq_true_eq, decide_eq_false_iff_not, Bool.and_eq_true, Bool.or_eq_true, Bool.and_eq_false_iff, Bool.or_eq_false_iff, Bool.not_eq_true', Bool.not_eq_false', Bool.not_true, Bool.not_false, bif_and, bif_or, Bool.not_not, ne_eq, Decidable.not_not, not_true_eq_false, not_false_eq_true, Int.not_le, Int.not_lt] at hc16)
              have hlt : k < 61 := by omega
              have hsq := spk_sq (smpI s.ar x.at_ pr) (x.am * s.pl.getD 0 0) hlt
              have hld := env_at (S := spk (smpI s.ar x.at_ pr) (x.am * s.pl.getD 0 0)) hlt
              refine awp_skip ?_
              change Awp _ _ _ _ _
              refine awp_seq ?_
              refine awp_block ?_
              refine awp_seq ?_
              refine awp_region 1 mixed (by kernel_rfl) ?_
              refine rg_q (q_assign (x := .d (.v _)) rfl) ?_
              refine rg_nil ?_
              refine aops_nil ?_
              change Awp _ _ _ _ _
              refine awp_seq ?_
              refine awp_seq ?_
              refine awp_region 9 mixed (by kernel_rfl) ?_
              refine rg_q (q_move (x := .d (.v _)) rfl) ?_
              refine rg_q (q_move (x := .d (.v _)) rfl) ?_
              refine rg_q (q_move (x := .d (.v _)) rfl) ?_
              refine rg_q (q_add rfl rfl (In64.mk (by omega) (by omega))) ?_
              refine rg_q (q_call en33 (.cons rfl (.cons rfl (.cons rfl .nil))) rfl (within4_p _ _ _)) ?_
              refine rg_q (q_move (x := .d (.v _)) rfl) ?_
              refine rg_g rfl rfl (fun hG => (q_move (x := .d (.v _)) rfl)) ?_
              refine rg_g rfl rfl (fun hG => (q_call en33 (.cons rfl (.cons rfl (.cons rfl .nil))) rfl (within4_p _ _ _))) ?_
              refine rg_pick rfl rfl rfl rfl rfl rfl ?_
              refine rg_nil ?_
              refine aops_nil ?_
              change Awp _ _ _ _ _
              refine awp_cond rfl (fun hc19 => ?_) (fun hc19 => ?_)
              ·
                (try simp only [decide_eq_true_eq, decide_eq_false_iff_not, Bool.and_eq_true, Bool.or_eq_true, Bool.and_eq_false_iff, Bool.or_eq_false_iff, Bool.not_eq_true', Bool.not_eq_false', Bool.not_true, Bool.not_false, bif_and, bif_or, Bool.not_not, ne_eq, Decidable.not_not, not_true_eq_false, not_false_eq_true, Int.not_le, Int.not_lt] at hc19)
                rw [hsm] at hc19
                rw [if_pos hc19] at hsq
                refine awp_region 4 mixed (by kernel_rfl) ?_
                refine rg_q (q_move (x := .d (.v _)) rfl) ?_
                refine rg_q (q_move (x := .d (.v _)) rfl) ?_
                refine rg_q (q_mul rfl rfl (In64.mk (by omega) (by omega))) ?_
                refine rg_q (q_assign (x := .d (.v _)) rfl) ?_
                refine rg_nil ?_
                refine aops_nil ?_
                change Awp _ _ _ _ _
                refine awp_seq ?_
                refine awp_region 5 mixed (by kernel_rfl) ?_
                refine rg_q (q_move (x := .d (.v _)) rfl) ?_
                refine rg_q (q_indexAddr_ar ar95 rfl rfl (by omega) (by omega)) ?_
                refine rg_q (q_load sz3 rfl hld) ?_
                refine rg_q (q_move (x := .d (.v _)) rfl) ?_
                refine rg_q (q_neq rfl rfl) ?_
                refine rg_nil ?_
                refine aops_nil ?_
                change Awp _ _ _ _ _
                refine awp_cond rfl (fun hc21 => ?_) (fun hc21 => ?_)
                ·
                  rw [hsq] at hc21
                  simp at hc21
                ·
                  (try simp only [decide_eq_true_eq, decide_eq_false_iff_not, Bool.and_eq_true, Bool.or_eq_true, Bool.and_eq_false_iff, Bool.or_eq_false_iff, Bool.not_eq_true', Bool.not_eq_false', Bool.not_true, Bool.not_false, bif_and, bif_or, Bool.not_not, ne_eq, Decidable.not_not, not_true_eq_false, not_false_eq_true, Int.not_le, Int.not_lt] at hc21)
                  refine awp_skip ?_
                  change Awp _ _ _ _ _
                  refine awp_region 3 mixed (by kernel_rfl) ?_
                  refine rg_q (q_move (x := .d (.v _)) rfl) ?_
                  refine rg_q (q_add rfl rfl (In64.mk (by omega) (by omega))) ?_
                  refine rg_q (q_assign (x := .d (.v _)) rfl) ?_
                  refine rg_nil ?_
                  refine aops_nil ?_
                  refine ⟨k + 1, by omega, by omega, ?_⟩
                  exact le_head (ms := []) (by repeat (first | exact Out.head rfl rfl | (refine Out.put ?_ rfl))) ⟨(by rfl), trivial⟩ trivial rfl rfl rfl rfl
              ·
                (try simp only [decide_eq_true_eq, decide_eq_false_iff_not, Bool.and_eq_true, Bool.or_eq_true, Bool.and_eq_false_iff, Bool.or_eq_false_iff, Bool.not_eq_true', Bool.not_eq_false', Bool.not_true, Bool.not_false, bif_and, bif_or, Bool.not_not, ne_eq, Decidable.not_not, not_true_eq_false, not_false_eq_true, Int.not_le, Int.not_lt] at hc19)
                rw [hsm] at hc19
                rw [if_neg (fun q => by rw [q.1, q.2] at hc19; simp at hc19)] at hsq
                refine awp_skip ?_
                change Awp _ _ _ _ _
                refine awp_seq ?_
                refine awp_region 5 mixed (by kernel_rfl) ?_
                refine rg_q (q_move (x := .d (.v _)) rfl) ?_
                refine rg_q (q_indexAddr_ar ar95 rfl rfl (by omega) (by omega)) ?_
                refine rg_q (q_load sz3 rfl hld) ?_
                refine rg_q (q_move (x := .d (.v _)) rfl) ?_
                refine rg_q (q_neq rfl rfl) ?_
                refine rg_nil ?_
                refine aops_nil ?_
                change Awp _ _ _ _ _
                refine awp_cond rfl (fun hc21 => ?_) (fun hc21 => ?_)
                ·
                  rw [hsq] at hc21
                  simp at hc21
                ·
                  (try simp only [decide_eq_true_eq, decide_eq_false_iff_not, Bool.and_eq_true, Bool.or_eq_true, Bool.and_eq_false_iff, Bool.or_eq_false_iff, Bool.not_eq_true', Bool.not_eq_false', Bool.not_true, Bool.not_false, bif_and, bif_or, Bool.not_not, ne_eq, Decidable.not_not, not_true_eq_false, not_false_eq_true, Int.not_le, Int.not_lt] at hc21)
                  refine awp_skip ?_
                  change Awp _ _ _ _ _
                  refine awp_region 3 mixed (by kernel_rfl) ?_
                  refine rg_q (q_move (x := .d (.v _)) rfl) ?_
                  refine rg_q (q_add rfl rfl (In64.mk (by omega) (by omega))) ?_
                  refine rg_q (q_assign (x := .d (.v _)) rfl) ?_
                  refine rg_nil ?_
                  refine aops_nil ?_
                  refine ⟨k + 1, by omega, by omega, ?_⟩
                  exact le_head (ms := []) (by repeat (first | exact Out.head rfl rfl | (refine Out.put ?_ rfl))) ⟨(by rfl), trivial⟩ trivial rfl rfl rfl rfl
            ·
              (try simp only [decide_eq_true_eq, decide_eq_false_iff_not, Bool.and_eq_true, Bool.or_eq_true, Bool.and_eq_false_iff, Bool.or_eq_false_iff, Bool.not_eq_true', Bool.not_eq_false', Bool.not_true, Bool.not_false, bif_and, bif_or, Bool.not_not, ne_eq, Decidable.not_not, not_true_eq_false, not_false_eq_true, Int.not_le, Int.not_lt] at hc16)
              refine awp_exit ?_
              change Awp _ _ _ _ _
              refine awp_seq ?_
              refine awp_region 1 mixed (by kernel_rfl) ?_
              refine rg_q (q_assign (x := .d (.v _)) rfl) ?_
              refine rg_nil ?_
              refine aops_nil ?_
              change Awp _ _ _ _ _
              refine awp_ret ?_
              refine ⟨_, (.cons (.tmp (by exact .d _)) .nil), ?_⟩
              rfl
end Go.Proofs.Ytblbnagdhcpnoaa.Am.M
