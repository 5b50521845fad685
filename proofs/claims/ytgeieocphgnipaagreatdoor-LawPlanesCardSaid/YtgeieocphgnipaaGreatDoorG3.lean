/- Contracts over the abstract machine: package law: the steepest turn, laws of directions. Conditions: none. -/
import Derived.Test.YtgeieocphgnipaaGreatDoorG2
set_option linter.unusedVariables false
set_option linter.unusedSimpArgs false
-- mini
namespace Go.Proofs.YtgeieocphgnipaaGreatDoor.Am.M
open Go

structure LarOk (a : Lar) : Prop where
  n1 : 1 ≤ a.el.length
  n2 : a.el.length ≤ 16
  el : ∀ p ∈ a.el, -100000 ≤ p.1 ∧ p.1 ≤ 100000 ∧ -100000 ≤ p.2 ∧ p.2 < 0
  md : MdOk a.md
  c1 : 1 ≤ a.ck
  c2 : a.ck ≤ 1000000
theorem ckLEl_ok : ∀ {l : List (Int × Int)} {i : Nat}, (ckLEl i l).2 = 0 → (∀ p ∈ l, -100000 ≤ p.1 ∧ p.1 ≤ 100000 ∧ -100000 ≤ p.2 ∧ p.2 < 0) ∧ ckLEl i l = (0, 0)
  | [], _, _ => ⟨fun p hp => (by cases hp), rfl⟩
  | q :: l, i, h => by
    unfold ckLEl at h ⊢
    by_cases hq : lelE q ≠ 0
    · rw [if_pos hq] at h; exact absurd h hq
    · rw [if_neg hq] at h ⊢
      obtain ⟨h1, h2⟩ := ckLEl_ok h
      refine ⟨fun p hp => ?_, h2⟩
      rcases List.mem_cons.1 hp with rfl | hp
      · have hz := Decidable.not_not.1 hq
        unfold lelE at hz
        by_cases q1 : (!inR (-100000) p.1 100000 || !inR (-100000) p.2 100000) = true
        · rw [if_pos q1] at hz; cases hz
        · rw [if_neg q1] at hz
          by_cases q2 : 0 ≤ p.2
          · rw [if_pos q2] at hz; cases hz
          · simp [inR] at q1; omega
      · exact h1 p hp
theorem lar_ok {a : Lar} (h : (ckLar a).2 = 0) : LarOk a ∧ ckLar a = (0, 0) := by
  unfold ckLar at h ⊢
  by_cases h0 : cntE a.el.length ≠ 0
  · rw [if_pos h0] at h; exact absurd h h0
  rw [if_neg h0] at h ⊢
  have h1 := Decidable.not_not.1 h0
  by_cases h2 : (ckLEl 0 a.el).2 ≠ 0
  · rw [if_pos h2] at h; exact absurd h h2
  rw [if_neg h2] at h ⊢
  have h3 := ckLEl_ok (Decidable.not_not.1 h2)
  have h4 : firstE [modeE a.md, clkE a.ck] = 0 := h
  rw [h4]
  rw [first_zero] at h4
  simp only [List.mem_cons, List.not_mem_nil, or_false, forall_eq_or_imp, forall_eq] at h4
  obtain ⟨k1, k2⟩ := h4
  have k3 : 1 ≤ a.ck ∧ a.ck ≤ 1000000 := by
    unfold clkE at k2; split at k2
    · rename_i q; simpa [inR] using q
    · cases k2
  have k4 : 1 ≤ a.el.length ∧ a.el.length ≤ 16 := by
    unfold cntE at h1; split at h1
    · cases h1
    · split at h1
      · cases h1
      · omega
  exact ⟨⟨k4.1, k4.2, h3.1, mode_ok.1 k1, k3.1, k3.2⟩, rfl⟩

def wayX (t : Trn) (s : Int × Int) : Int := s.1 * t.p + s.2 * t.q
def plW (a : Lar) (t : Trn) : List Int := a.el.map (wayX t)
def plF (a : Lar) (t : Trn) (i : Int) : Int := rndL (((plW a t).getD i.toNat 0 - minF (plW a t)) * 10000000) (t.r * a.md.w * a.ck)
def plE (a : Lar) (t : Trn) : Int := firstE [(ckLar a).2, trnE t]
def plR (a : Lar) (t : Trn) : Dly × Int := if plE a t ≠ 0 then (⟨0, []⟩, plE a t) else bltR (plF a t) a.ck a.el.length
theorem plE_ok {a : Lar} {t : Trn} (h : plE a t = 0) : (ckLar a).2 = 0 ∧ trnE t = 0 := by
  unfold plE at h
  rw [first_zero] at h
  simp only [List.mem_cons, List.not_mem_nil, or_false, forall_eq_or_imp, forall_eq] at h
  exact h
theorem prod_in {a b : Int} (h1 : -100000 ≤ a) (h2 : a ≤ 100000) (h3 : -1000 ≤ b) (h4 : b ≤ 1000) : -100000000 ≤ a * b ∧ a * b ≤ 100000000 := by
  have := mulb (a := a) (b := b) (A := 100000) (B := 1000) (by omega) (by omega) (by omega) (by omega)
  omega
theorem minF_in {l : List Int} {b : Int} (hl : l ≠ []) (h : ∀ x ∈ l, -b ≤ x ∧ x ≤ b) : -b ≤ minF l ∧ minF l ≤ b := h _ (minF_mem hl)
set_option maxRecDepth 100000 in
theorem plane1_p (a : Lar) (t : Trn) (ws : List Int) (m : Int) (i : Nat) (w : Int) (hw : ws[i]? = some w) (h1 : -200000000 ≤ w) (h2 : w ≤ 200000000) (h3 : -200000000 ≤ m) (h4 : m ≤ 200000000) (r1 : 1 ≤ t.r) (r2 : t.r ≤ 1000) (m1 : 500 ≤ a.md.w) (m2 : a.md.w ≤ 10000) (c1 : 1 ≤ a.ck) (c2 : a.ck ≤ 1000000) : PC Tryz.prog 108 [.v (.int .i64 ((i : Int))), .pt [.sl 1 (ws.map iC)] 0, .pt [.v (.int .i64 (m))] 0, .pt (trnC t) 0, .pt (larC a) 0] (.v (.int .i64 (rndL ((w - m) * 10000000) (t.r * a.md.w * a.ck)))) := by
  have hlt := (List.getElem?_eq_some_iff.1 hw).1
  have b1 := mulb (a := t.r) (b := a.md.w) (A := 1000) (B := 10000) (by omega) (by omega) (by omega) (by omega)
  have b0 : 0 < t.r * a.md.w := Int.mul_pos (by omega) (by omega)
  have b2 := mulb (a := t.r * a.md.w) (b := a.ck) (A := 10000000) (B := 1000000) (by omega) (by omega) (by omega) (by omega)
  have b3 : 0 < t.r * a.md.w * a.ck := Int.mul_pos (by omega) (by omega)
  refine pc_of_awp Tryz.func108 rfl Tryz.ntmps108 (rs := [.tmp 6]) Tryz.results108 (by simp) fun w0 => ?_
  refine awp_seq ?_
  refine awp_region 1 mixed (by kernel_rfl) ?_
  refine rg_q (q_assign (x := .d (.v _)) rfl) ?_
  refine rg_nil ?_
  refine aops_nil ?_
  change Awp _ _ _ _ _
  refine awp_seq ?_
  refine awp_region 18 mixed (by kernel_rfl) ?_
  refine rg_q (q_load sz31 rfl rfl) ?_
  refine rg_q (q_move (x := .d (.v _)) rfl) ?_
  refine rg_q (q_indexAddr sl31 rfl rfl (by omega) (map_at (by omega) hw)) ?_
  refine rg_q (q_load sz3 rfl rfl) ?_
  refine rg_q (q_load sz3 rfl rfl) ?_
  refine rg_q (q_sub rfl rfl (In64.mk (by omega) (by omega))) ?_
  refine rg_q (q_mul rfl rfl (In64.mk (by omega) (by omega))) ?_
  refine rg_q (q_fieldAddr fld66_2 rfl) ?_
  refine rg_q (q_load sz3 rfl rfl) ?_
  refine rg_q (q_fieldAddr fld26_1 rfl) ?_
  refine rg_q (q_fieldAddr fld24_0 rfl) ?_
  refine rg_q (q_load sz3 rfl rfl) ?_
  refine rg_q (q_mul rfl rfl (In64.mk (by omega) (by omega))) ?_
  refine rg_q (q_fieldAddr fld26_2 rfl) ?_
  refine rg_q (q_load sz3 rfl rfl) ?_
  refine rg_q (q_mul rfl rfl (In64.mk (by omega) (by omega))) ?_
  refine rg_q (q_call en109 (.cons rfl (.cons rfl .nil)) rfl (lrounded_p _ _ (by omega) (by omega) (by omega) (by omega))) ?_
  refine rg_q (q_assign (x := .d (.v _)) rfl) ?_
  refine rg_nil ?_
  refine aops_nil ?_
  change Awp _ _ _ _ _
  refine awp_ret ?_
  refine ⟨_, (.cons (.tmp (by exact .d _)) .nil), ?_⟩
  rfl
set_option maxRecDepth 100000 in
theorem planeLaw_p (a : Lar) (t : Trn) : PC Tryz.prog 49 [.agg (larC a), .agg (trnC t)] (.tup [.agg (dlyC (plR a t).1), .v (.int .i64 ((plR a t).2))]) := by
  refine pc_of_awpN Tryz.func49 rfl Tryz.ntmps49 (rs := [.cell 4 33, .tmp 5]) Tryz.results49 (by simp) fun w0 hmine hrnd hpn => ?_
  refine awp_seq ?_
  refine awp_region 2 mixed (by kernel_rfl) ?_
  refine rg_q (q_box rfl (by exact .inr ⟨_, rfl⟩)) ?_
  refine rg_q (q_box rfl (by exact .inr ⟨_, rfl⟩)) ?_
  refine rg_nil ?_
  refine aops_alloc zr33 rfl rfl rfl ?_
  refine aops_q rfl (q_assign (x := .d (.v _)) rfl) ?_
  refine aops_nil ?_
  change Awp _ _ _ _ _
  refine awp_seq ?_
  refine awp_seq ?_
  refine awp_region 7 mixed (by kernel_rfl) ?_
  refine rg_q (q_loadA (ds := [_, _, _, _, _, _]) sz26 rfl rfl rfl) ?_
  refine rg_q (q_call en80 (.cons rfl .nil) rfl (arrayErr_p _)) ?_
  refine rg_q (q_loadA (ds := [_, _, _]) sz66 rfl rfl rfl) ?_
  refine rg_q (q_call en39 (.cons rfl .nil) rfl (checkTurn_p _)) ?_
  refine rg_q (q_buildSlice sl178 zr34 rfl rfl (by decide) (.cons rfl (by exact .inl rfl) (.cons rfl (by exact .inl rfl) .nil)) ⟨rfl, rfl, rfl, rfl, trivial⟩ rfl (by decide) rfl) ?_
  refine rg_q (q_call en96 (.cons rfl .nil) rfl (lfirst_p [_, _])) ?_
  refine rg_q (q_assign (x := .d (.v _)) rfl) ?_
  refine rg_nil ?_
  refine aops_nil ?_
  change Awp _ _ _ _ _
  refine awp_seq ?_
  refine awp_region 2 mixed (by kernel_rfl) ?_
  refine rg_q (q_move (x := .d (.v _)) rfl) ?_
  refine rg_q (q_neq rfl rfl) ?_
  refine rg_nil ?_
  refine aops_nil ?_
  change Awp _ _ _ _ _
  refine awp_cond rfl (fun hc2 => ?_) (fun hc2 => ?_)
  ·
    (try simp only [decide_eq_true_eq, decide_eq_false_iff_not, Bool.and_eq_true, Bool.or_eq_true, Bool.and_eq_false_iff, Bool.or_eq_false_iff, Bool.not_eq_true', Bool.not_eq_false', Bool.not_true, Bool.not_false, bif_and, bif_or, Bool.not_not, ne_eq, Decidable.not_not, not_true_eq_false, not_false_eq_true, Int.not_le, Int.not_lt] at hc2)
    have hz : plR a t = (⟨0, []⟩, plE a t) := by unfold plR; rw [if_pos (show plE a t ≠ 0 from hc2)]
    refine awp_seq ?_
    refine awp_region 2 mixed (by kernel_rfl) ?_
    refine rg_q (q_build (cs := [_, _]) pl33 zr33 rfl .nil trivial rfl) ?_
    refine rg_q (q_move (x := .d (.v _)) rfl) ?_
    refine rg_nil ?_
    refine aops_store sz33 rfl rfl (by exact .inr ⟨_, rfl⟩) rfl rfl (by decide) rfl ?_
    refine aops_q rfl (q_assign (x := .d (.v _)) rfl) ?_
    refine aops_nil ?_
    change Awp _ _ _ _ _
    refine Awp.le (le_upB 4 (dlyC ⟨0, []⟩) rfl (.cons (.same _) (.cons (.nil 1) .nil))) ?_
    refine awp_ret ?_
    refine ⟨_, (.cons (.cellA rfl rfl sz33 rfl) (.cons (.tmp (by exact .d _)) .nil)), ?_⟩
    rw [hz]; rfl
  ·
    (try simp only [decide_eq_true_eq, decide_eq_false_iff_not, Bool.and_eq_true, Bool.or_eq_true, Bool.and_eq_false_iff, Bool.or_eq_false_iff, Bool.not_eq_true', Bool.not_eq_false', Bool.not_true, Bool.not_false, bif_and, bif_or, Bool.not_not, ne_eq, Decidable.not_not, not_true_eq_false, not_false_eq_true, Int.not_le, Int.not_lt] at hc2)
    have hz0 : plE a t = 0 := hc2
    obtain ⟨k1, k2⟩ := plE_ok hz0
    have hla := (lar_ok k1).1
    have hn1 := hla.n1
    have hn2 := hla.n2
    have hc1 := hla.c1
    have hc22 := hla.c2
    obtain ⟨w1, w2, _, _, _, _, _, _⟩ := hla.md
    have hto := trnE_ok k2
    obtain ⟨r1, r2, p1, p2, q1, q2⟩ := hto
    have hz : plR a t = bltR (plF a t) a.ck a.el.length := by unfold plR; rw [if_neg (fun h => h hz0)]
    have hwin : ∀ x ∈ plW a t, -200000000 ≤ x ∧ x ≤ 200000000 := fun x hx => by
      obtain ⟨s, hs, rfl⟩ := List.mem_map.1 hx
      obtain ⟨e1, e2, e3, e4⟩ := hla.el s hs
      have b1 := prod_in e1 e2 (show -1000 ≤ t.p by omega) (by omega)
      have b2 := prod_in e3 (show s.2 ≤ 100000 by omega) (show -1000 ≤ t.q by omega) (by omega)
      unfold wayX; omega
    have hwl : (plW a t).length = a.el.length := by unfold plW; rw [List.length_map]
    have hne : plW a t ≠ [] := fun e => by have := congrArg List.length e; simp only [List.length_nil] at this; omega
    have hmi := minF_in hne hwin
    refine awp_skip ?_
    change Awp _ _ _ _ _
    refine awp_seq ?_
    refine awp_region 0 mixed (by kernel_rfl) ?_
    refine rg_nil ?_
    refine aops_alloc zr31 rfl rfl rfl ?_
    refine aops_nil ?_
    change Awp _ _ _ _ _
    refine awp_seq ?_
    refine awp_seq ?_
    refine Awp.le (le_ownB 7 41 0 3 1 rfl rfl rfl) ?_
    refine awp_region 4 mixed (by kernel_rfl) ?_
    refine rg_q (q_fieldAddr fld26_0 rfl) ?_
    refine rg_q (q_load sz22 rfl rfl) ?_
    refine rg_q (q_len isl22 rfl (by exact len_map _ _)) ?_
    refine rg_q (q_move (x := .d (.v _)) rfl) ?_
    refine rg_nil ?_
    refine aops_nil ?_
    change Awp _ _ _ _ _
    refine awp_len (t := 22) rfl (fun hl22 => ?_)
    (try simp only [List.length_map] at hl22)
    refine awp_block ?_
    refine awp_loopH [9, 24, 25, 26, 27, 28, 29, 30, 31, 32, 33, 34, 35, 36, 37, 38, 39, 40, 41, 42] [7, 41] (α := Nat) (fun k => [(24, T.i (k : Int))]) (fun k => [(7, .tbox [.rs 41]), (41, .row 3 1 ((a.el.take k).map fun s => iC (wayX t s)))]) (fun k => k ≤ a.el.length) (fun k => a.el.length - k) 0 (Nat.zero_le _) ?_ ?_
    · exact le_head (ms := [7, 41]) (by repeat (exact Out.refl _)) ⟨(by rfl), trivial⟩ ⟨(by rfl), (by rfl), trivial⟩ rfl rfl rfl rfl
    ·
      intro k hk
      refine awp_seq ?_
      refine awp_region 1 mixed (by kernel_rfl) ?_
      refine rg_q (q_lss rfl rfl) ?_
      refine rg_nil ?_
      refine aops_nil ?_
      change Awp _ _ _ _ _
      refine awp_seq ?_
      refine awp_cond rfl (fun hc6 => ?_) (fun hc6 => ?_)
      ·
        (try simp only [decide_eq_true_eq, decide_eq_false_iff_not, Bool.and_eq_true, Bool.or_eq_true, Bool.and_eq_false_iff, Bool.or_eq_false_iff, Bool.not_eq_true', Bool.not_eq_false', Bool.not_true, Bool.not_false, bif_and, bif_or, Bool.not_not, ne_eq, Decidable.not_not, not_true_eq_false, not_false_eq_true, Int.not_le, Int.not_lt] at hc6)
        have hlt : k < a.el.length := by omega
        obtain ⟨x, hx⟩ : ∃ x, a.el[k]? = some x := ⟨_, List.getElem?_eq_getElem hlt⟩
        obtain ⟨e1, e2, e3, e4⟩ := hla.el x (List.mem_of_getElem? hx)
        have b1 := prod_in e1 e2 (show -1000 ≤ t.p by omega) (by omega)
        have b2 := prod_in e3 (show x.2 ≤ 100000 by omega) (show -1000 ≤ t.q by omega) (by omega)
        have hsk : ((a.el.take (k + 1)).map fun s => iC (wayX t s)) = ((a.el.take k).map fun s => iC (wayX t s)) ++ [iC (wayX t x)] := by
          rw [List.take_succ_eq_append_getElem hlt, List.map_append, (List.getElem?_eq_some_iff.1 hx).2]; rfl
        have hln : (a.el.take k).length ≤ 16 := by rw [List.length_take]; omega
        refine awp_skip ?_
        change Awp _ _ _ _ _
        refine awp_seq ?_
        refine awp_block ?_
        refine awp_seq ?_
        refine awp_region 2 mixed (by kernel_rfl) ?_
        refine rg_q (q_indexAddr sl22 rfl rfl (by omega) (map_at (by omega) hx)) ?_
        refine rg_q (q_loadA (ds := [_, _]) sz28 rfl rfl rfl) ?_
        refine rg_nil ?_
        refine aops_alloc zr28 rfl rfl rfl ?_
        refine aops_store sz28 rfl rfl (by exact .inr ⟨_, rfl⟩) rfl rfl (by decide) rfl ?_
        refine aops_nil ?_
        change Awp _ _ _ _ _
        refine awp_region 13 mixed (by kernel_rfl) ?_
        refine rg_q (q_load_tb (x := .rs _) sz31 rfl rfl rfl) ?_
        refine rg_q (q_fieldAddr_ref fld28_0 rfl) ?_
        refine rg_q (q_load_ref sz3 rfl rfl rfl) ?_
        refine rg_q (q_fieldAddr fld66_0 rfl) ?_
        refine rg_q (q_load sz3 rfl rfl) ?_
        refine rg_q (q_mul rfl rfl (In64.mk (by omega) (by omega))) ?_
        refine rg_q (q_fieldAddr_ref fld28_1 rfl) ?_
        refine rg_q (q_load_ref sz3 rfl rfl rfl) ?_
        refine rg_q (q_fieldAddr fld66_1 rfl) ?_
        refine rg_q (q_load sz3 rfl rfl) ?_
        refine rg_q (q_mul rfl rfl (In64.mk (by omega) (by omega))) ?_
        refine rg_q (q_add rfl rfl (In64.mk (by omega) (by omega))) ?_
        refine rg_q (q_buildSlice sl31 zr3 rfl rfl (by decide) (.cons rfl (by exact .inl rfl) .nil) ⟨rfl, rfl, trivial⟩ rfl (by decide) rfl) ?_
        refine rg_nil ?_
        refine aops_append sl31 zr3 by3 rfl (by decide) rfl rfl rfl rfl (by (try simp only [List.length_map, List.length_append, List.length_cons, List.length_nil]); omega) (by (try simp only [List.length_map, List.length_append, List.length_cons, List.length_nil]); omega) rfl rfl ?_
        refine aops_storeT (z := .rs _) sz31 rfl rfl rfl rfl (by decide) rfl ?_
        refine aops_nil ?_
        change Awp _ _ _ _ _
        refine awp_region 2 mixed (by kernel_rfl) ?_
        refine rg_q (q_add rfl rfl (In64.mk (by omega) (by omega))) ?_
        refine rg_q (q_move (x := .d (.v _)) rfl) ?_
        refine rg_nil ?_
        refine aops_nil ?_
        refine ⟨k + 1, by omega, by omega, ?_⟩
        exact le_head (ms := [7, 41]) (by repeat (first | exact Out.head rfl rfl | (refine Out.put ?_ rfl) | (refine Out.site ?_ rfl) | (refine Out.killS ?_ rfl))) ⟨(by rfl), trivial⟩ ⟨(by rfl), (by (show Site.row 3 1 (_ ++ [_]) = Site.row 3 1 _; rw [hsk]; rfl)), trivial⟩ rfl rfl rfl rfl
      ·
        (try simp only [decide_eq_true_eq, decide_eq_false_iff_not, Bool.and_eq_true, Bool.or_eq_true, Bool.and_eq_false_iff, Bool.or_eq_false_iff, Bool.not_eq_true', Bool.not_eq_false', Bool.not_true, Bool.not_false, bif_and, bif_or, Bool.not_not, ne_eq, Decidable.not_not, not_true_eq_false, not_false_eq_true, Int.not_le, Int.not_lt] at hc6)
        have hkn : k = a.el.length := by omega
        have hw0 : ((a.el.take k).map fun s => iC (wayX t s)) = (plW a t).map iC := by unfold plW; rw [hkn, List.take_length, List.map_map]; rfl
        refine awp_exit ?_
        change Awp _ _ _ _ _
        refine awp_seq ?_
        refine Awp.le (le_freezeTB 7 41 0 (es := (plW a t).map iC) rfl rfl (by show Site.row _ _ _ = _; rw [hw0]) rfl hmine) ?_
        refine Awp.le (le_boxT 7 [.sl 1 ((plW a t).map iC)] rfl rfl (by intro j d h; match j, h with | 0, h => cases h; rfl)) ?_
        refine awp_region 2 mixed (by kernel_rfl) ?_
        refine rg_q (q_load_ref sz31 rfl rfl rfl) ?_
        refine rg_q (q_call en105 (.cons rfl .nil) rfl (minI_p (plW a t) (by omega))) ?_
        refine rg_nil ?_
        refine aops_alloc zr3 rfl rfl rfl ?_
        refine aops_store sz3 rfl rfl (by exact .inl rfl) rfl rfl (by decide) rfl ?_
        refine aops_nil ?_
        change Awp _ _ _ _ _
        refine awp_seq ?_
        refine Awp.le (le_freeze 10 10 0 (cs := [.v (.int .i64 (minF (plW a t)))]) rfl rfl rfl rfl hmine) ?_
        refine Awp.le (le_freeze 7 7 0 (cs := [.sl 1 ((plW a t).map iC)]) rfl rfl rfl rfl hmine) ?_
        refine awp_region 8 mixed (by kernel_rfl) ?_
        refine rg_q (q_fieldAddr fld26_2 rfl) ?_
        refine rg_q (q_load sz3 rfl rfl) ?_
        refine rg_q (q_load sz31 rfl rfl) ?_
        refine rg_q (q_len isl31 rfl (by exact len_map _ _)) ?_
        refine rg_q (q_makeFunc (.cons rfl (.cons rfl (.cons rfl (.cons rfl .nil))))) ?_
        refine rg_q (q_call en107 (.cons rfl (.cons rfl (.cons rfl .nil))) rfl ((by have hb := builtR_p (plF a t) 108 [.pt [.sl 1 ((plW a t).map iC)] 0, .pt [.v (.int .i64 (minF (plW a t)))] 0, .pt (trnC t) 0, .pt (larC a) 0] en108 a.ck a.el.length (by omega) (fun i hi => by have hg : (plW a t)[i]? = some ((plW a t).getD ((i : Int).toNat) 0) := (by rw [List.getD_eq_getElem?_getD, Int.toNat_natCast, List.getElem?_eq_getElem (by omega)]; rfl); have hb := hwin _ (List.mem_of_getElem? hg); exact plane1_p a t (plW a t) (minF (plW a t)) i _ hg hb.1 hb.2 hmi.1 hmi.2 r1 r2 w1 w2 hc1 hc22); (rw [hwl]; exact hb)))) ?_
        refine rg_q (q_extract rfl rfl) ?_
        refine rg_q (q_extract rfl rfl) ?_
        refine rg_nil ?_
        refine aops_store sz33 rfl rfl (by exact .inr ⟨_, rfl⟩) rfl rfl (by decide) rfl ?_
        refine aops_q rfl (q_assign (x := .d (.v _)) rfl) ?_
        refine aops_nil ?_
        change Awp _ _ _ _ _
        refine awp_len (t := 47) rfl (fun hl47 => ?_)
        (try simp only [List.length_map] at hl47)
        refine awp_ret ?_
        refine ⟨_, (.cons (.cellA rfl rfl sz33 rfl) (.cons (.tmp (by exact .d _)) .nil)), ?_⟩
        rw [hz]; rfl
end Go.Proofs.YtgeieocphgnipaaGreatDoor.Am.M
