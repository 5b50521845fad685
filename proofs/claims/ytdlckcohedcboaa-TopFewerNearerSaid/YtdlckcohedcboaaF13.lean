/- Contracts over the abstract machine: TopFewerNearer. Conditions: none. -/
import Derived.Test.YtdlckcohedcboaaF12
set_option linter.unusedVariables false
set_option linter.unusedSimpArgs false
namespace Go.Proofs.Ytdlckcohedcboaa.Am.M
open Go

structure LarOk (a : Lar) : Prop where
  n1 : 1 ≤ a.el.length
  n2 : a.el.length ≤ 16
  el : ∀ p ∈ a.el, -100000 ≤ p.1 ∧ p.1 ≤ 100000 ∧ -100000 ≤ p.2 ∧ p.2 < 0
  md : MdOk a.md
  c1 : 1 ≤ a.ck
  c2 : a.ck ≤ 1000000
theorem ckLEl_ok : ∀ {l : List (Int × Int)} {i : Nat}, (ckLEl i l).2 = 0 → (∀ p ∈ l, -100000 ≤ p.1 ∧ p.1 ≤ 100000 ∧ -100000 ≤ p.2 ∧ p.2 < 0) ∧ ckLEl i l = (0, 0)
  | [], _, _ => ⟨fun p hp => (by cases hp), rfl⟩
  | q :: l, i, h => by
    unfold ckLEl at h ⊢
    by_cases hq : lelE q ≠ 0
    · rw [if_pos hq] at h; exact absurd h hq
    · rw [if_neg hq] at h ⊢
      obtain ⟨h1, h2⟩ := ckLEl_ok h
      refine ⟨fun p hp => ?_, h2⟩
      rcases List.mem_cons.1 hp with rfl | hp
      · have hz := Decidable.not_not.1 hq
        unfold lelE at hz
        by_cases q1 : (!inR (-100000) p.1 100000 || !inR (-100000) p.2 100000) = true
        · rw [if_pos q1] at hz; cases hz
        · rw [if_neg q1] at hz
          by_cases q2 : 0 ≤ p.2
          · rw [if_pos q2] at hz; cases hz
          · simp [inR] at q1; omega
      · exact h1 p hp
theorem lar_ok {a : Lar} (h : (ckLar a).2 = 0) : LarOk a ∧ ckLar a = (0, 0) := by
  unfold ckLar at h ⊢
  by_cases h0 : cntE a.el.length ≠ 0
  · rw [if_pos h0] at h; exact absurd h h0
  rw [if_neg h0] at h ⊢
  have h1 := Decidable.not_not.1 h0
  by_cases h2 : (ckLEl 0 a.el).2 ≠ 0
  · rw [if_pos h2] at h; exact absurd h h2
  rw [if_neg h2] at h ⊢
  have h3 := ckLEl_ok (Decidable.not_not.1 h2)
  have h4 : firstE [modeE a.md, clkE a.ck] = 0 := h
  rw [h4]
  rw [first_zero] at h4
  simp only [List.mem_cons, List.not_mem_nil, or_false, forall_eq_or_imp, forall_eq] at h4
  obtain ⟨k1, k2⟩ := h4
  have k3 : 1 ≤ a.ck ∧ a.ck ≤ 1000000 := by
    unfold clkE at k2; split at k2
    · rename_i q; simpa [inR] using q
    · cases k2
  have k4 : 1 ≤ a.el.length ∧ a.el.length ≤ 16 := by
    unfold cntE at h1; split at h1
    · cases h1
    · split at h1
      · cases h1
      · omega
  exact ⟨⟨k4.1, k4.2, h3.1, mode_ok.1 k1, k3.1, k3.2⟩, rfl⟩
theorem apt_in {a : Lar} {x : Dly} (h : (aptR a x).2 = 0) : -100000 ≤ (aptR a x).1.1 ∧ (aptR a x).1.1 ≤ 100000 ∧ -100000 ≤ (aptR a x).1.2 ∧ (aptR a x).1.2 ≤ 100000 ∧ opnE a x = 0 := by
  unfold aptR at h ⊢
  by_cases ho : opnE a x ≠ 0
  · rw [if_pos ho] at h; exact absurd h ho
  rw [if_neg ho] at h ⊢
  by_cases hz : (aptL a x).length = 0
  · rw [if_pos hz] at h; simp at h
  rw [if_neg hz]
  have ho := Decidable.not_not.1 ho
  obtain ⟨h1, _, h3⟩ := lop_ok ho
  have hl := (lar_ok h1).1
  have key : ∀ v ∈ aptL a x, -100000 ≤ v ∧ v ≤ 100000 := fun v hv => by
    obtain ⟨p, hp, rfl⟩ := List.mem_map.1 hv
    obtain ⟨b1, b2, b3, b4⟩ := sndTo_in (Nat.le_refl _) (show p ∈ sndTo x.tk x.tk.length from hp)
    unfold xAt
    have hx := List.getElem?_eq_getElem (l := a.el) (i := p.1.toNat) (by omega)
    rw [List.getD_eq_getElem?_getD, hx]
    have := hl.el _ (List.mem_of_getElem? hx)
    exact ⟨this.1, this.2.1⟩
  have hne : aptL a x ≠ [] := fun e => hz (by rw [e]; rfl)
  have m1 := maxF_mem hne
  have m2 : -100000 ≤ minF (aptL a x) := minF_ge hne fun v hv => (key v hv).1
  have m3 := minF_le m1
  have m4 := key _ m1
  simp only
  omega
theorem wthR_ok {x : Dly} {dead : List Int} (h : (wthR x dead).2 = 0) : (wthR x dead).1 = wth x dead := by
  unfold wthR at h ⊢
  by_cases h0 : (ckLaw x).2 ≠ 0
  · rw [if_pos h0] at h; exact absurd h h0
  rw [if_neg h0] at h ⊢
  by_cases h1 : dedE x.tk.length (-1) dead ≠ 0
  · rw [if_pos h1] at h; exact absurd h h1
  rw [if_neg h1]
def aliveB (dead : List Int) (n : Int) : Bool := !dead.any fun d => decide (d = n)
theorem left_eq (x : Dly) (dead : List Int) : (sndL (wth x dead)).map (fun p => p.1) = ((sndL x).map fun p => p.1).filter (aliveB dead) := by
  rw [snd_sub, List.filter_map]; rfl
theorem filt_snoc {p : Int → Bool} {l : List Int} {k : Nat} {y : Int} (h : l[k]? = some y) : (l.take (k + 1)).filter p = (l.take k).filter p ++ (if p y = true then [y] else []) := by
  obtain ⟨hlt, hx⟩ := List.getElem?_eq_some_iff.1 h
  rw [List.take_succ_eq_append_getElem hlt, hx, List.filter_append]
  cases hp : p y <;> simp [hp]
set_option maxRecDepth 100000 in
theorem topFewer_p (a : Lar) (x : Dly) (dead : List Int) (s q : Int) : PC Try.prog 3 [.agg (larC a), .agg (dlyC x), .agg [.sl 1 (dead.map iC), .v (.int .i64 (s)), .v (.int .i64 (q))]] (.v (.bool (true))) := by
  refine pc_of_awpN Try.func3 rfl Try.ntmps3 (rs := [.tmp 6]) Try.results3 (by simp) fun w0 hmine hrnd hpn => ?_
  refine awp_seq ?_
  refine awp_region 4 mixed (by kernel_rfl) ?_
  refine rg_q (q_box rfl (by first | exact .inl rfl | exact .inr ⟨_, rfl⟩)) ?_
  refine rg_q (q_box rfl (by first | exact .inl rfl | exact .inr ⟨_, rfl⟩)) ?_
  refine rg_q (q_box rfl (by first | exact .inl rfl | exact .inr ⟨_, rfl⟩)) ?_
  refine rg_q (q_assign (x := .d (.v _)) rfl) ?_
  refine rg_nil ?_
  refine aops_nil ?_
  change Awp _ _ _ _ _
  refine awp_seq ?_
  refine awp_seq ?_
  refine awp_region 2 mixed (by kernel_rfl) ?_
  first | refine rg_q (q_call en4 .nil rfl (lawed_p)) ?_ | refine rg_q (q_callF en4 .nil rfl (lawed_p) (by first | exact .v _ | exact D.Flat.tupF (by repeat first | exact trivial | refine ⟨.v _, ?_⟩) | exact D.Flat.aggF (by repeat first | exact trivial | refine ⟨.v _, ?_⟩))) ?_
  refine rg_q (q_not rfl) ?_
  refine rg_nil ?_
  refine aops_nil ?_
  change Awp _ _ _ _ _
  refine awp_cond rfl (fun hc1 => ?_) (fun hc1 => ?_)
  ·
    exfalso; (try simp only [decide_eq_true_eq, decide_eq_false_iff_not, Bool.and_eq_true, Bool.or_eq_true, Bool.and_eq_false_iff, Bool.or_eq_false_iff, Bool.not_eq_true', Bool.not_eq_false', Bool.not_true, Bool.not_false, bif_and, bif_or, Bool.not_not, ne_eq, Decidable.not_not, not_true_eq_false, not_false_eq_true, Int.not_le, Int.not_lt] at hc1); first | omega | simp_all
  ·
    (try simp only [decide_eq_true_eq, decide_eq_false_iff_not, Bool.and_eq_true, Bool.or_eq_true, Bool.and_eq_false_iff, Bool.or_eq_false_iff, Bool.not_eq_true', Bool.not_eq_false', Bool.not_true, Bool.not_false, bif_and, bif_or, Bool.not_not, ne_eq, Decidable.not_not, not_true_eq_false, not_false_eq_true, Int.not_le, Int.not_lt] at hc1)
    refine awp_skip ?_
    change Awp _ _ _ _ _
    refine awp_seq ?_
    refine awp_seq ?_
    refine awp_region 16 mixed (by kernel_rfl) ?_
    first | refine rg_q (q_fieldAddr fld26_0 rfl) ?_ | refine rg_q (q_fieldAddr_ref fld26_0 rfl) ?_
    first | refine rg_q (q_load sz22 rfl rfl) ?_ | refine rg_q (q_load_ref sz22 rfl rfl rfl) ?_ | refine rg_q (q_load_tb (x := .d _) sz22 rfl rfl rfl) ?_ | refine rg_q (q_load_tb (x := .rs _) sz22 rfl rfl rfl) ?_
    first | refine rg_q (q_len isl22 rfl (by first | exact len_map _ _ | rfl)) ?_ | refine rg_q (q_len_rs isl22 rfl rfl) ?_ | refine rg_q (q_len_nil isl22 rfl) ?_
    refine rg_q (q_gtr rfl rfl) ?_
    refine rg_q (q_move (x := .d (.v _)) rfl) ?_
    first | refine rg_g rfl rfl (fun hG => (q_fieldAddr fld29_1 rfl)) ?_ | refine rg_g rfl rfl (fun hG => (q_fieldAddr_ref fld29_1 rfl)) ?_
    first | refine rg_g rfl rfl (fun hG => (q_load sz27 rfl rfl)) ?_ | refine rg_g rfl rfl (fun hG => (q_load_ref sz27 rfl rfl rfl)) ?_ | refine rg_g rfl rfl (fun hG => (q_load_tb (x := .d _) sz27 rfl rfl rfl)) ?_ | refine rg_g rfl rfl (fun hG => (q_load_tb (x := .rs _) sz27 rfl rfl rfl)) ?_
    first | refine rg_g rfl rfl (fun hG => (q_len isl27 rfl (by first | exact len_map _ _ | rfl))) ?_ | refine rg_g rfl rfl (fun hG => (q_len_rs isl27 rfl rfl)) ?_ | refine rg_g rfl rfl (fun hG => (q_len_nil isl27 rfl)) ?_
    refine rg_g rfl rfl (fun hG => (q_gtr rfl rfl)) ?_
    first | refine rg_pick rfl rfl rfl rfl rfl rfl ?_ | refine rg_q (q_pick rfl rfl rfl) ?_
    refine rg_q (q_move (x := .d (.v _)) rfl) ?_
    first | refine rg_g rfl rfl (fun hG => (q_fieldAddr fld31_0 rfl)) ?_ | refine rg_g rfl rfl (fun hG => (q_fieldAddr_ref fld31_0 rfl)) ?_
    first | refine rg_g rfl rfl (fun hG => (q_load sz27 rfl rfl)) ?_ | refine rg_g rfl rfl (fun hG => (q_load_ref sz27 rfl rfl rfl)) ?_ | refine rg_g rfl rfl (fun hG => (q_load_tb (x := .d _) sz27 rfl rfl rfl)) ?_ | refine rg_g rfl rfl (fun hG => (q_load_tb (x := .rs _) sz27 rfl rfl rfl)) ?_
    first | refine rg_g rfl rfl (fun hG => (q_len isl27 rfl (by first | exact len_map _ _ | rfl))) ?_ | refine rg_g rfl rfl (fun hG => (q_len_rs isl27 rfl rfl)) ?_ | refine rg_g rfl rfl (fun hG => (q_len_nil isl27 rfl)) ?_
    refine rg_g rfl rfl (fun hG => (q_gtr rfl rfl)) ?_
    first | refine rg_pick rfl rfl rfl rfl rfl rfl ?_ | refine rg_q (q_pick rfl rfl rfl) ?_
    refine rg_nil ?_
    refine aops_nil ?_
    change Awp _ _ _ _ _
    first | refine awp_len (t := 26) rfl (fun hl26 => ?_) | skip
    (try simp only [List.length_map] at hl26)
    refine awp_cond rfl (fun hc3 => ?_) (fun hc3 => ?_)
    ·
      (try simp only [decide_eq_true_eq, decide_eq_false_iff_not, Bool.and_eq_true, Bool.or_eq_true, Bool.and_eq_false_iff, Bool.or_eq_false_iff, Bool.not_eq_true', Bool.not_eq_false', Bool.not_true, Bool.not_false, bif_and, bif_or, Bool.not_not, ne_eq, Decidable.not_not, not_true_eq_false, not_false_eq_true, Int.not_le, Int.not_lt] at hc3)
      refine awp_seq ?_
      refine awp_region 1 mixed (by kernel_rfl) ?_
      refine rg_q (q_assign (x := .d (.v _)) rfl) ?_
      refine rg_nil ?_
      refine aops_nil ?_
      change Awp _ _ _ _ _
      refine awp_ret ?_
      refine ⟨_, (.cons (.tmp (by first | exact .d _ | exact .rs rfl | exact .ref rfl | exact .tref rfl (.cons (.d _ rfl) (.cons (.rs rfl) .nil)))) .nil), ?_⟩
      rfl
    ·
      (try simp only [decide_eq_true_eq, decide_eq_false_iff_not, Bool.and_eq_true, Bool.or_eq_true, Bool.and_eq_false_iff, Bool.or_eq_false_iff, Bool.not_eq_true', Bool.not_eq_false', Bool.not_true, Bool.not_false, bif_and, bif_or, Bool.not_not, ne_eq, Decidable.not_not, not_true_eq_false, not_false_eq_true, Int.not_le, Int.not_lt] at hc3)
      have hl1 : a.el.length ≤ 18 := by first | omega | (simp_all; omega)
      have hl2 : x.tk.length ≤ 18 := by first | omega | (simp_all; omega)
      have hl3 : dead.length ≤ 16 := by first | omega | (simp_all; omega)
      refine awp_skip ?_
      change Awp _ _ _ _ _
      refine awp_seq ?_
      refine awp_regionM 11 [none, none, none, none, none, none, none, none, some 7, some 7, none] mixed (by kernel_rfl) ?_
      first | refine rgm_q rfl (q_loadA (ds := [_, _, _, _, _, _]) sz26 rfl rfl rfl) ?_ | refine rgm_q rfl (q_load_refA (ds := [_, _, _, _, _, _]) sz26 rfl rfl rfl rfl) ?_
      first | refine rgm_q rfl (q_call en6 (.cons rfl .nil) rfl (copyLar_p _ (by omega))) ?_ | refine rgm_q rfl (q_callF en6 (.cons (by first | exact .d _ | exact .rs rfl | exact .ref rfl | exact .nil _ | exact .tref rfl (by repeat (first | exact .nil | refine .cons (.d _ rfl) ?_ | refine .cons (.rs rfl) ?_))) .nil) rfl (copyLar_p _ (by omega)) (by first | exact .v _ | exact D.Flat.tupF (by repeat first | exact trivial | refine ⟨.v _, ?_⟩) | exact D.Flat.aggF (by repeat first | exact trivial | refine ⟨.v _, ?_⟩))) ?_
      first | refine rgm_q rfl (q_loadA (ds := [_, _]) sz29 rfl rfl rfl) ?_ | refine rgm_q rfl (q_load_refA (ds := [_, _]) sz29 rfl rfl rfl rfl) ?_
      first | refine rgm_q rfl (q_call en7 (.cons rfl .nil) rfl (copyLaw_p _ (by omega))) ?_ | refine rgm_q rfl (q_callF en7 (.cons (by first | exact .d _ | exact .rs rfl | exact .ref rfl | exact .nil _ | exact .tref rfl (by repeat (first | exact .nil | refine .cons (.d _ rfl) ?_ | refine .cons (.rs rfl) ?_))) .nil) rfl (copyLaw_p _ (by omega)) (by first | exact .v _ | exact D.Flat.tupF (by repeat first | exact trivial | refine ⟨.v _, ?_⟩) | exact D.Flat.aggF (by repeat first | exact trivial | refine ⟨.v _, ?_⟩))) ?_
      first | refine rgm_q rfl (q_call en5 (.cons rfl (.cons rfl .nil)) rfl (aperture_any _ _)) ?_ | refine rgm_q rfl (q_callF en5 (.cons (by first | exact .d _ | exact .rs rfl | exact .ref rfl | exact .nil _ | exact .tref rfl (by repeat (first | exact .nil | refine .cons (.d _ rfl) ?_ | refine .cons (.rs rfl) ?_))) (.cons (by first | exact .d _ | exact .rs rfl | exact .ref rfl | exact .nil _ | exact .tref rfl (by repeat (first | exact .nil | refine .cons (.d _ rfl) ?_ | refine .cons (.rs rfl) ?_))) .nil)) rfl (aperture_any _ _) (by first | exact .v _ | exact D.Flat.tupF (by repeat first | exact trivial | refine ⟨.v _, ?_⟩) | exact D.Flat.aggF (by repeat first | exact trivial | refine ⟨.v _, ?_⟩))) ?_
      refine rgm_q rfl (q_move (x := .d (.tup _)) rfl) ?_
      refine rgm_q rfl (q_extract rfl rfl) ?_
      refine rgm_q rfl (q_extract rfl rfl) ?_
      refine rgm_m (k := 7) rfl rfl (by rfl) (m_alloc zr34 rfl rfl) ?_
      first | refine rgm_m (k := 7) rfl rfl (by rfl) (m_store sz34 rfl rfl (by first | exact .inl rfl | exact .inr ⟨_, rfl⟩) rfl rfl (by first | decide | simp) rfl) ?_ | refine rgm_m (k := 7) rfl rfl (by rfl) (m_storeAg sz34 rfl rfl rfl rfl rfl rfl rfl) ?_
      refine rgm_q rfl (q_assign (x := .d (.v _)) rfl) ?_
      refine rgm_nil ?_
      refine aops_nil ?_
      change Awp _ _ _ _ _
      refine awp_seq ?_
      refine awp_regionM 12 [none, none, none, none, none, none, none, none, none, some 9, some 9, none] mixed (by kernel_rfl) ?_
      first | refine rgm_q rfl (q_loadA (ds := [_, _]) sz29 rfl rfl rfl) ?_ | refine rgm_q rfl (q_load_refA (ds := [_, _]) sz29 rfl rfl rfl rfl) ?_
      first | refine rgm_q rfl (q_call en7 (.cons rfl .nil) rfl (copyLaw_p _ (by omega))) ?_ | refine rgm_q rfl (q_callF en7 (.cons (by first | exact .d _ | exact .rs rfl | exact .ref rfl | exact .nil _ | exact .tref rfl (by repeat (first | exact .nil | refine .cons (.d _ rfl) ?_ | refine .cons (.rs rfl) ?_))) .nil) rfl (copyLaw_p _ (by omega)) (by first | exact .v _ | exact D.Flat.tupF (by repeat first | exact trivial | refine ⟨.v _, ?_⟩) | exact D.Flat.aggF (by repeat first | exact trivial | refine ⟨.v _, ?_⟩))) ?_
      first | refine rgm_q rfl (q_fieldAddr fld31_0 rfl) ?_ | refine rgm_q rfl (q_fieldAddr_ref fld31_0 rfl) ?_
      first | refine rgm_q rfl (q_load sz27 rfl rfl) ?_ | refine rgm_q rfl (q_load_ref sz27 rfl rfl rfl) ?_ | refine rgm_q rfl (q_load_tb (x := .d _) sz27 rfl rfl rfl) ?_ | refine rgm_q rfl (q_load_tb (x := .rs _) sz27 rfl rfl rfl) ?_
      first | refine rgm_q rfl (q_call en9 (.cons rfl .nil) rfl (copyInts_p _ (by omega))) ?_ | refine rgm_q rfl (q_callF en9 (.cons (by first | exact .d _ | exact .rs rfl | exact .ref rfl | exact .nil _ | exact .tref rfl (by repeat (first | exact .nil | refine .cons (.d _ rfl) ?_ | refine .cons (.rs rfl) ?_))) .nil) rfl (copyInts_p _ (by omega)) (by first | exact .v _ | exact D.Flat.tupF (by repeat first | exact trivial | refine ⟨.v _, ?_⟩) | exact D.Flat.aggF (by repeat first | exact trivial | refine ⟨.v _, ?_⟩))) ?_
      first | refine rgm_q rfl (q_call en8 (.cons rfl (.cons rfl .nil)) rfl (without_p _ _)) ?_ | refine rgm_q rfl (q_callF en8 (.cons (by first | exact .d _ | exact .rs rfl | exact .ref rfl | exact .nil _ | exact .tref rfl (by repeat (first | exact .nil | refine .cons (.d _ rfl) ?_ | refine .cons (.rs rfl) ?_))) (.cons (by first | exact .d _ | exact .rs rfl | exact .ref rfl | exact .nil _ | exact .tref rfl (by repeat (first | exact .nil | refine .cons (.d _ rfl) ?_ | refine .cons (.rs rfl) ?_))) .nil)) rfl (without_p _ _) (by first | exact .v _ | exact D.Flat.tupF (by repeat first | exact trivial | refine ⟨.v _, ?_⟩) | exact D.Flat.aggF (by repeat first | exact trivial | refine ⟨.v _, ?_⟩))) ?_
      refine rgm_q rfl (q_move (x := .d (.tup _)) rfl) ?_
      refine rgm_q rfl (q_extract rfl rfl) ?_
      refine rgm_q rfl (q_extract rfl rfl) ?_
      refine rgm_m (k := 9) rfl rfl (by rfl) (m_alloc zr29 rfl rfl) ?_
      first | refine rgm_m (k := 9) rfl rfl (by rfl) (m_store sz29 rfl rfl (by first | exact .inl rfl | exact .inr ⟨_, rfl⟩) rfl rfl (by first | decide | simp) rfl) ?_ | refine rgm_m (k := 9) rfl rfl (by rfl) (m_storeAg sz29 rfl rfl rfl rfl rfl rfl rfl) ?_
      refine rgm_q rfl (q_assign (x := .d (.v _)) rfl) ?_
      refine rgm_nil ?_
      refine aops_nil ?_
      change Awp _ _ _ _ _
      refine awp_seq ?_
      refine awp_seq ?_
      refine awp_region 6 mixed (by kernel_rfl) ?_
      refine rg_q (q_move (x := .d (.v _)) rfl) ?_
      refine rg_q (q_neq rfl rfl) ?_
      refine rg_q (q_move (x := .d (.v _)) rfl) ?_
      refine rg_g rfl rfl (fun hG => (q_move (x := .d (.v _)) rfl)) ?_
      refine rg_g rfl rfl (fun hG => (q_neq rfl rfl)) ?_
      first | refine rg_pick rfl rfl rfl rfl rfl rfl ?_ | refine rg_q (q_pick rfl rfl rfl) ?_
      refine rg_nil ?_
      refine aops_nil ?_
      change Awp _ _ _ _ _
      refine awp_cond rfl (fun hc7 => ?_) (fun hc7 => ?_)
      ·
        (try simp only [decide_eq_true_eq, decide_eq_false_iff_not, Bool.and_eq_true, Bool.or_eq_true, Bool.and_eq_false_iff, Bool.or_eq_false_iff, Bool.not_eq_true', Bool.not_eq_false', Bool.not_true, Bool.not_false, bif_and, bif_or, Bool.not_not, ne_eq, Decidable.not_not, not_true_eq_false, not_false_eq_true, Int.not_le, Int.not_lt] at hc7)
        refine awp_seq ?_
        refine awp_region 1 mixed (by kernel_rfl) ?_
        refine rg_q (q_assign (x := .d (.v _)) rfl) ?_
        refine rg_nil ?_
        refine aops_nil ?_
        change Awp _ _ _ _ _
        refine awp_ret ?_
        refine ⟨_, (.cons (.tmp (by first | exact .d _ | exact .rs rfl | exact .ref rfl | exact .tref rfl (.cons (.d _ rfl) (.cons (.rs rfl) .nil)))) .nil), ?_⟩
        rfl
      ·
        (try simp only [decide_eq_true_eq, decide_eq_false_iff_not, Bool.and_eq_true, Bool.or_eq_true, Bool.and_eq_false_iff, Bool.or_eq_false_iff, Bool.not_eq_true', Bool.not_eq_false', Bool.not_true, Bool.not_false, bif_and, bif_or, Bool.not_not, ne_eq, Decidable.not_not, not_true_eq_false, not_false_eq_true, Int.not_le, Int.not_lt] at hc7)
        have he1 : (aptR a x).2 = 0 := by first | exact hc7.1 | (simp_all; done)
        have he2 : (wthR x dead).2 = 0 := by first | exact hc7.2 | (simp_all; done)
        have hWe := wthR_ok he2
        generalize hW : (wthR x dead).1 = W at *
        have hin := apt_in he1
        obtain ⟨lo1, lo2, hi1, hi2, ho⟩ := hin
        obtain ⟨o1, o2, o3⟩ := lop_ok ho
        have hs1 : sendR x = ((sndL x).map fun p => p.1, 0) := by unfold sendR; rw [if_neg (by rw [o2]; simp)]
        have hs2 : sendR W = (((sndL x).map (fun p => p.1)).filter (aliveB dead), 0) := by rw [hWe, ← left_eq]; unfold sendR; rw [if_neg (by rw [wth_ok o2]; simp)]
        have hlW : W.tk.length = x.tk.length := by rw [hWe]; unfold wth; simp only [wth_len]
        have hlS : (sendR x).1.length ≤ 18 := by rw [hs1]; simp only [List.length_map]; exact Nat.le_trans sndTo_len hl2
        refine awp_skip ?_
        change Awp _ _ _ _ _
        refine awp_seq ?_
        refine awp_region 8 mixed (by kernel_rfl) ?_
        first | refine rg_q (q_loadA (ds := [_, _]) sz29 rfl rfl rfl) ?_ | refine rg_q (q_load_refA (ds := [_, _]) sz29 rfl rfl rfl rfl) ?_
        first | refine rg_q (q_call en7 (.cons rfl .nil) rfl (copyLaw_p _ (by omega))) ?_ | refine rg_q (q_callF en7 (.cons (by first | exact .d _ | exact .rs rfl | exact .ref rfl | exact .nil _ | exact .tref rfl (by repeat (first | exact .nil | refine .cons (.d _ rfl) ?_ | refine .cons (.rs rfl) ?_))) .nil) rfl (copyLaw_p _ (by omega)) (by first | exact .v _ | exact D.Flat.tupF (by repeat first | exact trivial | refine ⟨.v _, ?_⟩) | exact D.Flat.aggF (by repeat first | exact trivial | refine ⟨.v _, ?_⟩))) ?_
        first | refine rg_q (q_call en10 (.cons rfl .nil) rfl (sending_p _)) ?_ | refine rg_q (q_callF en10 (.cons (by first | exact .d _ | exact .rs rfl | exact .ref rfl | exact .nil _ | exact .tref rfl (by repeat (first | exact .nil | refine .cons (.d _ rfl) ?_ | refine .cons (.rs rfl) ?_))) .nil) rfl (sending_p _) (by first | exact .v _ | exact D.Flat.tupF (by repeat first | exact trivial | refine ⟨.v _, ?_⟩) | exact D.Flat.aggF (by repeat first | exact trivial | refine ⟨.v _, ?_⟩))) ?_
        refine rg_q (q_move (x := .d (.tup _)) rfl) ?_
        refine rg_q (q_extract rfl rfl) ?_
        refine rg_q (q_extract rfl rfl) ?_
        first | refine rg_q (q_assign (x := .d (.sl _ _)) rfl) ?_ | refine rg_q (q_assign (x := .rs _) rfl) ?_ | refine rg_q (q_assign (x := .d (.v _)) rfl) ?_
        refine rg_q (q_assign (x := .d (.v _)) rfl) ?_
        refine rg_nil ?_
        refine aops_nil ?_
        change Awp _ _ _ _ _
        refine awp_seq ?_
        refine awp_region 8 mixed (by kernel_rfl) ?_
        first | refine rg_q (q_loadA (ds := [_, _]) sz29 rfl rfl rfl) ?_ | refine rg_q (q_load_refA (ds := [_, _]) sz29 rfl rfl rfl rfl) ?_
        first | refine rg_q (q_call en7 (.cons rfl .nil) rfl (copyLaw_p _ (by omega))) ?_ | refine rg_q (q_callF en7 (.cons (by first | exact .d _ | exact .rs rfl | exact .ref rfl | exact .nil _ | exact .tref rfl (by repeat (first | exact .nil | refine .cons (.d _ rfl) ?_ | refine .cons (.rs rfl) ?_))) .nil) rfl (copyLaw_p _ (by omega)) (by first | exact .v _ | exact D.Flat.tupF (by repeat first | exact trivial | refine ⟨.v _, ?_⟩) | exact D.Flat.aggF (by repeat first | exact trivial | refine ⟨.v _, ?_⟩))) ?_
        first | refine rg_q (q_call en10 (.cons rfl .nil) rfl (sending_p _)) ?_ | refine rg_q (q_callF en10 (.cons (by first | exact .d _ | exact .rs rfl | exact .ref rfl | exact .nil _ | exact .tref rfl (by repeat (first | exact .nil | refine .cons (.d _ rfl) ?_ | refine .cons (.rs rfl) ?_))) .nil) rfl (sending_p _) (by first | exact .v _ | exact D.Flat.tupF (by repeat first | exact trivial | refine ⟨.v _, ?_⟩) | exact D.Flat.aggF (by repeat first | exact trivial | refine ⟨.v _, ?_⟩))) ?_
        refine rg_q (q_move (x := .d (.tup _)) rfl) ?_
        refine rg_q (q_extract rfl rfl) ?_
        refine rg_q (q_extract rfl rfl) ?_
        first | refine rg_q (q_assign (x := .d (.sl _ _)) rfl) ?_ | refine rg_q (q_assign (x := .rs _) rfl) ?_ | refine rg_q (q_assign (x := .d (.v _)) rfl) ?_
        refine rg_q (q_assign (x := .d (.v _)) rfl) ?_
        refine rg_nil ?_
        refine aops_nil ?_
        change Awp _ _ _ _ _
        refine awp_seq ?_
        refine awp_seq ?_
        refine awp_region 6 mixed (by kernel_rfl) ?_
        refine rg_q (q_move (x := .d (.v _)) rfl) ?_
        refine rg_q (q_neq rfl rfl) ?_
        refine rg_q (q_move (x := .d (.v _)) rfl) ?_
        refine rg_g rfl rfl (fun hG => (q_move (x := .d (.v _)) rfl)) ?_
        refine rg_g rfl rfl (fun hG => (q_neq rfl rfl)) ?_
        first | refine rg_pick rfl rfl rfl rfl rfl rfl ?_ | refine rg_q (q_pick rfl rfl rfl) ?_
        refine rg_nil ?_
        refine aops_nil ?_
        change Awp _ _ _ _ _
        refine awp_cond rfl (fun hc11 => ?_) (fun hc11 => ?_)
        ·
          exfalso
          rw [hs1, hs2] at hc11
          simp at hc11
        ·
          (try simp only [decide_eq_true_eq, decide_eq_false_iff_not, Bool.and_eq_true, Bool.or_eq_true, Bool.and_eq_false_iff, Bool.or_eq_false_iff, Bool.not_eq_true', Bool.not_eq_false', Bool.not_true, Bool.not_false, bif_and, bif_or, Bool.not_not, ne_eq, Decidable.not_not, not_true_eq_false, not_false_eq_true, Int.not_le, Int.not_lt] at hc11)
          refine awp_skip ?_
          change Awp _ _ _ _ _
          refine awp_seq ?_
          refine awp_region 1 mixed (by kernel_rfl) ?_
          refine rg_q (q_assign_nil) ?_
          refine rg_nil ?_
          refine aops_nil ?_
          change Awp _ _ _ _ _
          refine Awp.le (le_own (k := 15) (e := 3) (sz := 1) rfl rfl) ?_
          refine awp_seq ?_
          refine awp_seq ?_
          refine awp_region 1 mixed (by kernel_rfl) ?_
          refine rg_q (q_assign (x := .d (.v _)) rfl) ?_
          refine rg_nil ?_
          refine aops_nil ?_
          change Awp _ _ _ _ _
          refine awp_block ?_
          refine awp_loopH [15, 16, 82, 83, 84, 85, 86, 87, 88, 89, 90, 91, 92, 93, 94, 95, 96, 97, 98, 99, 100, 101, 102] [15] (α := Nat) (fun k => [(16, T.i (k : Int)), (15, .rs 15)]) (fun k => [(15, .row 3 1 ((((sendR x).1.take k).filter (aliveB dead)).map iC))]) (fun k => k ≤ (sendR x).1.length) (fun k => (sendR x).1.length - k) 0 (Nat.zero_le _) ?_ ?_
          · exact le_head (ms := [15]) (by repeat (first | exact Out.refl _ | exact Out.head rfl rfl | (refine Out.put ?_ rfl) | (refine Out.site ?_ rfl) | (refine Out.putn ?_) | (refine Out.headIn ?_ rfl rfl rfl) | (refine Out.called ?_ rfl rfl) | (refine Out.killS ?_ rfl))) ⟨(by first | rfl | (show Site.row 3 1 _ = Site.row 3 1 _; first | (rw [hfs, List.map_append]; rfl) | rw [hfs])), (by first | rfl | (show Site.row 3 1 _ = Site.row 3 1 _; first | (rw [hfs, List.map_append]; rfl) | rw [hfs])), trivial⟩ ⟨(by first | rfl | (show Site.row 3 1 _ = Site.row 3 1 _; first | (rw [hfs, List.map_append]; rfl) | rw [hfs])), trivial⟩ rfl rfl rfl rfl
          ·
            intro k hk
            refine awp_seq ?_
            refine awp_seq ?_
            refine awp_region 4 mixed (by kernel_rfl) ?_
            refine rg_q (q_move (x := .d (.v _)) rfl) ?_
            first | refine rg_q (q_move (x := .d (.sl _ _)) rfl) ?_ | refine rg_q (q_move (x := .rs _) rfl) ?_ | refine rg_q (q_move (x := .d (.v _)) rfl) ?_
            first | refine rg_q (q_len isl27 rfl (by first | exact len_map _ _ | rfl)) ?_ | refine rg_q (q_len_rs isl27 rfl rfl) ?_ | refine rg_q (q_len_nil isl27 rfl) ?_
            refine rg_q (q_lss rfl rfl) ?_
            refine rg_nil ?_
            refine aops_nil ?_
            change Awp _ _ _ _ _
            first | refine awp_len (t := 83) rfl (fun hl83 => ?_) | skip
            (try simp only [List.length_map] at hl83)
            refine awp_cond rfl (fun hc15 => ?_) (fun hc15 => ?_)
            ·
              (try simp only [decide_eq_true_eq, decide_eq_false_iff_not, Bool.and_eq_true, Bool.or_eq_true, Bool.and_eq_false_iff, Bool.or_eq_false_iff, Bool.not_eq_true', Bool.not_eq_false', Bool.not_true, Bool.not_false, bif_and, bif_or, Bool.not_not, ne_eq, Decidable.not_not, not_true_eq_false, not_false_eq_true, Int.not_le, Int.not_lt] at hc15)
              have hlt : k < (sendR x).1.length := by omega
              obtain ⟨y, hx⟩ : ∃ y, (sendR x).1[k]? = some y := ⟨_, List.getElem?_eq_getElem hlt⟩
              have hfs := filt_snoc (p := aliveB dead) hx
              have hln : (((sendR x).1.take k).filter (aliveB dead)).length ≤ 18 := by have := List.length_filter_le (aliveB dead) ((sendR x).1.take k); rw [List.length_take] at this; omega
              refine awp_skip ?_
              change Awp _ _ _ _ _
              refine awp_seq ?_
              refine awp_block ?_
              refine awp_seq ?_
              refine awp_region 8 mixed (by kernel_rfl) ?_
              first | refine rg_q (q_fieldAddr fld31_0 rfl) ?_ | refine rg_q (q_fieldAddr_ref fld31_0 rfl) ?_
              first | refine rg_q (q_load sz27 rfl rfl) ?_ | refine rg_q (q_load_ref sz27 rfl rfl rfl) ?_ | refine rg_q (q_load_tb (x := .d _) sz27 rfl rfl rfl) ?_ | refine rg_q (q_load_tb (x := .rs _) sz27 rfl rfl rfl) ?_
              first | refine rg_q (q_move (x := .d (.sl _ _)) rfl) ?_ | refine rg_q (q_move (x := .rs _) rfl) ?_ | refine rg_q (q_move (x := .d (.v _)) rfl) ?_
              refine rg_q (q_move (x := .d (.v _)) rfl) ?_
              first | refine rg_q (q_indexAddr sl27 rfl rfl (by omega) (map_at (by omega) hx)) ?_ | refine rg_q (q_indexAddr_rs sl27 rfl rfl rfl (by omega) (by omega)) ?_
              first | refine rg_q (q_load sz3 rfl rfl) ?_ | refine rg_q (q_load_ref sz3 rfl rfl rfl) ?_ | refine rg_q (q_load_tb (x := .d _) sz3 rfl rfl rfl) ?_ | refine rg_q (q_load_tb (x := .rs _) sz3 rfl rfl rfl) ?_
              first | refine rg_q (q_call en11 (.cons rfl (.cons rfl .nil)) rfl (has_b _ _)) ?_ | refine rg_q (q_callF en11 (.cons (by first | exact .d _ | exact .rs rfl | exact .ref rfl | exact .nil _ | exact .tref rfl (by repeat (first | exact .nil | refine .cons (.d _ rfl) ?_ | refine .cons (.rs rfl) ?_))) (.cons (by first | exact .d _ | exact .rs rfl | exact .ref rfl | exact .nil _ | exact .tref rfl (by repeat (first | exact .nil | refine .cons (.d _ rfl) ?_ | refine .cons (.rs rfl) ?_))) .nil)) rfl (has_b _ _) (by first | exact .v _ | exact D.Flat.tupF (by repeat first | exact trivial | refine ⟨.v _, ?_⟩) | exact D.Flat.aggF (by repeat first | exact trivial | refine ⟨.v _, ?_⟩))) ?_
              refine rg_q (q_not rfl) ?_
              refine rg_nil ?_
              refine aops_nil ?_
              change Awp _ _ _ _ _
              refine awp_cond rfl (fun hc17 => ?_) (fun hc17 => ?_)
              ·
                (try simp only [decide_eq_true_eq, decide_eq_false_iff_not, Bool.and_eq_true, Bool.or_eq_true, Bool.and_eq_false_iff, Bool.or_eq_false_iff, Bool.not_eq_true', Bool.not_eq_false', Bool.not_true, Bool.not_false, bif_and, bif_or, Bool.not_not, ne_eq, Decidable.not_not, not_true_eq_false, not_false_eq_true, Int.not_le, Int.not_lt] at hc17)
                have hal : aliveB dead y = true := by unfold aliveB; simpa using hc17
                rw [if_pos hal] at hfs
                refine awp_region 6 mixed (by kernel_rfl) ?_
                first | refine rg_q (q_move (x := .d (.sl _ _)) rfl) ?_ | refine rg_q (q_move (x := .rs _) rfl) ?_ | refine rg_q (q_move (x := .d (.v _)) rfl) ?_
                first | refine rg_q (q_move (x := .d (.sl _ _)) rfl) ?_ | refine rg_q (q_move (x := .rs _) rfl) ?_ | refine rg_q (q_move (x := .d (.v _)) rfl) ?_
                refine rg_q (q_move (x := .d (.v _)) rfl) ?_
                first | refine rg_q (q_indexAddr sl27 rfl rfl (by omega) (map_at (by omega) hx)) ?_ | refine rg_q (q_indexAddr_rs sl27 rfl rfl rfl (by omega) (by omega)) ?_
                first | refine rg_q (q_load sz3 rfl rfl) ?_ | refine rg_q (q_load_ref sz3 rfl rfl rfl) ?_ | refine rg_q (q_load_tb (x := .d _) sz3 rfl rfl rfl) ?_ | refine rg_q (q_load_tb (x := .rs _) sz3 rfl rfl rfl) ?_
                refine rg_q (q_buildSlice sl27 zr3 rfl rfl (by decide) (.cons rfl (by first | exact .inl rfl | exact .inr ⟨_, rfl⟩) .nil) ⟨rfl, rfl, trivial⟩ rfl (by decide) rfl) ?_
                refine rg_nil ?_
                first | refine aops_append sl27 zr3 by3 rfl (by decide) rfl rfl rfl rfl (by (try simp only [List.length_map, List.length_append, List.length_cons, List.length_nil]); omega) (by (try simp only [List.length_map, List.length_append, List.length_cons, List.length_nil]); omega) rfl rfl ?_ | refine aops_appendR sl27 zr3 by3 rfl (by decide) rfl rfl rfl rfl rfl (by (try simp only [List.length_map, List.length_append, List.length_cons, List.length_nil]); omega) (by (try simp only [List.length_map, List.length_append, List.length_cons, List.length_nil]); omega) rfl rfl ?_
                first | refine aops_q rfl (q_assign (x := .d (.sl _ _)) rfl) ?_ | refine aops_q rfl (q_assign (x := .rs _) rfl) ?_ | refine aops_q rfl (q_assign (x := .d (.v _)) rfl) ?_
                refine aops_nil ?_
                change Awp _ _ _ _ _
                refine awp_region 3 mixed (by kernel_rfl) ?_
                refine rg_q (q_move (x := .d (.v _)) rfl) ?_
                refine rg_q (q_add rfl rfl (In64.mk (by omega) (by omega))) ?_
                refine rg_q (q_assign (x := .d (.v _)) rfl) ?_
                refine rg_nil ?_
                refine aops_nil ?_
                refine ⟨k + 1, by omega, by omega, ?_⟩
                exact le_head (ms := [15]) (by repeat (first | exact Out.refl _ | exact Out.head rfl rfl | (refine Out.put ?_ rfl) | (refine Out.site ?_ rfl) | (refine Out.putn ?_) | (refine Out.headIn ?_ rfl rfl rfl) | (refine Out.called ?_ rfl rfl) | (refine Out.killS ?_ rfl))) ⟨(by first | rfl | (show Site.row 3 1 _ = Site.row 3 1 _; first | (rw [hfs, List.map_append]; rfl) | rw [hfs])), (by first | rfl | (show Site.row 3 1 _ = Site.row 3 1 _; first | (rw [hfs, List.map_append]; rfl) | rw [hfs])), trivial⟩ ⟨(by first | rfl | (show Site.row 3 1 _ = Site.row 3 1 _; first | (rw [hfs, List.map_append]; rfl) | rw [hfs])), trivial⟩ rfl rfl rfl rfl
              ·
                (try simp only [decide_eq_true_eq, decide_eq_false_iff_not, Bool.and_eq_true, Bool.or_eq_true, Bool.and_eq_false_iff, Bool.or_eq_false_iff, Bool.not_eq_true', Bool.not_eq_false', Bool.not_true, Bool.not_false, bif_and, bif_or, Bool.not_not, ne_eq, Decidable.not_not, not_true_eq_false, not_false_eq_true, Int.not_le, Int.not_lt] at hc17)
                have hal : aliveB dead y = false := by unfold aliveB; simpa using hc17
                rw [if_neg (by rw [hal]; simp), List.append_nil] at hfs
                refine awp_skip ?_
                change Awp _ _ _ _ _
                refine awp_region 3 mixed (by kernel_rfl) ?_
                refine rg_q (q_move (x := .d (.v _)) rfl) ?_
                refine rg_q (q_add rfl rfl (In64.mk (by omega) (by omega))) ?_
                refine rg_q (q_assign (x := .d (.v _)) rfl) ?_
                refine rg_nil ?_
                refine aops_nil ?_
                refine ⟨k + 1, by omega, by omega, ?_⟩
                exact le_head (ms := [15]) (by repeat (first | exact Out.refl _ | exact Out.head rfl rfl | (refine Out.put ?_ rfl) | (refine Out.site ?_ rfl) | (refine Out.putn ?_) | (refine Out.headIn ?_ rfl rfl rfl) | (refine Out.called ?_ rfl rfl) | (refine Out.killS ?_ rfl))) ⟨(by first | rfl | (show Site.row 3 1 _ = Site.row 3 1 _; first | (rw [hfs, List.map_append]; rfl) | rw [hfs])), (by first | rfl | (show Site.row 3 1 _ = Site.row 3 1 _; first | (rw [hfs, List.map_append]; rfl) | rw [hfs])), trivial⟩ ⟨(by first | rfl | (show Site.row 3 1 _ = Site.row 3 1 _; first | (rw [hfs, List.map_append]; rfl) | rw [hfs])), trivial⟩ rfl rfl rfl rfl
            ·
              (try simp only [decide_eq_true_eq, decide_eq_false_iff_not, Bool.and_eq_true, Bool.or_eq_true, Bool.and_eq_false_iff, Bool.or_eq_false_iff, Bool.not_eq_true', Bool.not_eq_false', Bool.not_true, Bool.not_false, bif_and, bif_or, Bool.not_not, ne_eq, Decidable.not_not, not_true_eq_false, not_false_eq_true, Int.not_le, Int.not_lt] at hc15)
              have hkl : k = (sendR x).1.length := by omega
              subst hkl
              have hwn : (((sendR x).1.take (sendR x).1.length).filter (aliveB dead)).map iC = (sendR W).1.map iC := by rw [List.take_length, hs1, hs2]
              refine awp_exit ?_
              change Awp _ _ _ _ _
              refine awp_seq ?_
              refine awp_seq ?_
              refine Awp.le (le_freezeR (es := (sendR W).1.map iC) 15 15 (by show Site.row _ _ _ = _; rw [hwn]) rfl rfl rfl hmine) ?_
              refine awp_region 4 mixed (by kernel_rfl) ?_
              first | refine rg_q (q_move (x := .d (.sl _ _)) rfl) ?_ | refine rg_q (q_move (x := .rs _) rfl) ?_ | refine rg_q (q_move (x := .d (.v _)) rfl) ?_
              first | refine rg_q (q_move (x := .d (.sl _ _)) rfl) ?_ | refine rg_q (q_move (x := .rs _) rfl) ?_ | refine rg_q (q_move (x := .d (.v _)) rfl) ?_
              first | refine rg_q (q_call en12 (.cons rfl (.cons rfl .nil)) rfl (ints_p (sendR W).1 (sendR W).1)) ?_ | refine rg_q (q_callF en12 (.cons (by first | exact .d _ | exact .rs rfl | exact .ref rfl | exact .nil _ | exact .tref rfl (by repeat (first | exact .nil | refine .cons (.d _ rfl) ?_ | refine .cons (.rs rfl) ?_))) (.cons (by first | exact .d _ | exact .rs rfl | exact .ref rfl | exact .nil _ | exact .tref rfl (by repeat (first | exact .nil | refine .cons (.d _ rfl) ?_ | refine .cons (.rs rfl) ?_))) .nil)) rfl (ints_p (sendR W).1 (sendR W).1) (by first | exact .v _ | exact D.Flat.tupF (by repeat first | exact trivial | refine ⟨.v _, ?_⟩) | exact D.Flat.aggF (by repeat first | exact trivial | refine ⟨.v _, ?_⟩))) ?_
              refine rg_q (q_not rfl) ?_
              refine rg_nil ?_
              refine aops_nil ?_
              change Awp _ _ _ _ _
              refine awp_cond rfl (fun hc19 => ?_) (fun hc19 => ?_)
              ·
                simp at hc19
              ·
                (try simp only [decide_eq_true_eq, decide_eq_false_iff_not, Bool.and_eq_true, Bool.or_eq_true, Bool.and_eq_false_iff, Bool.or_eq_false_iff, Bool.not_eq_true', Bool.not_eq_false', Bool.not_true, Bool.not_false, bif_and, bif_or, Bool.not_not, ne_eq, Decidable.not_not, not_true_eq_false, not_false_eq_true, Int.not_le, Int.not_lt] at hc19)
                refine awp_skip ?_
                change Awp _ _ _ _ _
                refine awp_seq ?_
                refine awp_regionM 11 [none, none, none, none, none, none, none, none, some 17, some 17, none] mixed (by kernel_rfl) ?_
                first | refine rgm_q rfl (q_loadA (ds := [_, _, _, _, _, _]) sz26 rfl rfl rfl) ?_ | refine rgm_q rfl (q_load_refA (ds := [_, _, _, _, _, _]) sz26 rfl rfl rfl rfl) ?_
                first | refine rgm_q rfl (q_call en6 (.cons rfl .nil) rfl (copyLar_p _ (by omega))) ?_ | refine rgm_q rfl (q_callF en6 (.cons (by first | exact .d _ | exact .rs rfl | exact .ref rfl | exact .nil _ | exact .tref rfl (by repeat (first | exact .nil | refine .cons (.d _ rfl) ?_ | refine .cons (.rs rfl) ?_))) .nil) rfl (copyLar_p _ (by omega)) (by first | exact .v _ | exact D.Flat.tupF (by repeat first | exact trivial | refine ⟨.v _, ?_⟩) | exact D.Flat.aggF (by repeat first | exact trivial | refine ⟨.v _, ?_⟩))) ?_
                first | refine rgm_q rfl (q_loadA (ds := [_, _]) sz29 rfl rfl rfl) ?_ | refine rgm_q rfl (q_load_refA (ds := [_, _]) sz29 rfl rfl rfl rfl) ?_
                first | refine rgm_q rfl (q_call en7 (.cons rfl .nil) rfl (copyLaw_p _ (by omega))) ?_ | refine rgm_q rfl (q_callF en7 (.cons (by first | exact .d _ | exact .rs rfl | exact .ref rfl | exact .nil _ | exact .tref rfl (by repeat (first | exact .nil | refine .cons (.d _ rfl) ?_ | refine .cons (.rs rfl) ?_))) .nil) rfl (copyLaw_p _ (by omega)) (by first | exact .v _ | exact D.Flat.tupF (by repeat first | exact trivial | refine ⟨.v _, ?_⟩) | exact D.Flat.aggF (by repeat first | exact trivial | refine ⟨.v _, ?_⟩))) ?_
                first | refine rgm_q rfl (q_call en5 (.cons rfl (.cons rfl .nil)) rfl (aperture_any _ _)) ?_ | refine rgm_q rfl (q_callF en5 (.cons (by first | exact .d _ | exact .rs rfl | exact .ref rfl | exact .nil _ | exact .tref rfl (by repeat (first | exact .nil | refine .cons (.d _ rfl) ?_ | refine .cons (.rs rfl) ?_))) (.cons (by first | exact .d _ | exact .rs rfl | exact .ref rfl | exact .nil _ | exact .tref rfl (by repeat (first | exact .nil | refine .cons (.d _ rfl) ?_ | refine .cons (.rs rfl) ?_))) .nil)) rfl (aperture_any _ _) (by first | exact .v _ | exact D.Flat.tupF (by repeat first | exact trivial | refine ⟨.v _, ?_⟩) | exact D.Flat.aggF (by repeat first | exact trivial | refine ⟨.v _, ?_⟩))) ?_
                refine rgm_q rfl (q_move (x := .d (.tup _)) rfl) ?_
                refine rgm_q rfl (q_extract rfl rfl) ?_
                refine rgm_q rfl (q_extract rfl rfl) ?_
                refine rgm_m (k := 17) rfl rfl (by rfl) (m_alloc zr34 rfl rfl) ?_
                first | refine rgm_m (k := 17) rfl rfl (by rfl) (m_store sz34 rfl rfl (by first | exact .inl rfl | exact .inr ⟨_, rfl⟩) rfl rfl (by first | decide | simp) rfl) ?_ | refine rgm_m (k := 17) rfl rfl (by rfl) (m_storeAg sz34 rfl rfl rfl rfl rfl rfl rfl) ?_
                refine rgm_q rfl (q_assign (x := .d (.v _)) rfl) ?_
                refine rgm_nil ?_
                refine aops_nil ?_
                change Awp _ _ _ _ _
                refine awp_seq ?_
                refine awp_seq ?_
                refine awp_region 3 mixed (by kernel_rfl) ?_
                first | refine rg_q (q_move (x := .d (.sl _ _)) rfl) ?_ | refine rg_q (q_move (x := .rs _) rfl) ?_ | refine rg_q (q_move (x := .d (.v _)) rfl) ?_
                first | refine rg_q (q_len isl27 rfl (by first | exact len_map _ _ | rfl)) ?_ | refine rg_q (q_len_rs isl27 rfl rfl) ?_ | refine rg_q (q_len_nil isl27 rfl) ?_
                refine rg_q (q_eql rfl rfl) ?_
                refine rg_nil ?_
                refine aops_nil ?_
                change Awp _ _ _ _ _
                first | refine awp_len (t := 115) rfl (fun hl115 => ?_) | skip
                (try simp only [List.length_map] at hl115)
                refine awp_cond rfl (fun hc22 => ?_) (fun hc22 => ?_)
                ·
                  (try simp only [decide_eq_true_eq, decide_eq_false_iff_not, Bool.and_eq_true, Bool.or_eq_true, Bool.and_eq_false_iff, Bool.or_eq_false_iff, Bool.not_eq_true', Bool.not_eq_false', Bool.not_true, Bool.not_false, bif_and, bif_or, Bool.not_not, ne_eq, Decidable.not_not, not_true_eq_false, not_false_eq_true, Int.not_le, Int.not_lt] at hc22)
                  have hn0 : (sndL (wth x dead)).length = 0 := by (try simp only [List.length_map] at hc22); have e := congrArg (fun r => r.1.length) hs2; simp only at e; have e2 := congrArg List.length (left_eq x dead); rw [List.length_map] at e2; omega
                  have hz := apt_none he1 hn0
                  rw [← hWe] at hz
                  refine awp_seq ?_
                  refine awp_region 3 mixed (by kernel_rfl) ?_
                  refine rg_q (q_move (x := .d (.v _)) rfl) ?_
                  refine rg_q (q_eql rfl rfl) ?_
                  refine rg_q (q_assign (x := .d (.v _)) rfl) ?_
                  refine rg_nil ?_
                  refine aops_nil ?_
                  change Awp _ _ _ _ _
                  refine awp_ret ?_
                  refine ⟨_, (.cons (.tmp (by first | exact .d _ | exact .rs rfl | exact .ref rfl | exact .tref rfl (.cons (.d _ rfl) (.cons (.rs rfl) .nil)))) .nil), ?_⟩
                  rw [hz]; rfl
                ·
                  (try simp only [decide_eq_true_eq, decide_eq_false_iff_not, Bool.and_eq_true, Bool.or_eq_true, Bool.and_eq_false_iff, Bool.or_eq_false_iff, Bool.not_eq_true', Bool.not_eq_false', Bool.not_true, Bool.not_false, bif_and, bif_or, Bool.not_not, ne_eq, Decidable.not_not, not_true_eq_false, not_false_eq_true, Int.not_le, Int.not_lt] at hc22)
                  have hn0 : (sndL (wth x dead)).length ≠ 0 := by (try simp only [List.length_map] at hc22); have e := congrArg (fun r => r.1.length) hs2; simp only at e; have e2 := congrArg List.length (left_eq x dead); rw [List.length_map] at e2; omega
                  have hz := apt_wth he1 hn0
                  rw [← hWe] at hz
                  obtain ⟨z1, z2, z3, z4⟩ := hz
                  obtain ⟨lo3, lo4, hi3, hi4, _⟩ := apt_in z1
                  refine awp_skip ?_
                  change Awp _ _ _ _ _
                  refine awp_seq ?_
                  refine awp_seq ?_
                  refine awp_region 23 mixed (by kernel_rfl) ?_
                  refine rg_q (q_move (x := .d (.v _)) rfl) ?_
                  refine rg_q (q_neq rfl rfl) ?_
                  refine rg_q (q_move (x := .d (.v _)) rfl) ?_
                  first | refine rg_g rfl rfl (fun hG => (q_fieldAddr fld34_0 rfl)) ?_ | refine rg_g rfl rfl (fun hG => (q_fieldAddr_ref fld34_0 rfl)) ?_
                  first | refine rg_g rfl rfl (fun hG => (q_load sz3 rfl rfl)) ?_ | refine rg_g rfl rfl (fun hG => (q_load_ref sz3 rfl rfl rfl)) ?_ | refine rg_g rfl rfl (fun hG => (q_load_tb (x := .d _) sz3 rfl rfl rfl)) ?_ | refine rg_g rfl rfl (fun hG => (q_load_tb (x := .rs _) sz3 rfl rfl rfl)) ?_
                  first | refine rg_g rfl rfl (fun hG => (q_fieldAddr fld34_0 rfl)) ?_ | refine rg_g rfl rfl (fun hG => (q_fieldAddr_ref fld34_0 rfl)) ?_
                  first | refine rg_g rfl rfl (fun hG => (q_load sz3 rfl rfl)) ?_ | refine rg_g rfl rfl (fun hG => (q_load_ref sz3 rfl rfl rfl)) ?_ | refine rg_g rfl rfl (fun hG => (q_load_tb (x := .d _) sz3 rfl rfl rfl)) ?_ | refine rg_g rfl rfl (fun hG => (q_load_tb (x := .rs _) sz3 rfl rfl rfl)) ?_
                  refine rg_g rfl rfl (fun hG => (q_lss rfl rfl)) ?_
                  first | refine rg_pick rfl rfl rfl rfl rfl rfl ?_ | refine rg_q (q_pick rfl rfl rfl) ?_
                  refine rg_q (q_move (x := .d (.v _)) rfl) ?_
                  first | refine rg_g rfl rfl (fun hG => (q_fieldAddr fld34_1 rfl)) ?_ | refine rg_g rfl rfl (fun hG => (q_fieldAddr_ref fld34_1 rfl)) ?_
                  first | refine rg_g rfl rfl (fun hG => (q_load sz3 rfl rfl)) ?_ | refine rg_g rfl rfl (fun hG => (q_load_ref sz3 rfl rfl rfl)) ?_ | refine rg_g rfl rfl (fun hG => (q_load_tb (x := .d _) sz3 rfl rfl rfl)) ?_ | refine rg_g rfl rfl (fun hG => (q_load_tb (x := .rs _) sz3 rfl rfl rfl)) ?_
                  first | refine rg_g rfl rfl (fun hG => (q_fieldAddr fld34_1 rfl)) ?_ | refine rg_g rfl rfl (fun hG => (q_fieldAddr_ref fld34_1 rfl)) ?_
                  first | refine rg_g rfl rfl (fun hG => (q_load sz3 rfl rfl)) ?_ | refine rg_g rfl rfl (fun hG => (q_load_ref sz3 rfl rfl rfl)) ?_ | refine rg_g rfl rfl (fun hG => (q_load_tb (x := .d _) sz3 rfl rfl rfl)) ?_ | refine rg_g rfl rfl (fun hG => (q_load_tb (x := .rs _) sz3 rfl rfl rfl)) ?_
                  refine rg_g rfl rfl (fun hG => (q_gtr rfl rfl)) ?_
                  first | refine rg_pick rfl rfl rfl rfl rfl rfl ?_ | refine rg_q (q_pick rfl rfl rfl) ?_
                  refine rg_q (q_move (x := .d (.v _)) rfl) ?_
                  first | refine rg_g rfl rfl (fun hG => (q_fieldAddr fld34_0 rfl)) ?_ | refine rg_g rfl rfl (fun hG => (q_fieldAddr_ref fld34_0 rfl)) ?_
                  first | refine rg_g rfl rfl (fun hG => (q_load sz3 rfl rfl)) ?_ | refine rg_g rfl rfl (fun hG => (q_load_ref sz3 rfl rfl rfl)) ?_ | refine rg_g rfl rfl (fun hG => (q_load_tb (x := .d _) sz3 rfl rfl rfl)) ?_ | refine rg_g rfl rfl (fun hG => (q_load_tb (x := .rs _) sz3 rfl rfl rfl)) ?_
                  first | refine rg_g rfl rfl (fun hG => (q_fieldAddr fld34_1 rfl)) ?_ | refine rg_g rfl rfl (fun hG => (q_fieldAddr_ref fld34_1 rfl)) ?_
                  first | refine rg_g rfl rfl (fun hG => (q_load sz3 rfl rfl)) ?_ | refine rg_g rfl rfl (fun hG => (q_load_ref sz3 rfl rfl rfl)) ?_ | refine rg_g rfl rfl (fun hG => (q_load_tb (x := .d _) sz3 rfl rfl rfl)) ?_ | refine rg_g rfl rfl (fun hG => (q_load_tb (x := .rs _) sz3 rfl rfl rfl)) ?_
                  refine rg_g rfl rfl (fun hG => (q_gtr rfl rfl)) ?_
                  first | refine rg_pick rfl rfl rfl rfl rfl rfl ?_ | refine rg_q (q_pick rfl rfl rfl) ?_
                  refine rg_nil ?_
                  refine aops_nil ?_
                  change Awp _ _ _ _ _
                  refine awp_cond rfl (fun hc24 => ?_) (fun hc24 => ?_)
                  ·
                    exfalso
                    rw [z1] at hc24
                    first | omega | (simp at hc24; omega) | (simp_all; omega)
                  ·
                    (try simp only [decide_eq_true_eq, decide_eq_false_iff_not, Bool.and_eq_true, Bool.or_eq_true, Bool.and_eq_false_iff, Bool.or_eq_false_iff, Bool.not_eq_true', Bool.not_eq_false', Bool.not_true, Bool.not_false, bif_and, bif_or, Bool.not_not, ne_eq, Decidable.not_not, not_true_eq_false, not_false_eq_true, Int.not_le, Int.not_lt] at hc24)
                    refine awp_skip ?_
                    change Awp _ _ _ _ _
                    refine awp_seq ?_
                    refine awp_region 13 mixed (by kernel_rfl) ?_
                    first | refine rg_q (q_fieldAddr fld34_1 rfl) ?_ | refine rg_q (q_fieldAddr_ref fld34_1 rfl) ?_
                    first | refine rg_q (q_load sz3 rfl rfl) ?_ | refine rg_q (q_load_ref sz3 rfl rfl rfl) ?_ | refine rg_q (q_load_tb (x := .d _) sz3 rfl rfl rfl) ?_ | refine rg_q (q_load_tb (x := .rs _) sz3 rfl rfl rfl) ?_
                    first | refine rg_q (q_fieldAddr fld34_0 rfl) ?_ | refine rg_q (q_fieldAddr_ref fld34_0 rfl) ?_
                    first | refine rg_q (q_load sz3 rfl rfl) ?_ | refine rg_q (q_load_ref sz3 rfl rfl rfl) ?_ | refine rg_q (q_load_tb (x := .d _) sz3 rfl rfl rfl) ?_ | refine rg_q (q_load_tb (x := .rs _) sz3 rfl rfl rfl) ?_
                    refine rg_q (q_sub rfl rfl (In64.mk (by omega) (by omega))) ?_
                    first | refine rg_q (q_fieldAddr fld31_1 rfl) ?_ | refine rg_q (q_fieldAddr_ref fld31_1 rfl) ?_
                    first | refine rg_q (q_load sz3 rfl rfl) ?_ | refine rg_q (q_load_ref sz3 rfl rfl rfl) ?_ | refine rg_q (q_load_tb (x := .d _) sz3 rfl rfl rfl) ?_ | refine rg_q (q_load_tb (x := .rs _) sz3 rfl rfl rfl) ?_
                    first | refine rg_q (q_fieldAddr fld31_2 rfl) ?_ | refine rg_q (q_fieldAddr_ref fld31_2 rfl) ?_
                    first | refine rg_q (q_load sz3 rfl rfl) ?_ | refine rg_q (q_load_ref sz3 rfl rfl rfl) ?_ | refine rg_q (q_load_tb (x := .d _) sz3 rfl rfl rfl) ?_ | refine rg_q (q_load_tb (x := .rs _) sz3 rfl rfl rfl) ?_
                    first | refine rg_q (q_call en13 (.cons rfl (.cons rfl (.cons rfl .nil))) rfl (nearField_p ((aptR a x).1.2 - (aptR a x).1.1) s q)) ?_ | refine rg_q (q_callF en13 (.cons (by first | exact .d _ | exact .rs rfl | exact .ref rfl | exact .nil _ | exact .tref rfl (by repeat (first | exact .nil | refine .cons (.d _ rfl) ?_ | refine .cons (.rs rfl) ?_))) (.cons (by first | exact .d _ | exact .rs rfl | exact .ref rfl | exact .nil _ | exact .tref rfl (by repeat (first | exact .nil | refine .cons (.d _ rfl) ?_ | refine .cons (.rs rfl) ?_))) (.cons (by first | exact .d _ | exact .rs rfl | exact .ref rfl | exact .nil _ | exact .tref rfl (by repeat (first | exact .nil | refine .cons (.d _ rfl) ?_ | refine .cons (.rs rfl) ?_))) .nil))) rfl (nearField_p ((aptR a x).1.2 - (aptR a x).1.1) s q) (by first | exact .v _ | exact D.Flat.tupF (by repeat first | exact trivial | refine ⟨.v _, ?_⟩) | exact D.Flat.aggF (by repeat first | exact trivial | refine ⟨.v _, ?_⟩))) ?_
                    refine rg_q (q_move (x := .d (.tup _)) rfl) ?_
                    refine rg_q (q_extract rfl rfl) ?_
                    refine rg_q (q_extract rfl rfl) ?_
                    refine rg_nil ?_
                    refine aops_alloc zr34 rfl rfl rfl ?_
                    first | refine aops_store sz34 rfl rfl (by first | exact .inl rfl | exact .inr ⟨_, rfl⟩) rfl rfl (by first | decide | simp; done | exact Nat.le_of_ble_eq_true rfl) rfl ?_ | refine aops_storeT (z := .rs _) sz34 rfl rfl rfl rfl (by first | decide | simp) rfl ?_ | refine aops_storeT (z := .d _) sz34 rfl rfl rfl rfl (by first | decide | simp) rfl ?_ | refine aops_storeTA sz34 rfl rfl (by first | exact .inl rfl | exact .inr ⟨_, rfl⟩) rfl rfl (by first | decide | simp) rfl ?_
                    refine aops_q rfl (q_assign (x := .d (.v _)) rfl) ?_
                    refine aops_nil ?_
                    change Awp _ _ _ _ _
                    refine awp_seq ?_
                    refine awp_region 13 mixed (by kernel_rfl) ?_
                    first | refine rg_q (q_fieldAddr fld34_1 rfl) ?_ | refine rg_q (q_fieldAddr_ref fld34_1 rfl) ?_
                    first | refine rg_q (q_load sz3 rfl rfl) ?_ | refine rg_q (q_load_ref sz3 rfl rfl rfl) ?_ | refine rg_q (q_load_tb (x := .d _) sz3 rfl rfl rfl) ?_ | refine rg_q (q_load_tb (x := .rs _) sz3 rfl rfl rfl) ?_
                    first | refine rg_q (q_fieldAddr fld34_0 rfl) ?_ | refine rg_q (q_fieldAddr_ref fld34_0 rfl) ?_
                    first | refine rg_q (q_load sz3 rfl rfl) ?_ | refine rg_q (q_load_ref sz3 rfl rfl rfl) ?_ | refine rg_q (q_load_tb (x := .d _) sz3 rfl rfl rfl) ?_ | refine rg_q (q_load_tb (x := .rs _) sz3 rfl rfl rfl) ?_
                    refine rg_q (q_sub rfl rfl (In64.mk (by omega) (by omega))) ?_
                    first | refine rg_q (q_fieldAddr fld31_1 rfl) ?_ | refine rg_q (q_fieldAddr_ref fld31_1 rfl) ?_
                    first | refine rg_q (q_load sz3 rfl rfl) ?_ | refine rg_q (q_load_ref sz3 rfl rfl rfl) ?_ | refine rg_q (q_load_tb (x := .d _) sz3 rfl rfl rfl) ?_ | refine rg_q (q_load_tb (x := .rs _) sz3 rfl rfl rfl) ?_
                    first | refine rg_q (q_fieldAddr fld31_2 rfl) ?_ | refine rg_q (q_fieldAddr_ref fld31_2 rfl) ?_
                    first | refine rg_q (q_load sz3 rfl rfl) ?_ | refine rg_q (q_load_ref sz3 rfl rfl rfl) ?_ | refine rg_q (q_load_tb (x := .d _) sz3 rfl rfl rfl) ?_ | refine rg_q (q_load_tb (x := .rs _) sz3 rfl rfl rfl) ?_
                    first | refine rg_q (q_call en13 (.cons rfl (.cons rfl (.cons rfl .nil))) rfl (nearField_p ((aptR a W).1.2 - (aptR a W).1.1) s q)) ?_ | refine rg_q (q_callF en13 (.cons (by first | exact .d _ | exact .rs rfl | exact .ref rfl | exact .nil _ | exact .tref rfl (by repeat (first | exact .nil | refine .cons (.d _ rfl) ?_ | refine .cons (.rs rfl) ?_))) (.cons (by first | exact .d _ | exact .rs rfl | exact .ref rfl | exact .nil _ | exact .tref rfl (by repeat (first | exact .nil | refine .cons (.d _ rfl) ?_ | refine .cons (.rs rfl) ?_))) (.cons (by first | exact .d _ | exact .rs rfl | exact .ref rfl | exact .nil _ | exact .tref rfl (by repeat (first | exact .nil | refine .cons (.d _ rfl) ?_ | refine .cons (.rs rfl) ?_))) .nil))) rfl (nearField_p ((aptR a W).1.2 - (aptR a W).1.1) s q) (by first | exact .v _ | exact D.Flat.tupF (by repeat first | exact trivial | refine ⟨.v _, ?_⟩) | exact D.Flat.aggF (by repeat first | exact trivial | refine ⟨.v _, ?_⟩))) ?_
                    refine rg_q (q_move (x := .d (.tup _)) rfl) ?_
                    refine rg_q (q_extract rfl rfl) ?_
                    refine rg_q (q_extract rfl rfl) ?_
                    refine rg_nil ?_
                    refine aops_alloc zr34 rfl rfl rfl ?_
                    first | refine aops_store sz34 rfl rfl (by first | exact .inl rfl | exact .inr ⟨_, rfl⟩) rfl rfl (by first | decide | simp; done | exact Nat.le_of_ble_eq_true rfl) rfl ?_ | refine aops_storeT (z := .rs _) sz34 rfl rfl rfl rfl (by first | decide | simp) rfl ?_ | refine aops_storeT (z := .d _) sz34 rfl rfl rfl rfl (by first | decide | simp) rfl ?_ | refine aops_storeTA sz34 rfl rfl (by first | exact .inl rfl | exact .inr ⟨_, rfl⟩) rfl rfl (by first | decide | simp) rfl ?_
                    refine aops_q rfl (q_assign (x := .d (.v _)) rfl) ?_
                    refine aops_nil ?_
                    change Awp _ _ _ _ _
                    refine awp_seq ?_
                    refine awp_region 21 mixed (by kernel_rfl) ?_
                    refine rg_q (q_move (x := .d (.v _)) rfl) ?_
                    refine rg_q (q_neq rfl rfl) ?_
                    refine rg_q (q_move (x := .d (.v _)) rfl) ?_
                    refine rg_g rfl rfl (fun hG => (q_move (x := .d (.v _)) rfl)) ?_
                    refine rg_g rfl rfl (fun hG => (q_eql rfl rfl)) ?_
                    refine rg_g rfl rfl (fun hG => (q_move (x := .d (.v _)) rfl)) ?_
                    first | refine rg_g rfl rfl (fun hG => (q_fieldAddr fld34_0 rfl)) ?_ | refine rg_g rfl rfl (fun hG => (q_fieldAddr_ref fld34_0 rfl)) ?_
                    first | refine rg_g rfl rfl (fun hG => (q_load sz3 rfl rfl)) ?_ | refine rg_g rfl rfl (fun hG => (q_load_ref sz3 rfl rfl rfl)) ?_ | refine rg_g rfl rfl (fun hG => (q_load_tb (x := .d _) sz3 rfl rfl rfl)) ?_ | refine rg_g rfl rfl (fun hG => (q_load_tb (x := .rs _) sz3 rfl rfl rfl)) ?_
                    first | refine rg_g rfl rfl (fun hG => (q_fieldAddr fld34_0 rfl)) ?_ | refine rg_g rfl rfl (fun hG => (q_fieldAddr_ref fld34_0 rfl)) ?_
                    first | refine rg_g rfl rfl (fun hG => (q_load sz3 rfl rfl)) ?_ | refine rg_g rfl rfl (fun hG => (q_load_ref sz3 rfl rfl rfl)) ?_ | refine rg_g rfl rfl (fun hG => (q_load_tb (x := .d _) sz3 rfl rfl rfl)) ?_ | refine rg_g rfl rfl (fun hG => (q_load_tb (x := .rs _) sz3 rfl rfl rfl)) ?_
                    refine rg_g rfl rfl (fun hG => (q_leq rfl rfl)) ?_
                    refine rg_pickg rfl rfl rfl rfl rfl rfl rfl rfl ?_
                    refine rg_g rfl rfl (fun hG => (q_move (x := .d (.v _)) rfl)) ?_
                    first | refine rg_g rfl rfl (fun hG => (q_fieldAddr fld34_1 rfl)) ?_ | refine rg_g rfl rfl (fun hG => (q_fieldAddr_ref fld34_1 rfl)) ?_
                    first | refine rg_g rfl rfl (fun hG => (q_load sz3 rfl rfl)) ?_ | refine rg_g rfl rfl (fun hG => (q_load_ref sz3 rfl rfl rfl)) ?_ | refine rg_g rfl rfl (fun hG => (q_load_tb (x := .d _) sz3 rfl rfl rfl)) ?_ | refine rg_g rfl rfl (fun hG => (q_load_tb (x := .rs _) sz3 rfl rfl rfl)) ?_
                    first | refine rg_g rfl rfl (fun hG => (q_fieldAddr fld34_1 rfl)) ?_ | refine rg_g rfl rfl (fun hG => (q_fieldAddr_ref fld34_1 rfl)) ?_
                    first | refine rg_g rfl rfl (fun hG => (q_load sz3 rfl rfl)) ?_ | refine rg_g rfl rfl (fun hG => (q_load_ref sz3 rfl rfl rfl)) ?_ | refine rg_g rfl rfl (fun hG => (q_load_tb (x := .d _) sz3 rfl rfl rfl)) ?_ | refine rg_g rfl rfl (fun hG => (q_load_tb (x := .rs _) sz3 rfl rfl rfl)) ?_
                    refine rg_g rfl rfl (fun hG => (q_leq rfl rfl)) ?_
                    refine rg_pickg rfl rfl rfl rfl rfl rfl rfl rfl ?_
                    first | refine rg_pick rfl rfl rfl rfl rfl rfl ?_ | refine rg_q (q_pick rfl rfl rfl) ?_
                    refine rg_q (q_assign (x := .d (.v _)) rfl) ?_
                    refine rg_nil ?_
                    refine aops_nil ?_
                    change Awp _ _ _ _ _
                    refine awp_ret ?_
                    refine ⟨_, (.cons (.tmp (by first | exact .d _ | exact .rs rfl | exact .ref rfl | exact .tref rfl (.cons (.d _ rfl) (.cons (.rs rfl) .nil)))) .nil), ?_⟩
                    by_cases hj : (nearR ((aptR a x).1.2 - (aptR a x).1.1) s q).2 = 0
                    · obtain ⟨m1, m2, m3⟩ := near_mono (a := (aptR a W).1.2 - (aptR a W).1.1) (b := (aptR a x).1.2 - (aptR a x).1.1) (s := s) (k := q) (by omega) (by omega) hj
                      simp [retD, hj, m1, m2, m3]
                    · simp [retD, hj]
end Go.Proofs.Ytdlckcohedcboaa.Am.M
