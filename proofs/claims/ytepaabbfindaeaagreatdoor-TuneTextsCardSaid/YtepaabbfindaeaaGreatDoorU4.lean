/- Contracts over the abstract machine: an event is read back; TuneTexts. Conditions: none. -/
import Derived.Test.YtepaabbfindaeaaGreatDoorU3
set_option linter.unusedVariables false
set_option linter.unusedSimpArgs false
namespace Go.Proofs.YtepaabbfindaeaaGreatDoor.Am.M
open Go

theorem dd_len9 {u : Nat} (h : u ≤ 999999999) : (Lib.decDigits u).length ≤ 9 := by
  rw [Lib.decDigits_length]
  rcases Nat.lt_or_ge u 10 with h1 | h1
  · rw [Lib.nDigits_small h1]; omega
  · rcases Nat.lt_or_ge 9 (Lib.nDigits u) with q | q
    · exfalso
      have hp : ∀ k : Nat, ∀ u : Nat, k + 1 ≤ Lib.nDigits u → k = 0 ∨ 10 ^ k ≤ u := by
        intro k
        induction k with
        | zero => intro u _; exact .inl rfl
        | succ k ih =>
          intro u hu
          right
          by_cases hs : u < 10
          · rw [Lib.nDigits_small hs] at hu; omega
          · rw [Lib.nDigits_big hs] at hu
            rw [Nat.pow_succ]
            rcases ih (u / 10) (by omega) with e | e
            · subst e; simp; omega
            · omega
      rcases hp 9 u (by omega) with e | e
      · cases e
      · have : (10 : Nat) ^ 9 = 1000000000 := by decide
        omega
    · exact q
theorem num_itoa9 {n : Int} (h0 : -999999999 ≤ n) (h1 : n ≤ 999999999) : numI (mkB (Lib.itoa n)) = (n, true) := by
  have hl := dd_len9 (u := n.natAbs) (by omega)
  obtain ⟨b, r, e1, e2, e3, e4⟩ := dd_head n.natAbs
  have hb45 : b ≠ 45 := fun e => by rw [e] at e2; exact absurd e2 (by decide)
  by_cases hs : n < 0
  · have hi : Lib.itoa n = 45 :: Lib.decDigits n.natAbs := by unfold Lib.itoa; rw [if_pos hs]
    have hn : negL (Lib.itoa n) = true := by rw [hi]; rfl
    have hd : digL (Lib.itoa n) = Lib.decDigits n.natAbs := by unfold digL; rw [hn, hi]; rfl
    have hb : ¬ badL (Lib.itoa n) := by
      unfold badL
      rw [hd]
      rintro (q | q | ⟨q, k⟩)
      · rw [e1] at q; cases q
      · omega
      · rw [e1] at q
        have := (e4 (by simpa using q)).1
        omega
    have hm : nmL (Lib.itoa n) = (n, true) := by
      unfold nmL
      rw [if_neg hb, hd, dec_digits, hn]
      show (-(n.natAbs : Int), true) = _
      rw [show -(n.natAbs : Int) = n by omega]
    rw [num_up (by rw [data_mkB, hm]), data_mkB, hm]
  · have hi : Lib.itoa n = Lib.decDigits n.natAbs := by unfold Lib.itoa; rw [if_neg hs, show n.toNat = n.natAbs by omega]
    have hn : negL (Lib.itoa n) = false := by unfold negL; rw [hi, e1]; simpa using hb45
    have hd : digL (Lib.itoa n) = Lib.decDigits n.natAbs := by unfold digL; rw [hn, hi]; rfl
    have hb : ¬ badL (Lib.itoa n) := by
      unfold badL
      rw [hd]
      rintro (q | q | ⟨q, k⟩)
      · rw [e1] at q; cases q
      · omega
      · rw [hi, e1] at k
        rw [e1] at q
        have := (e4 (by simpa using q)).2
        rw [this] at k; simp at k
    have hm : nmL (Lib.itoa n) = (n, true) := by
      unfold nmL
      rw [if_neg hb, hd, dec_digits, hn]
      show ((n.natAbs : Int), true) = _
      rw [show (n.natAbs : Int) = n by omega]
    rw [num_up (by rw [data_mkB, hm]), data_mkB, hm]
theorem fmtE_mk (x : Evt) : fmtE x = mkB (Lib.itoa x.minute ++ Lib.joinTail [32] [Lib.itoa x.step, Lib.itoa x.warmth]) := by
  unfold fmtE
  rw [show (⟨#[32]⟩ : ByteArray) = mkB [32] from rfl, mkB_app, mkB_app, mkB_app, mkB_app]
  congr 1
  simp [Lib.joinTail]
theorem pcs_fmtE (x : Evt) : pcs (fmtE x) = [mkB (Lib.itoa x.minute), mkB (Lib.itoa x.step), mkB (Lib.itoa x.warmth)] := by
  rw [pcs_cut, fmtE_mk, data_mkB, cut_join (itoa_not _) (fun y hy => by
    simp only [List.mem_cons, List.not_mem_nil, or_false] at hy
    rcases hy with rfl | rfl <;> exact itoa_not _)]
  rfl
theorem fmtE_size {x : Evt} (h : EvI x) : (fmtE x).size ≤ 100000 := by
  have l1 := itoa_len h.1
  have l2 := itoa_len h.2.1
  have l3 := itoa_len h.2.2
  unfold fmtE
  have hs1 : (⟨#[32]⟩ : ByteArray).size = 1 := rfl
  simp only [ByteArray.size_append, mkB_size, hs1]
  omega
def Sm9 (n : Int) : Prop := -999999999 ≤ n ∧ n ≤ 999999999
theorem read_backE {x : Evt} (h1 : Sm9 x.minute) (h2 : Sm9 x.step) (h3 : Sm9 x.warmth) : ev3 numI (fmtE x) = (x, 0) := by
  have n1 := num_itoa9 h1.1 h1.2
  have n2 := num_itoa9 h2.1 h2.2
  have n3 := num_itoa9 h3.1 h3.2
  have hP := pcs_fmtE x
  have p0 : pcN (fmtE x) 0 = mkB (Lib.itoa x.minute) := by unfold pcN; rw [hP]; rfl
  have p1 : pcN (fmtE x) 1 = mkB (Lib.itoa x.step) := by unfold pcN; rw [hP]; rfl
  have p2 : pcN (fmtE x) 2 = mkB (Lib.itoa x.warmth) := by unfold pcN; rw [hP]; rfl
  rw [ev3_good (by rw [hP]; rfl) (fun j hj => by
    match j, hj with
    | 0, _ => rw [p0, n1]
    | 1, _ => rw [p1, n2]
    | 2, _ => rw [p2, n3]), p0, p1, p2, n1, n2, n3]
theorem ev3_tie (s : ByteArray) : ev3 numI s = ev3 nmB s := by
  by_cases h : (pcs s).length ≠ 3
  · rw [ev3_len h, ev3_len h]
  · have h3 : (pcs s).length = 3 := by omega
    by_cases hb : ∀ j, j < 3 → (numI (pcN s j)).2 = true
    · have hg : ∀ j, j < 3 → (nmB (pcN s j)).2 = true := fun j hj => by
        have := (num_tie (pcN s j)).1
        rw [hb j hj] at this
        exact this.symm
      have hv : ∀ j, j < 3 → (numI (pcN s j)).1 = (nmB (pcN s j)).1 := fun j hj => (num_tie (pcN s j)).2 (hg j hj)
      rw [ev3_good h3 hb, ev3_good h3 hg, hv 0 (by decide), hv 1 (by decide), hv 2 (by decide)]
    · obtain ⟨j, hj⟩ := Classical.not_forall.1 hb
      obtain ⟨hj3, hjb⟩ := Classical.not_imp.1 hj
      have hf : (numI (pcN s j)).2 = false := by simpa using hjb
      have hf2 : (nmB (pcN s j)).2 = false := by
        have := (num_tie (pcN s j)).1
        rw [hf] at this
        exact this.symm
      rw [ev3_bad (k := j) (by omega) hf, ev3_bad (k := j) (by omega) hf2]
theorem wf64 {n : Int} (h : (Lit.int .i64 n).wf = true) : In64 n := by
  have h2 : (decide (IntKind.i64.min ≤ n) && decide (n ≤ IntKind.i64.max)) = true := h
  rw [Bool.and_eq_true, decide_eq_true_eq, decide_eq_true_eq] at h2
  have e1 : IntKind.i64.min = -9223372036854775808 := by decide
  have e2 : IntKind.i64.max = 9223372036854775807 := by decide
  unfold In64
  omega
set_option maxRecDepth 100000 in
theorem within_q (x lo hi : Int) : PC Tryz.prog 9 [.v (.int .i64 (x)), .v (.int .i64 (lo)), .v (.int .i64 (hi))] (.v (.bool (decide (lo ≤ x) && decide (x ≤ hi)))) := by
  refine pc_of_awp Tryz.func9 rfl Tryz.ntmps9 (rs := [.tmp 6]) Tryz.results9 (by simp) fun w0 => ?_
  refine awp_seq ?_
  refine awp_region 1 mixed (by kernel_rfl) ?_
  refine rg_q (q_assign (x := .d (.v _)) rfl) ?_
  refine rg_nil ?_
  refine aops_nil ?_
  change Awp _ _ _ _ _
  refine awp_seq ?_
  refine awp_region 9 mixed (by kernel_rfl) ?_
  refine rg_q (q_move (x := .d (.v _)) rfl) ?_
  refine rg_q (q_move (x := .d (.v _)) rfl) ?_
  refine rg_q (q_leq rfl rfl) ?_
  refine rg_q (q_move (x := .d (.v _)) rfl) ?_
  refine rg_g rfl rfl (fun hG => (q_move (x := .d (.v _)) rfl)) ?_
  refine rg_g rfl rfl (fun hG => (q_move (x := .d (.v _)) rfl)) ?_
  refine rg_g rfl rfl (fun hG => (q_leq rfl rfl)) ?_
  first | refine rg_pick rfl rfl rfl rfl rfl rfl ?_ | refine rg_q (q_pick rfl rfl rfl) ?_
  refine rg_q (q_assign (x := .d (.v _)) rfl) ?_
  refine rg_nil ?_
  refine aops_nil ?_
  change Awp _ _ _ _ _
  refine awp_ret ?_
  refine ⟨_, (.cons (.tmp (by first | exact .d _ | exact .rs rfl | exact .ref rfl | exact .tref rfl (.cons (.d _ rfl) (.cons (.rs rfl) .nil)))) .nil), ?_⟩
  simp only [bif_and]; rfl
set_option maxRecDepth 100000 in
theorem tuneTexts_p (x : Evt) (s : ByteArray) (h : EvI x) : PCG Tryz.prog GW 3 [.agg (evC x), .v (.string (s))] (.v (.bool (true))) := by
  refine pcg_of_awpN gw_keep Tryz.func3 rfl Tryz.ntmps3 (rs := [.tmp 4]) Tryz.results3 (by simp) fun w0 hmine hrnd hpn hG => ?_
  refine awp_seq ?_
  refine awp_region 2 mixed (by kernel_rfl) ?_
  refine rg_q (q_box rfl (by first | exact .inl rfl | exact .inr ⟨_, rfl⟩)) ?_
  refine rg_q (q_assign (x := .d (.v _)) rfl) ?_
  refine rg_nil ?_
  refine aops_nil ?_
  change Awp _ _ _ _ _
  refine awp_seq ?_
  refine awp_seq ?_
  refine awp_region 2 mixed (by kernel_rfl) ?_
  first | refine rg_q (q_call en4 .nil rfl (awake_p)) ?_ | refine rg_q (q_callF en4 .nil rfl (awake_p) (by first | exact .v _ | exact D.Flat.tupF (by repeat first | exact trivial | refine ⟨.v _, ?_⟩) | exact D.Flat.aggF (by repeat first | exact trivial | refine ⟨.v _, ?_⟩))) ?_
  refine rg_q (q_not rfl) ?_
  refine rg_nil ?_
  refine aops_nil ?_
  change Awp _ _ _ _ _
  refine awp_cond rfl (fun hc1 => ?_) (fun hc1 => ?_)
  ·
    simp at hc1
  ·
    (try simp only [decide_eq_true_eq, decide_eq_false_iff_not, Bool.and_eq_true, Bool.or_eq_true, Bool.and_eq_false_iff, Bool.or_eq_false_iff, Bool.not_eq_true', Bool.not_eq_false', Bool.not_true, Bool.not_false, bif_and, bif_or, Bool.not_not, ne_eq, Decidable.not_not, not_true_eq_false, not_false_eq_true, Int.not_le, Int.not_lt] at hc1)
    refine awp_skip ?_
    change Awp _ _ _ _ _
    refine awp_seq ?_
    refine awp_seq ?_
    refine awp_region 3 mixed (by kernel_rfl) ?_
    refine rg_q (q_move (x := .d (.v _)) rfl) ?_
    refine rg_q (q_len_str str9 rfl) ?_
    refine rg_q (q_gtr rfl rfl) ?_
    refine rg_nil ?_
    refine aops_nil ?_
    change Awp _ _ _ _ _
    refine awp_cond rfl (fun hc3 => ?_) (fun hc3 => ?_)
    ·
      (try simp only [decide_eq_true_eq, decide_eq_false_iff_not, Bool.and_eq_true, Bool.or_eq_true, Bool.and_eq_false_iff, Bool.or_eq_false_iff, Bool.not_eq_true', Bool.not_eq_false', Bool.not_true, Bool.not_false, bif_and, bif_or, Bool.not_not, ne_eq, Decidable.not_not, not_true_eq_false, not_false_eq_true, Int.not_le, Int.not_lt] at hc3)
      refine awp_seq ?_
      refine awp_region 1 mixed (by kernel_rfl) ?_
      refine rg_q (q_assign (x := .d (.v _)) rfl) ?_
      refine rg_nil ?_
      refine aops_nil ?_
      change Awp _ _ _ _ _
      refine awp_ret ?_
      refine ⟨_, (.cons (.tmp (by first | exact .d _ | exact .rs rfl | exact .ref rfl | exact .tref rfl (.cons (.d _ rfl) (.cons (.rs rfl) .nil)))) .nil), ?_⟩
      rfl
    ·
      (try simp only [decide_eq_true_eq, decide_eq_false_iff_not, Bool.and_eq_true, Bool.or_eq_true, Bool.and_eq_false_iff, Bool.or_eq_false_iff, Bool.not_eq_true', Bool.not_eq_false', Bool.not_true, Bool.not_false, bif_and, bif_or, Bool.not_not, ne_eq, Decidable.not_not, not_true_eq_false, not_false_eq_true, Int.not_le, Int.not_lt] at hc3)
      have hs : s.size ≤ 60 := by first | omega | (simp_all; omega)
      refine awp_skip ?_
      change Awp _ _ _ _ _
      refine awp_seq ?_
      refine awp_region 3 mixed (by kernel_rfl) ?_
      first | refine rg_q (q_loadA (ds := [_, _, _]) sz23 rfl rfl rfl) ?_ | refine rg_q (q_load_refA (ds := [_, _, _]) sz23 rfl rfl rfl rfl) ?_
      first | refine rg_q (q_callG en5 (.cons rfl .nil) rfl hG (formatEvent_p x h)) ?_ | refine rg_q (q_callFG en5 (.cons (by first | exact .d _ | exact .rs rfl | exact .ref rfl | exact .nil _ | exact .tref rfl (by repeat (first | exact .nil | refine .cons (.d _ rfl) ?_ | refine .cons (.rs rfl) ?_))) .nil) rfl hG (formatEvent_p x h) (by first | exact .v _ | exact D.Flat.tupF (by repeat first | exact trivial | refine ⟨.v _, ?_⟩) | exact D.Flat.aggF (by repeat first | exact trivial | refine ⟨.v _, ?_⟩))) ?_
      refine rg_q (q_assign (x := .d (.v _)) rfl) ?_
      refine rg_nil ?_
      refine aops_nil ?_
      change Awp _ _ _ _ _
      refine awp_seq ?_
      refine awp_region 5 mixed (by kernel_rfl) ?_
      refine rg_q (q_move (x := .d (.v _)) rfl) ?_
      first | refine rg_q (q_callG en6 (.cons rfl .nil) rfl hG (parseEvent_p s (by omega))) ?_ | refine rg_q (q_callFG en6 (.cons (by first | exact .d _ | exact .rs rfl | exact .ref rfl | exact .nil _ | exact .tref rfl (by repeat (first | exact .nil | refine .cons (.d _ rfl) ?_ | refine .cons (.rs rfl) ?_))) .nil) rfl hG (parseEvent_p s (by omega)) (by first | exact .v _ | exact D.Flat.tupF (by repeat first | exact trivial | refine ⟨.v _, ?_⟩) | exact D.Flat.aggF (by repeat first | exact trivial | refine ⟨.v _, ?_⟩))) ?_
      refine rg_q (q_move (x := .d (.tup _)) rfl) ?_
      refine rg_q (q_extract rfl rfl) ?_
      refine rg_q (q_extract rfl rfl) ?_
      refine rg_nil ?_
      refine aops_alloc zr23 rfl rfl rfl ?_
      first | refine aops_store sz23 rfl rfl (by first | exact .inl rfl | exact .inr ⟨_, rfl⟩) rfl rfl (by first | decide | simp; done | exact Nat.le_of_ble_eq_true rfl) rfl ?_ | refine aops_storeT (z := .rs _) sz23 rfl rfl rfl rfl (by first | decide | simp) rfl ?_ | refine aops_storeT (z := .d _) sz23 rfl rfl rfl rfl (by first | decide | simp) rfl ?_ | refine aops_storeTA sz23 rfl rfl (by first | exact .inl rfl | exact .inr ⟨_, rfl⟩) rfl rfl (by first | decide | simp) rfl ?_
      refine aops_q rfl (q_assign (x := .d (.v _)) rfl) ?_
      refine aops_nil ?_
      change Awp _ _ _ _ _
      refine awp_seq ?_
      refine awp_region 5 mixed (by kernel_rfl) ?_
      refine rg_q (q_move (x := .d (.v _)) rfl) ?_
      first | refine rg_q (q_call en7 (.cons rfl .nil) rfl ((by have q := rparseEvent_p s (by omega); rw [← ev3_tie] at q; exact q))) ?_ | refine rg_q (q_callF en7 (.cons (by first | exact .d _ | exact .rs rfl | exact .ref rfl | exact .nil _ | exact .tref rfl (by repeat (first | exact .nil | refine .cons (.d _ rfl) ?_ | refine .cons (.rs rfl) ?_))) .nil) rfl ((by have q := rparseEvent_p s (by omega); rw [← ev3_tie] at q; exact q)) (by first | exact .v _ | exact D.Flat.tupF (by repeat first | exact trivial | refine ⟨.v _, ?_⟩) | exact D.Flat.aggF (by repeat first | exact trivial | refine ⟨.v _, ?_⟩))) ?_
      refine rg_q (q_move (x := .d (.tup _)) rfl) ?_
      refine rg_q (q_extract rfl rfl) ?_
      refine rg_q (q_extract rfl rfl) ?_
      refine rg_nil ?_
      refine aops_alloc zr23 rfl rfl rfl ?_
      first | refine aops_store sz23 rfl rfl (by first | exact .inl rfl | exact .inr ⟨_, rfl⟩) rfl rfl (by first | decide | simp; done | exact Nat.le_of_ble_eq_true rfl) rfl ?_ | refine aops_storeT (z := .rs _) sz23 rfl rfl rfl rfl (by first | decide | simp) rfl ?_ | refine aops_storeT (z := .d _) sz23 rfl rfl rfl rfl (by first | decide | simp) rfl ?_ | refine aops_storeTA sz23 rfl rfl (by first | exact .inl rfl | exact .inr ⟨_, rfl⟩) rfl rfl (by first | decide | simp) rfl ?_
      refine aops_q rfl (q_assign (x := .d (.v _)) rfl) ?_
      refine aops_nil ?_
      change Awp _ _ _ _ _
      refine awp_seq ?_
      refine awp_seq ?_
      refine awp_region 14 mixed (by kernel_rfl) ?_
      refine rg_q (q_move (x := .d (.v _)) rfl) ?_
      first | refine rg_q (q_loadA (ds := [_, _, _]) sz23 rfl rfl rfl) ?_ | refine rg_q (q_load_refA (ds := [_, _, _]) sz23 rfl rfl rfl rfl) ?_
      first | refine rg_q (q_call en8 (.cons rfl .nil) rfl (rformatEvent_p x h)) ?_ | refine rg_q (q_callF en8 (.cons (by first | exact .d _ | exact .rs rfl | exact .ref rfl | exact .nil _ | exact .tref rfl (by repeat (first | exact .nil | refine .cons (.d _ rfl) ?_ | refine .cons (.rs rfl) ?_))) .nil) rfl (rformatEvent_p x h) (by first | exact .v _ | exact D.Flat.tupF (by repeat first | exact trivial | refine ⟨.v _, ?_⟩) | exact D.Flat.aggF (by repeat first | exact trivial | refine ⟨.v _, ?_⟩))) ?_
      refine rg_q (q_neqs rfl rfl) ?_
      refine rg_q (q_move (x := .d (.v _)) rfl) ?_
      refine rg_g rfl rfl (fun hG => (q_move (x := .d (.v _)) rfl)) ?_
      refine rg_g rfl rfl (fun hG => (q_move (x := .d (.v _)) rfl)) ?_
      refine rg_g rfl rfl (fun hG => (q_neq rfl rfl)) ?_
      first | refine rg_pick rfl rfl rfl rfl rfl rfl ?_ | refine rg_q (q_pick rfl rfl rfl) ?_
      refine rg_q (q_move (x := .d (.v _)) rfl) ?_
      first | refine rg_g rfl rfl (fun hG => (q_loadA (ds := [_, _, _]) sz23 rfl rfl rfl)) ?_ | refine rg_g rfl rfl (fun hG => (q_load_refA (ds := [_, _, _]) sz23 rfl rfl rfl rfl)) ?_
      first | refine rg_g rfl rfl (fun hG => (q_loadA (ds := [_, _, _]) sz23 rfl rfl rfl)) ?_ | refine rg_g rfl rfl (fun hG => (q_load_refA (ds := [_, _, _]) sz23 rfl rfl rfl rfl)) ?_
      refine rg_g rfl rfl (fun hG => (q_neqI (xs := [_, _, _]) (ys := [_, _, _]) eqi23 rfl rfl rfl rfl)) ?_
      first | refine rg_pick rfl rfl rfl rfl rfl rfl ?_ | refine rg_q (q_pick rfl rfl rfl) ?_
      refine rg_nil ?_
      refine aops_nil ?_
      change Awp _ _ _ _ _
      refine awp_cond rfl (fun hc8 => ?_) (fun hc8 => ?_)
      ·
        simp at hc8
      ·
        (try simp only [decide_eq_true_eq, decide_eq_false_iff_not, Bool.and_eq_true, Bool.or_eq_true, Bool.and_eq_false_iff, Bool.or_eq_false_iff, Bool.not_eq_true', Bool.not_eq_false', Bool.not_true, Bool.not_false, bif_and, bif_or, Bool.not_not, ne_eq, Decidable.not_not, not_true_eq_false, not_false_eq_true, Int.not_le, Int.not_lt] at hc8)
        refine awp_skip ?_
        change Awp _ _ _ _ _
        refine awp_seq ?_
        refine awp_region 5 mixed (by kernel_rfl) ?_
        refine rg_q (q_move (x := .d (.v _)) rfl) ?_
        first | refine rg_q (q_callG en6 (.cons rfl .nil) rfl hG (parseEvent_p (fmtE x) (fmtE_size h))) ?_ | refine rg_q (q_callFG en6 (.cons (by first | exact .d _ | exact .rs rfl | exact .ref rfl | exact .nil _ | exact .tref rfl (by repeat (first | exact .nil | refine .cons (.d _ rfl) ?_ | refine .cons (.rs rfl) ?_))) .nil) rfl hG (parseEvent_p (fmtE x) (fmtE_size h)) (by first | exact .v _ | exact D.Flat.tupF (by repeat first | exact trivial | refine ⟨.v _, ?_⟩) | exact D.Flat.aggF (by repeat first | exact trivial | refine ⟨.v _, ?_⟩))) ?_
        refine rg_q (q_move (x := .d (.tup _)) rfl) ?_
        refine rg_q (q_extract rfl rfl) ?_
        refine rg_q (q_extract rfl rfl) ?_
        refine rg_nil ?_
        refine aops_alloc zr23 rfl rfl rfl ?_
        first | refine aops_store sz23 rfl rfl (by first | exact .inl rfl | exact .inr ⟨_, rfl⟩) rfl rfl (by first | decide | simp; done | exact Nat.le_of_ble_eq_true rfl) rfl ?_ | refine aops_storeT (z := .rs _) sz23 rfl rfl rfl rfl (by first | decide | simp) rfl ?_ | refine aops_storeT (z := .d _) sz23 rfl rfl rfl rfl (by first | decide | simp) rfl ?_ | refine aops_storeTA sz23 rfl rfl (by first | exact .inl rfl | exact .inr ⟨_, rfl⟩) rfl rfl (by first | decide | simp) rfl ?_
        refine aops_q rfl (q_assign (x := .d (.v _)) rfl) ?_
        refine aops_nil ?_
        change Awp _ _ _ _ _
        refine awp_seq ?_
        refine awp_seq ?_
        refine awp_region 16 mixed (by kernel_rfl) ?_
        first | refine rg_q (q_fieldAddr fld23_0 rfl) ?_ | refine rg_q (q_fieldAddr_ref fld23_0 rfl) ?_
        first | refine rg_q (q_load sz3 rfl rfl) ?_ | refine rg_q (q_load_ref sz3 rfl rfl rfl) ?_ | refine rg_q (q_load_tb (x := .d _) sz3 rfl rfl rfl) ?_ | refine rg_q (q_load_tb (x := .rs _) sz3 rfl rfl rfl) ?_
        first | refine rg_q (q_call en9 (.cons rfl (.cons rfl (.cons rfl .nil))) rfl (within_q _ _ _)) ?_ | refine rg_q (q_callF en9 (.cons (by first | exact .d _ | exact .rs rfl | exact .ref rfl | exact .nil _ | exact .tref rfl (by repeat (first | exact .nil | refine .cons (.d _ rfl) ?_ | refine .cons (.rs rfl) ?_))) (.cons (by first | exact .d _ | exact .rs rfl | exact .ref rfl | exact .nil _ | exact .tref rfl (by repeat (first | exact .nil | refine .cons (.d _ rfl) ?_ | refine .cons (.rs rfl) ?_))) (.cons (by first | exact .d _ | exact .rs rfl | exact .ref rfl | exact .nil _ | exact .tref rfl (by repeat (first | exact .nil | refine .cons (.d _ rfl) ?_ | refine .cons (.rs rfl) ?_))) .nil))) rfl (within_q _ _ _) (by first | exact .v _ | exact D.Flat.tupF (by repeat first | exact trivial | refine ⟨.v _, ?_⟩) | exact D.Flat.aggF (by repeat first | exact trivial | refine ⟨.v _, ?_⟩))) ?_
        refine rg_q (q_not rfl) ?_
        refine rg_q (q_move (x := .d (.v _)) rfl) ?_
        first | refine rg_g rfl rfl (fun hG => (q_fieldAddr fld23_1 rfl)) ?_ | refine rg_g rfl rfl (fun hG => (q_fieldAddr_ref fld23_1 rfl)) ?_
        first | refine rg_g rfl rfl (fun hG => (q_load sz3 rfl rfl)) ?_ | refine rg_g rfl rfl (fun hG => (q_load_ref sz3 rfl rfl rfl)) ?_ | refine rg_g rfl rfl (fun hG => (q_load_tb (x := .d _) sz3 rfl rfl rfl)) ?_ | refine rg_g rfl rfl (fun hG => (q_load_tb (x := .rs _) sz3 rfl rfl rfl)) ?_
        first | refine rg_g rfl rfl (fun hG => (q_call en9 (.cons rfl (.cons rfl (.cons rfl .nil))) rfl (within_q _ _ _))) ?_ | refine rg_g rfl rfl (fun hG => (q_callF en9 (.cons (by first | exact .d _ | exact .rs rfl | exact .ref rfl | exact .nil _ | exact .tref rfl (by repeat (first | exact .nil | refine .cons (.d _ rfl) ?_ | refine .cons (.rs rfl) ?_))) (.cons (by first | exact .d _ | exact .rs rfl | exact .ref rfl | exact .nil _ | exact .tref rfl (by repeat (first | exact .nil | refine .cons (.d _ rfl) ?_ | refine .cons (.rs rfl) ?_))) (.cons (by first | exact .d _ | exact .rs rfl | exact .ref rfl | exact .nil _ | exact .tref rfl (by repeat (first | exact .nil | refine .cons (.d _ rfl) ?_ | refine .cons (.rs rfl) ?_))) .nil))) rfl (within_q _ _ _) (by first | exact .v _ | exact D.Flat.tupF (by repeat first | exact trivial | refine ⟨.v _, ?_⟩) | exact D.Flat.aggF (by repeat first | exact trivial | refine ⟨.v _, ?_⟩)))) ?_
        refine rg_g rfl rfl (fun hG => (q_not rfl)) ?_
        first | refine rg_pick rfl rfl rfl rfl rfl rfl ?_ | refine rg_q (q_pick rfl rfl rfl) ?_
        refine rg_q (q_move (x := .d (.v _)) rfl) ?_
        first | refine rg_g rfl rfl (fun hG => (q_fieldAddr fld23_2 rfl)) ?_ | refine rg_g rfl rfl (fun hG => (q_fieldAddr_ref fld23_2 rfl)) ?_
        first | refine rg_g rfl rfl (fun hG => (q_load sz3 rfl rfl)) ?_ | refine rg_g rfl rfl (fun hG => (q_load_ref sz3 rfl rfl rfl)) ?_ | refine rg_g rfl rfl (fun hG => (q_load_tb (x := .d _) sz3 rfl rfl rfl)) ?_ | refine rg_g rfl rfl (fun hG => (q_load_tb (x := .rs _) sz3 rfl rfl rfl)) ?_
        first | refine rg_g rfl rfl (fun hG => (q_call en9 (.cons rfl (.cons rfl (.cons rfl .nil))) rfl (within_q _ _ _))) ?_ | refine rg_g rfl rfl (fun hG => (q_callF en9 (.cons (by first | exact .d _ | exact .rs rfl | exact .ref rfl | exact .nil _ | exact .tref rfl (by repeat (first | exact .nil | refine .cons (.d _ rfl) ?_ | refine .cons (.rs rfl) ?_))) (.cons (by first | exact .d _ | exact .rs rfl | exact .ref rfl | exact .nil _ | exact .tref rfl (by repeat (first | exact .nil | refine .cons (.d _ rfl) ?_ | refine .cons (.rs rfl) ?_))) (.cons (by first | exact .d _ | exact .rs rfl | exact .ref rfl | exact .nil _ | exact .tref rfl (by repeat (first | exact .nil | refine .cons (.d _ rfl) ?_ | refine .cons (.rs rfl) ?_))) .nil))) rfl (within_q _ _ _) (by first | exact .v _ | exact D.Flat.tupF (by repeat first | exact trivial | refine ⟨.v _, ?_⟩) | exact D.Flat.aggF (by repeat first | exact trivial | refine ⟨.v _, ?_⟩)))) ?_
        refine rg_g rfl rfl (fun hG => (q_not rfl)) ?_
        first | refine rg_pick rfl rfl rfl rfl rfl rfl ?_ | refine rg_q (q_pick rfl rfl rfl) ?_
        refine rg_nil ?_
        refine aops_nil ?_
        change Awp _ _ _ _ _
        refine awp_cond rfl (fun hc11 => ?_) (fun hc11 => ?_)
        ·
          (try simp only [decide_eq_true_eq, decide_eq_false_iff_not, Bool.and_eq_true, Bool.or_eq_true, Bool.and_eq_false_iff, Bool.or_eq_false_iff, Bool.not_eq_true', Bool.not_eq_false', Bool.not_true, Bool.not_false, bif_and, bif_or, Bool.not_not, ne_eq, Decidable.not_not, not_true_eq_false, not_false_eq_true, Int.not_le, Int.not_lt] at hc11)
          refine awp_seq ?_
          refine awp_region 1 mixed (by kernel_rfl) ?_
          refine rg_q (q_assign (x := .d (.v _)) rfl) ?_
          refine rg_nil ?_
          refine aops_nil ?_
          change Awp _ _ _ _ _
          refine awp_ret ?_
          refine ⟨_, (.cons (.tmp (by first | exact .d _ | exact .rs rfl | exact .ref rfl | exact .tref rfl (.cons (.d _ rfl) (.cons (.rs rfl) .nil)))) .nil), ?_⟩
          rfl
        ·
          (try simp only [decide_eq_true_eq, decide_eq_false_iff_not, Bool.and_eq_true, Bool.or_eq_true, Bool.and_eq_false_iff, Bool.or_eq_false_iff, Bool.not_eq_true', Bool.not_eq_false', Bool.not_true, Bool.not_false, bif_and, bif_or, Bool.not_not, ne_eq, Decidable.not_not, not_true_eq_false, not_false_eq_true, Int.not_le, Int.not_lt] at hc11)
          have hs9 : Sm9 x.minute ∧ Sm9 x.step ∧ Sm9 x.warmth := by unfold Sm9; omega
          refine awp_skip ?_
          change Awp _ _ _ _ _
          refine awp_seq ?_
          refine awp_region 8 mixed (by kernel_rfl) ?_
          refine rg_q (q_move (x := .d (.v _)) rfl) ?_
          refine rg_q (q_eql rfl rfl) ?_
          refine rg_q (q_move (x := .d (.v _)) rfl) ?_
          first | refine rg_g rfl rfl (fun hG => (q_loadA (ds := [_, _, _]) sz23 rfl rfl rfl)) ?_ | refine rg_g rfl rfl (fun hG => (q_load_refA (ds := [_, _, _]) sz23 rfl rfl rfl rfl)) ?_
          first | refine rg_g rfl rfl (fun hG => (q_loadA (ds := [_, _, _]) sz23 rfl rfl rfl)) ?_ | refine rg_g rfl rfl (fun hG => (q_load_refA (ds := [_, _, _]) sz23 rfl rfl rfl rfl)) ?_
          refine rg_g rfl rfl (fun hG => (q_eqlI (xs := [_, _, _]) (ys := [_, _, _]) eqi23 rfl rfl rfl rfl)) ?_
          first | refine rg_pick rfl rfl rfl rfl rfl rfl ?_ | refine rg_q (q_pick rfl rfl rfl) ?_
          refine rg_q (q_assign (x := .d (.v _)) rfl) ?_
          refine rg_nil ?_
          refine aops_nil ?_
          change Awp _ _ _ _ _
          refine awp_ret ?_
          refine ⟨_, (.cons (.tmp (by first | exact .d _ | exact .rs rfl | exact .ref rfl | exact .tref rfl (.cons (.d _ rfl) (.cons (.rs rfl) .nil)))) .nil), ?_⟩
          rw [read_backE hs9.1 hs9.2.1 hs9.2.2]; simp [evC]; try rfl
end Go.Proofs.YtepaabbfindaeaaGreatDoor.Am.M
