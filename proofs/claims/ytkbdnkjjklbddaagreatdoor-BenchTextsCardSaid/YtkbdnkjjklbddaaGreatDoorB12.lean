/- Contracts over the abstract machine: a specimen is read from a text: the code. Conditions: none. -/
import Derived.Test.YtkbdnkjjklbddaaGreatDoorB11
set_option linter.unusedVariables false
set_option linter.unusedSimpArgs false
-- mini
set_option maxRecDepth 100000
namespace Go.Proofs.YtkbdnkjjklbddaaGreatDoor.Am.M
open Go

theorem hB_ok {t : List UInt8} {k : Nat} (h : hB t k = true) : okK t k = true := by unfold hB at h; rw [Bool.and_eq_true] at h; exact h.1
theorem eB_ok {t : List UInt8} {k : Nat} (h : eB t k = true) : okK t k = true := by unfold eB at h; rw [Bool.and_eq_true] at h; exact h.1
theorem uB_ok {t : List UInt8} {k : Nat} (h : uB t k = true) : okK t k = true := by unfold uB at h; rw [Bool.and_eq_true] at h; exact h.1
theorem fB_ok {t : List UInt8} {k : Nat} (h : fB t k = true) : okK t k = true := by unfold fB at h; rw [Bool.and_eq_true] at h; exact h.1
theorem kn_t {b : Bool} {k : Nat} (h : b = true) : kn b k = k + 1 := by unfold kn; rw [if_pos h]
theorem kn_f {b : Bool} {k : Nat} (h : b = false) : kn b k = k := by unfold kn; rw [if_neg (by rw [h]; decide)]
theorem ok_nil {t : List UInt8} {k : Nat} (h : rsN t k = []) : fB t k = false := by unfold fB okK; rw [h]; rfl
theorem lnLen {t : List UInt8} (ht : t.length ≤ 60000) {k : Nat} (h : ∀ i, i < k → okK t i = true) : (rsN t k).length ≤ 100000 ∧ k ≤ 100000 := by have := ok_len k h; omega
theorem hix_of (bs k : Nat) (hk : k < 3) : (([.v (.string (hwd 0)), .sl 1 ((hos 0).map fun o => [.v (ptr bs o)]), .v (.string (hwd 1)), .sl 1 ((hos 1).map fun o => [.v (ptr bs o)]), .v (.string (hwd 2)), .sl 1 ((hos 2).map fun o => [.v (ptr bs o)])] : List D).drop ((k : Int).toNat * 2)).take 2 = [.v (.string (hwd k)), .sl 1 ((hos k).map fun o => [.v (ptr bs o)])] := by
  rw [Int.toNat_natCast]
  match k, hk with
  | 0, _ => rfl
  | 1, _ => rfl
  | 2, _ => rfl
set_option maxHeartbeats 4000000 in
theorem specimenOf_p (t : List UInt8) (m j : Nat) (ht : t.length ≤ 60000) (hm1 : ∀ i, i < m → eB t (3 + i) = true) (hm2 : eB t (3 + m) = false) (hj1 : ∀ i, i < j → fB t (4 + m + i) = true) (hj2 : fB t (4 + m + j) = false) : PCSG Tryz.prog NGB GB 42 [.ref 0 0] [.box [.v (.string (mkB (rsN t (0)))), .v (.int .i64 ((0 : Nat) : Int))]] (.d (.tup [.agg (spR t m j).1, .v (.bool (spR t m j).2.1)])) [.box [.v (.string (mkB (rsN t ((spR t m j).2.2)))), .v (.int .i64 (((spR t m j).2.2 : Nat) : Int))]] := by
  refine pcsg_of_awpX gb_low Tryz.func42 rfl Tryz.ntmps42 (rs := [.cell 2 32, .tmp 3]) Tryz.results42 (by simp) rfl fun w0 hrnd hGB hNG hmp => ?_
  have hG : ∀ w, ExtM w0 w → GW w := fun w h => (hGB w h).1
  refine awp_seq ?_
  refine xa 0 ?_
  refine rg_nil ?_
  refine aops_alloc zr32 rfl rfl rfl ?_
  refine aops_q rfl (q_a rfl) ?_
  refine aops_nil (xq (xa 0 ?_))
  refine rg_nil ?_
  refine aops_alloc zr32 rfl rfl rfl ?_
  refine aops_nil (xq (awp_gat 1000 4 rfl fun bs => ?_))
  refine Awp.le (le_unref 1000 4 rfl rfl) ?_
  refine xa 17 ?_
  refine rg_q (q_fieldAddr_raw fld32_0 rfl) ?_
  refine rg_q (q_fieldAddr_raw fld28_3 rfl) ?_
  refine rg_q (q_fieldAddr_raw fld26_0 rfl) ?_
  refine rg_q (q_fieldAddr_raw fld32_0 rfl) ?_
  refine rg_q (q_fieldAddr_raw fld28_3 rfl) ?_
  refine rg_q (q_fieldAddr_raw fld26_1 rfl) ?_
  refine rg_q (q_buildSlice sl77 zr87 rfl rfl (by decide) (.cons rfl (by exact .inl rfl) (.cons rfl (by exact .inl rfl) .nil)) ⟨rfl, rfl, rfl, rfl, trivial⟩ rfl (by decide) rfl) ?_
  refine rg_q (q_build (cs := [_, _]) pl149 zr149 rfl (.cons rfl (by exact .inl rfl) (.cons rfl (by exact .inl rfl) .nil)) ⟨⟨rfl, by decide⟩, ⟨rfl, by decide⟩, trivial⟩ rfl) ?_
  refine rg_q (q_fieldAddr_raw fld32_0 rfl) ?_
  refine rg_q (q_fieldAddr_raw fld28_1 rfl) ?_
  refine rg_q (q_call en36 (.cons rfl .nil) rfl (modeR_p bs 1)) ?_
  refine rg_q (q_build (cs := [_, _]) pl149 zr149 rfl (.cons rfl (by exact .inl rfl) (.cons rfl (by exact .inl rfl) .nil)) ⟨⟨rfl, by decide⟩, ⟨rfl, by decide⟩, trivial⟩ rfl) ?_
  refine rg_q (q_fieldAddr_raw fld32_0 rfl) ?_
  refine rg_q (q_fieldAddr_raw fld28_2 rfl) ?_
  refine rg_q (q_call en36 (.cons rfl .nil) rfl (modeR_p bs 5)) ?_
  refine rg_q (q_build (cs := [_, _]) pl149 zr149 rfl (.cons rfl (by exact .inl rfl) (.cons rfl (by exact .inl rfl) .nil)) ⟨⟨rfl, by decide⟩, ⟨rfl, by decide⟩, trivial⟩ rfl) ?_
  refine rg_q (q_buildA (cs := [_, _, _, _, _, _]) ar150 zr150 rfl (.cons rfl (by exact .inr ⟨_, rfl⟩) (.cons rfl (by exact .inr ⟨_, rfl⟩) (.cons rfl (by exact .inr ⟨_, rfl⟩) .nil))) ⟨⟨rfl, by decide⟩, ⟨rfl, by decide⟩, ⟨rfl, by decide⟩, trivial⟩ rfl) ?_
  refine rg_nil ?_
  refine aops_alloc zr150 rfl rfl rfl ?_
  refine aops_store sz150 rfl rfl (by exact .inr ⟨_, rfl⟩) rfl rfl (by decide) rfl ?_
  refine aops_nil (xq (awp_seq ?_))
  refine xa 2 ?_
  refine rg_q (q_load_refA (ds := [_, _, _, _, _, _]) sz150 rfl rfl rfl rfl) ?_
  refine rg_q (q_m rfl) ?_
  refine xc (awp_block ?_)
  refine awp_loopH [3, 7, 29, 30, 31, 32, 33, 34, 35, 36, 37] [4, 67] (α := Nat) (fun k => [(29, T.i (k : Int))]) (fun k => [(4, .box (hC t k)), (67, .box [.v (.string (mkB (rsN t (k)))), .v (.int .i64 ((k : Nat) : Int))])]) (fun k => k ≤ 3 ∧ ∀ i, i < k → hB t i = true) (fun k => 3 - k) 0 ⟨Nat.zero_le _, fun i hi => by omega⟩ ?_ ?_
  · exact xh (ms := [4, 67]) (by repeat (exact Out.refl _)) ⟨(by rfl), trivial⟩ ⟨(by rfl), (by rfl), trivial⟩
  ·
    intro k ⟨hk, hall⟩
    refine awp_seq ?_
    refine xa 1 ?_
    refine rg_q (q_lss rfl rfl) ?_
    refine rs (awp_cond rfl (fun hc4 => ?_) (fun hc4 => ?_))
    ·
      (try simp only [nb, ne_eq] at hc4)
      have hlt : k < 3 := by omega
      have hl1 := lnLen ht (k := k) fun i hi => hB_ok (hall i hi)
      refine awp_skip ?_
      change Awp _ _ _ _ _
      refine awp_seq ?_
      refine awp_block ?_
      refine awp_seq ?_
      refine xa 1 ?_
      refine rg_q (q_index_arA (es := [.v (.string (hwd k)), .sl 1 ((hos k).map fun o => [.v (ptr bs o)])]) ar150 sz149 rfl rfl (by omega) (by omega) (hix_of bs k hlt)) ?_
      refine rg_nil ?_
      refine aops_allocD zr149 rfl sz149 rfl rfl (by exact .inr ⟨_, rfl⟩) rfl rfl ?_
      refine aops_nil (xq (xa 2 ?_))
      refine rg_q (q_move (x := .ref _ _) rfl) ?_
      refine rg_q (q_makeFunc (.cons rfl .nil)) ?_
      refine rg_nil ?_
      refine aops_callLX hGB hNG 1000 [4, 67] [] en74 rfl rfl (headTake bs t k hlt hl1.1) (.cons rfl (.cons rfl .nil)) rfl rfl rfl (by repeat (first | exact trivial | refine ⟨rfl, ?_⟩)) (by repeat (exact trivial)) rfl ?_
      refine aops_q rfl (q_not rfl) ?_
      refine aops_nil ?_
      change Awp _ _ _ _ _
      refine awp_cond rfl (fun hc6 => ?_) (fun hc6 => ?_)
      ·
        (try simp only [nb, ne_eq] at hc6)
        have ek := kn_f (k := k) hc6
        have hz := spR_h (m := m) (j := j) hlt hall hc6
        obtain ⟨c0, c1, c2, c3, c4, c5, c6, c7, c8, c9, c10, c11, c12, e13⟩ := list13 (hC_len t k)
        rw [ek, hz, e13]
        refine awp_seq ?_
        refine xa 0 ?_
        refine rg_nil ?_
        refine aops_le (le_reref 1000 4 rfl rfl) ?_
        refine aops_q rfl (q_load_refA sz32 rfl rfl rfl rfl) ?_
        refine aops_store sz32 rfl rfl (by exact .inr ⟨_, rfl⟩) rfl rfl (by decide) rfl ?_
        refine aops_q rfl (q_a rfl) ?_
        refine aops_nil ?_
        change Awp _ _ _ _ _
        refine awp_ret ?_
        exact endx_mk (.inl rfl) _ [67] (.cons (.cellA rfl rfl sz32 rfl) (.cons (.tmp rfl) .nil)) rfl (by repeat (first | exact trivial | refine ⟨rfl, ?_⟩)) rfl
      ·
        (try simp only [nb, ne_eq] at hc6)
        have ek := kn_t (k := k) hc6
        rw [ek]
        have hall2 : ∀ i, i < k + 1 → hB t i = true := fun i hi => by
          by_cases e : i = k
          · subst e; exact hc6
          · exact hall i (by omega)
        refine awp_skip ?_
        change Awp _ _ _ _ _
        refine xa 2 ?_
        refine rg_q (q_add rfl rfl xi) ?_
        refine rg_q (q_m rfl) ?_
        refine rn ?_
        refine ⟨k + 1, ⟨by omega, hall2⟩, by omega, ?_⟩
        exact xh (ms := [4, 67]) (by repeat (first | exact Out.head rfl rfl | (refine Out.put ?_ rfl) | (refine Out.called ?_ rfl rfl))) ⟨(by rfl), trivial⟩ ⟨(by rfl), (by rfl), trivial⟩
    ·
      (try simp only [nb, ne_eq] at hc4)
      have hk3 : k = 3 := by omega
      subst hk3
      have hb0 := hall 0 (by decide)
      have hb1 := hall 1 (by decide)
      have hb2 := hall 2 (by decide)
      rw [hC3 hb0 hb1 hb2]
      refine awp_exit ?_
      change Awp _ _ _ _ _
      refine awp_seq ?_
      refine xa 0 ?_
      refine rg_nil ?_
      refine aops_alloc zr37 rfl rfl rfl ?_
      refine aops_nil ?_
      change Awp _ _ _ _ _
      refine awp_gat 1001 8 rfl fun bp => ?_
      refine Awp.le (le_unref 1001 8 rfl rfl) ?_
      refine Awp.le (le_ownB 4 43 0 37 2 rfl rfl rfl) ?_
      refine awp_seq ?_
      refine awp_block ?_
      refine awp_loopH [38, 39, 40, 41, 42, 43, 44, 45, 46, 47, 48] [4, 43, 8, 67] (α := Nat) (fun i => []) (fun i => [(4, .tbox [.rs 43, .d (.v (.int .i64 ((hn t 1).getD 0 0))), .d (.v (.int .i64 ((hn t 1).getD 1 0))), .d (.v (.int .i64 ((hn t 1).getD 2 0))), .d (.v (.int .i64 ((hn t 1).getD 3 0))), .d (.v (.int .i64 ((hn t 2).getD 0 0))), .d (.v (.int .i64 ((hn t 2).getD 1 0))), .d (.v (.int .i64 ((hn t 2).getD 2 0))), .d (.v (.int .i64 ((hn t 2).getD 3 0))), .d (.v (.int .i64 ((hn t 0).getD 0 0))), .d (.v (.int .i64 ((hn t 0).getD 1 0))), .d nilD, .d nilD]), (43, .row 37 2 (esM t i)), (8, .box (pK t i)), (67, .box [.v (.string (mkB (rsN t (3 + i)))), .v (.int .i64 ((3 + i : Nat) : Int))])]) (fun i => i ≤ m) (fun i => m - i) 0 (Nat.zero_le _) ?_ ?_
      · exact xh (ms := [4, 43, 8, 67]) (by repeat (exact Out.refl _)) trivial ⟨(by rfl), (by rfl), (by rfl), (by rfl), trivial⟩
      ·
        intro i hi
        have hl1 := lnLen ht (k := 3 + i) fun q hq => by
          rcases Nat.lt_or_ge q 3 with h | h
          · match q, h with
            | 0, _ => exact hB_ok hb0
            | 1, _ => exact hB_ok hb1
            | 2, _ => exact hB_ok hb2
          · have := eB_ok (hm1 (q - 3) (by omega)); rwa [show 3 + (q - 3) = q by omega] at this
        refine awp_seq ?_
        refine awp_seq ?_
        refine xa 2 ?_
        refine rg_q (q_move (x := .ref _ _) rfl) ?_
        refine rg_q (q_makeFunc (.cons rfl .nil)) ?_
        refine rg_nil ?_
        refine aops_callLX hGB hNG 1001 [8, 67] [] en74 rfl rfl (elemTake bp t i hl1.2 hl1.1) (.cons rfl (.cons rfl .nil)) rfl rfl rfl (by repeat (first | exact trivial | refine ⟨rfl, ?_⟩)) (by repeat (exact trivial)) rfl ?_
        refine aops_nil ?_
        change Awp _ _ _ _ _
        refine awp_cond rfl (fun hc10 => ?_) (fun hc10 => ?_)
        ·
          (try simp only [nb, ne_eq] at hc10)
          have him : i < m := by
            rcases Nat.lt_or_ge i m with q | q
            · exact q
            · rw [show i = m by omega, hm2] at hc10; cases hc10
          have hpk := pK_succ hc10
          have hel : (esM t i).length = i := by unfold esM; rw [List.length_map, List.length_range]
          rw [kn_t (k := i) hc10, kn_t (k := 3 + i) hc10, hpk]
          refine awp_skip ?_
          change Awp _ _ _ _ _
          refine awp_block ?_
          refine xa 2 ?_
          refine rg_q (q_fieldAddr_raw fld32_0 rfl) ?_
          refine rg_q (q_fieldAddr_raw fld28_0 rfl) ?_
          refine rg_nil ?_
          refine aops_le (le_reref 1000 42 rfl rfl) ?_
          refine aops_q rfl (q_load_tb (x := .rs _) sz22 rfl rfl rfl) ?_
          refine aops_q rfl (q_load_rawA (gy := .tmp 1001) (ds := [_, _]) sz37 rfl rfl rfl rfl rfl) ?_
          refine aops_q rfl (q_buildSlice sl22 zr37 rfl rfl (by decide) (.cons rfl (by exact .inr ⟨_, rfl⟩) .nil) ⟨rfl, rfl, trivial⟩ rfl (by decide) rfl) ?_
          refine aops_append sl22 zr37 by37 rfl (by decide) rfl rfl rfl rfl (by (try simp only [List.length_map, List.length_append, List.length_cons, List.length_nil]); omega) (by (try simp only [List.length_map, List.length_append, List.length_cons, List.length_nil]); omega) rfl rfl ?_
          refine aops_q rfl (q_fieldAddr_raw fld32_0 rfl) ?_
          refine aops_q rfl (q_fieldAddr_raw fld28_0 rfl) ?_
          refine aops_le (le_reref 1000 48 rfl rfl) ?_
          refine aops_storeT (z := .rs _) sz22 rfl rfl rfl rfl (by exact Nat.le_of_ble_eq_true rfl) rfl ?_
          refine aops_nil ?_
          refine ⟨i + 1, by omega, by omega, ?_⟩
          exact xh (ms := [4, 43, 8, 67]) (by repeat (first | exact Out.head rfl rfl | (refine Out.put ?_ rfl) | (refine Out.site ?_ rfl) | (refine Out.called ?_ rfl rfl) | (refine Out.killS ?_ rfl))) trivial ⟨(by rfl), (by ((show Site.row _ _ (_ ++ [_]) = _; rw [esM_succ]; rfl))), (by ((exact congrArg Site.box hpk.symm))), (by rfl), trivial⟩
        ·
          (try simp only [nb, ne_eq] at hc10)
          have him : i = m := by
            rcases Nat.lt_or_ge i m with q | q
            · rw [hm1 i q] at hc10; cases hc10
            · omega
          rw [kn_f (k := i) hc10, kn_f (k := 3 + i) hc10]
          have him2 := him.symm
          subst him2
          refine awp_exit ?_
          change Awp _ _ _ _ _
          refine awp_seq ?_
          refine Awp.le (le_freezeTBP 4 43 0 (es := esM t m) rfl rfl rfl rfl hmp) ?_
          refine Awp.le (le_boxT 4 (c13 t m nilD nilD) rfl rfl (by intro j d h; match j, h with | 0, h | 1, h | 2, h | 3, h | 4, h | 5, h | 6, h | 7, h | 8, h | 9, h | 10, h | 11, h | 12, h => cases h; rfl)) ?_
          refine xa 2 ?_
          refine rg_q (q_makeFunc (.cons rfl .nil)) ?_
          refine rg_q (q_assign (x := .d (.fn _ _)) rfl) ?_
          refine rn ?_
          change Awp _ _ _ _ _
          have hl2 := lnLen ht (k := 3 + m) fun q hq => by
            rcases Nat.lt_or_ge q 3 with h | h
            · match q, h with
              | 0, _ => exact hB_ok hb0
              | 1, _ => exact hB_ok hb1
              | 2, _ => exact hB_ok hb2
            · have := eB_ok (hm1 (q - 3) (by omega)); rwa [show 3 + (q - 3) = q by omega] at this
          refine awp_seq ?_
          refine awp_seq ?_
          refine xa 2 ?_
          refine rg_q (q_move (x := .ref _ _) rfl) (rg_q (q_move (x := .d (.fn _ _)) rfl) ?_)
          refine rg_nil ?_
          refine aops_callLX hGB hNG 1000 [4, 67] [] en74 rfl rfl (pulseTake bs t m hl2.2 hl2.1) (.cons rfl (.cons rfl .nil)) rfl rfl rfl (by repeat (first | exact trivial | refine ⟨rfl, ?_⟩)) (by repeat (exact trivial)) rfl ?_
          refine aops_q rfl (q_not rfl) ?_
          refine aops_nil ?_
          change Awp _ _ _ _ _
          refine awp_cond rfl (fun hc13 => ?_) (fun hc13 => ?_)
          ·
            (try simp only [nb, ne_eq] at hc13)
            have hz : spR t m j = (c13 t m (if okK t (3 + m) = true then plD t (3 + m) else nilD) nilD, false, 3 + m) := by
              unfold spR; rw [if_neg (by rw [hb0]; decide), if_neg (by rw [hb1]; decide), if_neg (by rw [hb2]; decide), if_pos hc13]
            rw [kn_f (k := 3 + m) hc13, hz]
            refine awp_seq ?_
            refine xa 0 ?_
            refine rg_nil ?_
            refine aops_le (le_reref 1000 4 rfl rfl) ?_
            refine aops_q rfl (q_load_refA sz32 rfl rfl rfl rfl) ?_
            refine aops_store sz32 rfl rfl (by exact .inr ⟨_, rfl⟩) rfl rfl (by decide) rfl ?_
            refine aops_q rfl (q_a rfl) ?_
            refine aops_nil ?_
            change Awp _ _ _ _ _
            refine awp_ret ?_
            exact endx_mk (.inl rfl) _ [67] (.cons (.cellA rfl rfl sz32 rfl) (.cons (.tmp rfl) .nil)) rfl (by repeat (first | exact trivial | refine ⟨rfl, ?_⟩)) rfl
          ·
            (try simp only [nb, ne_eq] at hc13)
            rw [kn_t (k := 3 + m) hc13, if_pos (uB_ok hc13)]
            refine Awp.le (le_ownB 4 10 12 39 8 (cs := c13 t m (plD t (3 + m)) nilD) rfl rfl rfl) ?_
            refine awp_skip ?_
            change Awp _ _ _ _ _
            refine awp_seq ?_
            refine awp_block ?_
            refine awp_loopH [3, 10, 55, 56, 57, 58, 59, 60, 61, 62, 63, 64, 65] [4, 10, 67] (α := Nat) (fun i => []) (fun i => [(4, .tbox [.d (.sl 2 (esM t m)), .d (.v (.int .i64 ((hn t 1).getD 0 0))), .d (.v (.int .i64 ((hn t 1).getD 1 0))), .d (.v (.int .i64 ((hn t 1).getD 2 0))), .d (.v (.int .i64 ((hn t 1).getD 3 0))), .d (.v (.int .i64 ((hn t 2).getD 0 0))), .d (.v (.int .i64 ((hn t 2).getD 1 0))), .d (.v (.int .i64 ((hn t 2).getD 2 0))), .d (.v (.int .i64 ((hn t 2).getD 3 0))), .d (.v (.int .i64 ((hn t 0).getD 0 0))), .d (.v (.int .i64 ((hn t 0).getD 1 0))), .d (plD t (3 + m)), .rs 10]), (10, .row 39 8 (fsJ t (4 + m) i)), (67, .box [.v (.string (mkB (rsN t (4 + m + i)))), .v (.int .i64 ((4 + m + i : Nat) : Int))])]) (fun i => i ≤ j) (fun i => j - i) 0 (Nat.zero_le _) ?_ ?_
            · exact xh (ms := [4, 10, 67]) (by repeat (exact Out.refl _)) trivial ⟨(by rfl), (by rfl), (by ((show Site.box [.v (.string (mkB (rsN t (3 + m + 1)))), _] = _; rw [show 3 + m + 1 = 4 + m + 0 by omega]))), trivial⟩
            ·
              intro i hi
              refine awp_seq ?_
              refine awp_seq ?_
              refine xa 5 ?_
              refine rg_q (q_move (x := .ref _ _) rfl) (rg_q (q_nilCheck_ref rfl) (rg_q (q_fieldAddr_ref fld99_0 rfl) (rg_q (q_load_ref sz9 rfl rfl rfl) ?_)))
              refine rg_q (q_neqs rfl rfl) ?_
              refine xc (awp_cond rfl (fun hc15 => ?_) (fun hc15 => ?_))
              ·
                (try simp only [nb, ne_eq] at hc15)
                have hl1 := lnLen ht (k := 4 + m + i) fun q hq => by
                  rcases Nat.lt_or_ge q 3 with h | h
                  · match q, h with
                    | 0, _ => exact hB_ok hb0
                    | 1, _ => exact hB_ok hb1
                    | 2, _ => exact hB_ok hb2
                  · rcases Nat.lt_or_ge q (3 + m) with h2 | h2
                    · have := eB_ok (hm1 (q - 3) (by omega)); rwa [show 3 + (q - 3) = q by omega] at this
                    · rcases Nat.lt_or_ge q (4 + m) with h3 | h3
                      · rw [show q = 3 + m by omega]; exact uB_ok hc13
                      · have := fB_ok (hj1 (q - (4 + m)) (by omega)); rwa [show 4 + m + (q - (4 + m)) = q by omega] at this
                refine awp_skip ?_
                change Awp _ _ _ _ _
                refine awp_block ?_
                refine awp_seq ?_
                refine xa 2 ?_
                refine rg_q (q_makeFunc (.cons rfl .nil)) ?_
                refine rg_q (q_assign (x := .d (.fn _ _)) rfl) ?_
                refine rs (xa 2 ?_)
                refine rg_q (q_move (x := .ref _ _) rfl) (rg_q (q_move (x := .d (.fn _ _)) rfl) ?_)
                refine rg_nil ?_
                refine aops_callLX hGB hNG 1000 [4, 10, 67] [10] en74 rfl rfl (takeFl bs t (4 + m) i (.sl 2 (esM t m)) (.v (.int .i64 ((hn t 1).getD 0 0))) (.v (.int .i64 ((hn t 1).getD 1 0))) (.v (.int .i64 ((hn t 1).getD 2 0))) (.v (.int .i64 ((hn t 1).getD 3 0))) (.v (.int .i64 ((hn t 2).getD 0 0))) (.v (.int .i64 ((hn t 2).getD 1 0))) (.v (.int .i64 ((hn t 2).getD 2 0))) (.v (.int .i64 ((hn t 2).getD 3 0))) (.v (.int .i64 ((hn t 0).getD 0 0))) (.v (.int .i64 ((hn t 0).getD 1 0))) (plD t (3 + m)) hl1.1 hl1.2) (.cons rfl (.cons rfl .nil)) rfl rfl rfl (by repeat (first | exact trivial | refine ⟨rfl, ?_⟩)) (by repeat (exact trivial)) rfl ?_
                refine aops_q rfl (q_not rfl) ?_
                refine aops_nil ?_
                change Awp _ _ _ _ _
                refine awp_cond rfl (fun hc17 => ?_) (fun hc17 => ?_)
                ·
                  (try simp only [nb, ne_eq] at hc17)
                  have hij : i = j := by
                    rcases Nat.lt_or_ge i j with q | q
                    · rw [hj1 i q] at hc17; cases hc17
                    · omega
                  subst hij
                  have hnn : ¬ rsN t (4 + m + i) = [] := fun e => hc15 (by rw [e]; rfl)
                  have hz : spR t m i = (c13 t m (plD t (3 + m)) (.sl 8 (if okK t (4 + m + i) = true then fsJ t (4 + m) (i + 1) else fsJ t (4 + m) i)), false, 4 + m + i) := by
                    unfold spR; rw [if_neg (by rw [hb0]; decide), if_neg (by rw [hb1]; decide), if_neg (by rw [hb2]; decide), if_neg (by rw [hc13]; decide), if_neg hnn]
                  rw [hz]
                  rw [show kn (okK t (4 + m + i) && (flP (lnK t (4 + m + i))).2) (4 + m + i) = 4 + m + i from kn_f hc17]
                  refine awp_seq ?_
                  refine Awp.le (le_freezeTBP 4 10 12 (es := if okK t (4 + m + i) = true then fsJ t (4 + m) (i + 1) else fsJ t (4 + m) i) rfl rfl rfl rfl hmp) ?_
                  refine Awp.le (le_boxT 4 (c13 t m (plD t (3 + m)) (.sl 8 (if okK t (4 + m + i) = true then fsJ t (4 + m) (i + 1) else fsJ t (4 + m) i))) rfl rfl (by intro j d h; match j, h with | 0, h | 1, h | 2, h | 3, h | 4, h | 5, h | 6, h | 7, h | 8, h | 9, h | 10, h | 11, h | 12, h => cases h; rfl)) ?_
                  refine xa 0 ?_
                  refine rg_nil ?_
                  refine aops_le (le_reref 1000 4 rfl rfl) ?_
                  refine aops_q rfl (q_load_refA sz32 rfl rfl rfl rfl) ?_
                  refine aops_store sz32 rfl rfl (by exact .inr ⟨_, rfl⟩) rfl rfl (by decide) rfl ?_
                  refine aops_q rfl (q_a rfl) ?_
                  refine aops_nil ?_
                  change Awp _ _ _ _ _
                  refine awp_ret ?_
                  exact endx_mk (.inl rfl) _ [67] (.cons (.cellA rfl rfl sz32 rfl) (.cons (.tmp rfl) .nil)) rfl (by repeat (first | exact trivial | refine ⟨rfl, ?_⟩)) rfl
                ·
                  (try simp only [nb, ne_eq] at hc17)
                  have hij : i < j := by
                    rcases Nat.lt_or_ge i j with q | q
                    · exact q
                    · rw [show i = j by omega, hj2] at hc17; cases hc17
                  have hfs : (if okK t (4 + m + i) = true then fsJ t (4 + m) (i + 1) else fsJ t (4 + m) i) = fsJ t (4 + m) (i + 1) := if_pos (fB_ok hc17)
                  rw [show kn (okK t (4 + m + i) && (flP (lnK t (4 + m + i))).2) (4 + m + i) = 4 + m + i + 1 from kn_t hc17]
                  refine awp_skip ?_
                  refine ⟨i + 1, by omega, by omega, ?_⟩
                  exact xh (ms := [4, 10, 67]) (by repeat (first | exact Out.head rfl rfl | (refine Out.put ?_ rfl) | (refine Out.called ?_ rfl rfl))) trivial ⟨(by rfl), (by ((show Site.row _ _ _ = _; rw [hfs]; done))), (by rfl), trivial⟩
              ·
                (try simp only [nb, ne_eq] at hc15)
                have hnil : rsN t (4 + m + i) = [] := mkB_inj (show mkB _ = mkB [] from hc15)
                have hij : i = j := by
                  rcases Nat.lt_or_ge i j with q | q
                  · have h1 := hj1 i q; rw [ok_nil hnil] at h1; cases h1
                  · omega
                subst hij
                have hz : spR t m i = (c13 t m (plD t (3 + m)) (.sl 8 (fsJ t (4 + m) i)), true, 4 + m + i) := by
                  unfold spR; rw [if_neg (by rw [hb0]; decide), if_neg (by rw [hb1]; decide), if_neg (by rw [hb2]; decide), if_neg (by rw [hc13]; decide), if_pos hnil]
                rw [hz]
                refine awp_exit ?_
                change Awp _ _ _ _ _
                refine awp_seq ?_
                refine Awp.le (le_freezeTBP 4 10 12 (es := fsJ t (4 + m) i) rfl rfl rfl rfl hmp) ?_
                refine Awp.le (le_boxT 4 (c13 t m (plD t (3 + m)) (.sl 8 (fsJ t (4 + m) i))) rfl rfl (by intro j d h; match j, h with | 0, h | 1, h | 2, h | 3, h | 4, h | 5, h | 6, h | 7, h | 8, h | 9, h | 10, h | 11, h | 12, h => cases h; rfl)) ?_
                refine xa 0 ?_
                refine rg_nil ?_
                refine aops_le (le_reref 1000 4 rfl rfl) ?_
                refine aops_q rfl (q_load_refA sz32 rfl rfl rfl rfl) ?_
                refine aops_store sz32 rfl rfl (by exact .inr ⟨_, rfl⟩) rfl rfl (by decide) rfl ?_
                refine aops_q rfl (q_a rfl) ?_
                refine aops_nil ?_
                change Awp _ _ _ _ _
                refine awp_ret ?_
                exact endx_mk (.inl rfl) _ [67] (.cons (.cellA rfl rfl sz32 rfl) (.cons (.tmp rfl) .nil)) rfl (by repeat (first | exact trivial | refine ⟨rfl, ?_⟩)) rfl
end Go.Proofs.YtkbdnkjjklbddaaGreatDoor.Am.M
