/- Contracts over the abstract machine: Parse of the reference. Conditions: none. -/
import Derived.Test.YtkbdnkjjklbddaaGreatDoorB15
set_option linter.unusedVariables false
set_option linter.unusedSimpArgs false
-- mini
set_option maxRecDepth 100000
namespace Go.Proofs.YtkbdnkjjklbddaaGreatDoor.Am.M
open Go

def lnB (L : List (List UInt8)) (j : Nat) : ByteArray := mkB (L.getD j [])
theorem lnB_at {L : List (List UInt8)} {j : Nat} (h : j < L.length) : (L.map mkB)[j]? = some (lnB L j) := by
  unfold lnB
  rw [List.getElem?_map, List.getD_eq_getElem?_getD, List.getElem?_eq_getElem h]; rfl
theorem cut_drop (t : List UInt8) : ∀ i, i < (cutN t).length → (cutN t).drop i = cutN (rsN t i)
  | 0, _ => rfl
  | i + 1, h => by
    have ih := cut_drop t i (by omega)
    obtain ⟨c1, _, c3, _, _⟩ := lnC_f (rsN t i)
    have hl := congrArg List.length ih
    rw [List.length_drop] at hl
    show _ = cutN (lnC (rsN t i)).2.1
    rw [← c3 (by rw [c1]; simp; omega), ← ih, List.drop_drop]
theorem ln_at {t : List UInt8} {i : Nat} (h : i < (cutN t).length) : lnB (cutN t) i = lnK t i ∧ (okK t i = true ↔ i + 1 < (cutN t).length) := by
  have hd := cut_drop t i h
  obtain ⟨c1, c2, _, _, _⟩ := lnC_f (rsN t i)
  have hl := congrArg List.length hd
  rw [List.length_drop] at hl
  refine ⟨?_, ?_⟩
  · unfold lnB lnK
    rw [← c2, ← hd, List.getD_eq_getElem?_getD, List.getD_eq_getElem?_getD, List.getElem?_drop, Nat.add_zero]
  · unfold okK
    rw [c1]
    simp
    omega
theorem ln_last {t : List UInt8} {n : Nat} (h : n + 1 = (cutN t).length) : lnB (cutN t) n = mkB (rsN t n) := by
  rw [(ln_at (t := t) (i := n) (by omega)).1]
  have hd := cut_drop t n (by omega)
  have hl := congrArg List.length hd
  rw [List.length_drop] at hl
  unfold lnK
  rcases lnC_cases (rsN t n) with ⟨h1, _⟩ | ⟨x, r, _, h2, _⟩
  · rw [h1]
  · rw [h2] at hl
    have : 1 ≤ (cutN r).length := by
      cases hq : cutN r with
      | nil => exact absurd hq (cutN_ne r)
      | cons _ _ => simp
    simp at hl; omega
theorem puB_lB (s : ByteArray) : (if nO s = true then (bif decide (wd0 s = pulS) then decide ((0 : Int) < ((nL s).length : Int)) else false) else false) = puB s := by
  unfold puB
  by_cases hw : wd0 s = pulS
  · rw [nbR_w hw, decide_eq_true hw]
    cases nO s <;> simp
  · rw [nbR_no hw, decide_eq_false hw]
    cases nO s <;> simp
theorem ok_ne {t : List UInt8} {k : Nat} (h : okK t k = true) : ¬ rsN t k = [] := fun e => by unfold okK at h; rw [e] at h; cases h
theorem lB_h {t : ByteArray} {m q : Nat} (h : lB t.data.toList m q = true) (hq : q < 3) (ho : okK t.data.toList q = true) : hB t.data.toList q = true := by
  unfold lB at h; rw [if_pos hq] at h
  unfold hB; rw [ho, h]; rfl
theorem lB_u {t : ByteArray} {m : Nat} (h : lB t.data.toList m (3 + m) = true) (ho : okK t.data.toList (3 + m) = true) : uB t.data.toList (3 + m) = true := by
  unfold lB at h; rw [if_neg (by omega), if_neg (by omega), if_pos rfl, puB_lB] at h
  unfold uB; rw [ho, h]; rfl
theorem lB_fl {t : ByteArray} {m q : Nat} (h : lB t.data.toList m q = true) (hq : 3 + m < q) (ho : okK t.data.toList q = true) : fB t.data.toList q = true := by
  unfold lB at h; rw [if_neg (by omega), if_neg (by omega), if_neg (by omega)] at h
  unfold fB; rw [ho, h]; rfl
theorem psR_f {t : ByteArray} {m j : Nat} (hlg : ¬ 60000 < t.size) {cs : List D} {n : Nat} (h : spR t.data.toList m j = (cs, false, n)) : psR t m j = (zS, (n : Int) + 1, 7) := by
  unfold psR; rw [if_neg hlg, h, if_pos rfl]
theorem spR_at {t : ByteArray} {m j i : Nat} (hm1 : ∀ i, i < m → eB t.data.toList (3 + i) = true) (hj1 : ∀ i, i < j → fB t.data.toList (4 + m + i) = true) (hj2 : fB t.data.toList (4 + m + j) = false) (hall : ∀ q, q < i → lB t.data.toList m q = true ∧ okK t.data.toList q = true) (hbad : lB t.data.toList m i = false ∨ okK t.data.toList i = false) (hnn : 3 + m < i → ¬ rsN t.data.toList i = []) : ∃ cs, spR t.data.toList m j = (cs, false, i) := by
  have hh : ∀ q, q < i → q < 3 → hB t.data.toList q = true := fun q h1 h2 => lB_h (hall q h1).1 h2 (hall q h1).2
  rcases Nat.lt_or_ge i 3 with h3 | h3
  · refine ⟨_, spR_h h3 (fun q hq => hh q hq (by omega)) ?_⟩
    unfold hB
    rcases hbad with hb | hb
    · unfold lB at hb; rw [if_pos h3] at hb; rw [hb]; simp
    · rw [hb]; rfl
  · have h0 := hh 0 (by omega) (by decide)
    have h1 := hh 1 (by omega) (by decide)
    have h2 := hh 2 (by omega) (by decide)
    rcases Nat.lt_trichotomy i (3 + m) with h | h | h
    · have e := hm1 (i - 3) (by omega)
      rw [show 3 + (i - 3) = i by omega] at e
      rcases hbad with hb | hb
      · unfold lB at hb; rw [if_neg (by omega), if_pos h] at hb; cases hb
      · rw [eB_ok e] at hb; cases hb
    · have hu : uB t.data.toList (3 + m) = false := by
        unfold uB
        rw [← h]
        rcases hbad with hb | hb
        · unfold lB at hb; rw [if_neg (by omega), if_neg (by omega), if_pos h, puB_lB] at hb; rw [hb]; simp
        · rw [hb]; rfl
      refine ⟨c13 t.data.toList m (if okK t.data.toList (3 + m) = true then plD t.data.toList (3 + m) else nilD) nilD, ?_⟩
      unfold spR
      rw [if_neg (by rw [h0]; decide), if_neg (by rw [h1]; decide), if_neg (by rw [h2]; decide), if_pos hu, h]
    · have hu := lB_u (hall (3 + m) h).1 (hall (3 + m) h).2
      have hf : fB t.data.toList i = false := by
        unfold fB
        rcases hbad with hb | hb
        · unfold lB at hb; rw [if_neg (by omega), if_neg (by omega), if_neg (by omega)] at hb; rw [hb]; simp
        · rw [hb]; rfl
      have hij : i = 4 + m + j := by
        rcases Nat.lt_trichotomy i (4 + m + j) with q | q | q
        · have := hj1 (i - (4 + m)) (by omega); rw [show 4 + m + (i - (4 + m)) = i by omega, hf] at this; cases this
        · exact q
        · have := lB_fl (hall (4 + m + j) q).1 (by omega) (hall (4 + m + j) q).2; rw [hj2] at this; cases this
      subst hij
      refine ⟨c13 t.data.toList m (plD t.data.toList (3 + m)) (.sl 8 (if okK t.data.toList (4 + m + j) = true then fsJ t.data.toList (4 + m) (j + 1) else fsJ t.data.toList (4 + m) j)), ?_⟩
      unfold spR
      rw [if_neg (by rw [h0]; decide), if_neg (by rw [h1]; decide), if_neg (by rw [h2]; decide), if_neg (by rw [hu]; decide), if_neg (hnn h)]
theorem spR_good {t : ByteArray} {m j i : Nat} (hj1 : ∀ i, i < j → fB t.data.toList (4 + m + i) = true) (hj2 : fB t.data.toList (4 + m + j) = false) (h : 3 + m < i) (hall : ∀ q, q < i → lB t.data.toList m q = true ∧ okK t.data.toList q = true) (hok : okK t.data.toList i = false) (hnl : rsN t.data.toList i = []) :
    i = 4 + m + j ∧ (spR t.data.toList m j).2.1 = true ∧ hC t.data.toList 3 = [nilD, .v (.int .i64 ((hn t.data.toList 1).getD 0 0)), .v (.int .i64 ((hn t.data.toList 1).getD 1 0)), .v (.int .i64 ((hn t.data.toList 1).getD 2 0)), .v (.int .i64 ((hn t.data.toList 1).getD 3 0)), .v (.int .i64 ((hn t.data.toList 2).getD 0 0)), .v (.int .i64 ((hn t.data.toList 2).getD 1 0)), .v (.int .i64 ((hn t.data.toList 2).getD 2 0)), .v (.int .i64 ((hn t.data.toList 2).getD 3 0)), .v (.int .i64 ((hn t.data.toList 0).getD 0 0)), .v (.int .i64 ((hn t.data.toList 0).getD 1 0)), nilD, nilD] := by
  have hh : ∀ q, q < 3 → hB t.data.toList q = true := fun q h2 => lB_h (hall q (by omega)).1 h2 (hall q (by omega)).2
  have hu := lB_u (hall (3 + m) h).1 (hall (3 + m) h).2
  have hf : fB t.data.toList i = false := by unfold fB; rw [hok]; rfl
  have hij : i = 4 + m + j := by
    rcases Nat.lt_trichotomy i (4 + m + j) with q | q | q
    · have := hj1 (i - (4 + m)) (by omega); rw [show 4 + m + (i - (4 + m)) = i by omega, hf] at this; cases this
    · exact q
    · have := lB_fl (hall (4 + m + j) q).1 (by omega) (hall (4 + m + j) q).2; rw [hj2] at this; cases this
  refine ⟨hij, ?_, hC3 (hh 0 (by decide)) (hh 1 (by decide)) (hh 2 (by decide))⟩
  subst hij
  unfold spR
  rw [if_neg (by rw [hh 0 (by decide)]; decide), if_neg (by rw [hh 1 (by decide)]; decide), if_neg (by rw [hh 2 (by decide)]; decide), if_neg (by rw [hu]; decide), if_pos hnl]
set_option maxHeartbeats 4000000 in
theorem rparse_p (t : ByteArray) (m j : Nat) (hm : m ≤ 70000) (hj : j ≤ 70000) (hm1 : ∀ i, i < m → eB t.data.toList (3 + i) = true) (hm2 : eB t.data.toList (3 + m) = false) (hj1 : ∀ i, i < j → fB t.data.toList (4 + m + i) = true) (hj2 : fB t.data.toList (4 + m + j) = false) : PCG Tryz.prog GB 17 [.v (.string (t))] (.tup [.agg (spcC (psR t m j).1), .v (.int .i64 ((psR t m j).2.1)), .v (.int .i64 ((psR t m j).2.2))]) := by
  have htl : t.size = t.data.toList.length := Lib.size_eq t
  have hLl := cutN_len t.data.toList
  have hL1 : 1 ≤ (cutN t.data.toList).length := by
    cases hq : (cutN t.data.toList) with
    | nil => exact absurd hq (cutN_ne _)
    | cons _ _ => simp
  have ip0 : plX t.data.toList m 0 = nilD := by unfold plX; rw [if_pos (by omega)]
  have ie0 : elX t.data.toList m 0 = [] := by unfold elX; rw [show min (0 - 3) m = 0 by omega]; rfl
  have if0 : flX t.data.toList m 0 = [] := by unfold flX; rw [show 0 - (4 + m) = 0 by omega]; rfl
  refine pcg_of_awpO gb_low Tryz.func17 rfl Tryz.ntmps17 (rs := [.cell 2 32, .tmp 3, .tmp 4]) Tryz.results17 (by simp) fun w0 hmine hrnd hpn hGB hNG => ?_
  have hG : ∀ w, ExtM w0 w → GW w := fun w h => (hGB w h).1
  refine awp_seq ?_
  refine xa 0 ?_
  refine rg_nil ?_
  refine aops_alloc zr32 rfl rfl rfl ?_
  refine aops_q rfl (q_a rfl) ?_
  refine aops_q rfl (q_a rfl) ?_
  refine aops_nil (xq (xa 1 ?_))
  refine rg_q (q_build pl32 zr32 rfl .nil trivial rfl) ?_
  refine rg_nil ?_
  refine aops_alloc zr32 rfl rfl rfl ?_
  refine aops_store sz32 rfl rfl (by exact .inr ⟨_, rfl⟩) rfl rfl (by decide) rfl ?_
  refine aops_nil (xq (awp_seq ?_))
  refine xa 3 ?_
  refine rg_q (q_m rfl) ?_
  refine rg_q (q_len_str str9 rfl) ?_
  refine rg_q (q_gtr rfl rfl) ?_
  refine xc (awp_cond rfl (fun hc2 => ?_) (fun hc2 => ?_))
  ·
    (try simp only [nb, ne_eq] at hc2)
    have hz : psR t m j = (zS, 0, 8) := by unfold psR; rw [if_pos (by omega)]
    refine awp_seq ?_
    refine xa 1 ?_
    refine rg_q (q_load_refA sz32 rfl rfl rfl rfl) ?_
    refine rg_nil ?_
    refine aops_store sz32 rfl rfl (by exact .inr ⟨_, rfl⟩) rfl rfl (by decide) rfl ?_
    refine aops_q rfl (q_a rfl) ?_
    refine aops_q rfl (q_a rfl) ?_
    refine aops_nil ?_
    change Awp _ _ _ _ _
    refine Awp.le (le_upB 2 (spcC zS) rfl (.cons (.nil 2) (.cons (.same _) (.cons (.same _) (.cons (.same _) (.cons (.same _) (.cons (.same _) (.cons (.same _) (.cons (.same _) (.cons (.same _) (.cons (.same _) (.cons (.same _) (.cons (.nil 1) (.cons (.nil 8) .nil)))))))))))))) ?_
    refine awp_ret ?_
    refine ⟨_, (.cons (.cellA rfl rfl sz32 rfl) xk2), ?_⟩
    rw [hz]; rfl
  ·
    (try simp only [nb, ne_eq] at hc2)
    have hlg : ¬ 60000 < t.size := by omega
    refine awp_skip ?_
    change Awp _ _ _ _ _
    refine awp_seq ?_
    refine xa 0 ?_
    refine rg_nil ?_
    refine aops_alloc zr106 rfl rfl rfl ?_
    refine aops_nil ?_
    change Awp _ _ _ _ _
    refine awp_gat 1000 6 rfl fun b6 => ?_
    refine Awp.le (le_tbox (k := 6) (ts := [_, _, _, _, _, _, _, _, _, _, _, _, _, _]) rfl rfl) ?_
    refine Awp.le (le_ownT 6 28 0 37 2 rfl rfl rfl) ?_
    refine Awp.le (le_ownT 6 29 12 39 8 rfl rfl rfl) ?_
    refine awp_seq ?_
    refine xa 3 ?_
    refine rg_q (q_m rfl) ?_
    refine rg_q (q_call en46 (.cons rfl (.cons rfl .nil)) rfl (cutN_p t (by omega))) ?_
    refine rg_q (q_assign (x := .d (.sl _ _)) rfl) ?_
    refine rs (awp_seq ?_)
    refine xa 1 ?_
    refine rg_q (q_a rfl) ?_
    refine xc (awp_block ?_)
    refine awp_loopH [3, 4, 8, 18, 19, 20, 21, 22, 23, 24, 25, 26, 27, 28, 29, 30, 31, 32, 33] [6, 28, 29] (α := Nat) (fun i => [(8, T.i (i : Int))]) (fun i => [(6, .tbox [.rs 28, .d (hX t.data.toList (i) 1), .d (hX t.data.toList (i) 2), .d (hX t.data.toList (i) 3), .d (hX t.data.toList (i) 4), .d (hX t.data.toList (i) 5), .d (hX t.data.toList (i) 6), .d (hX t.data.toList (i) 7), .d (hX t.data.toList (i) 8), .d (hX t.data.toList (i) 9), .d (hX t.data.toList (i) 10), .d (plX t.data.toList m (i)), .rs 29, .d (.v (.int .i64 (atX m (i))))]), (28, .row 37 2 (elX t.data.toList m (i))), (29, .row 39 8 (flX t.data.toList m (i)))]) (fun i => i + 1 ≤ (cutN t.data.toList).length ∧ ∀ q, q < i → lB t.data.toList m q = true ∧ okK t.data.toList q = true) (fun i => (cutN t.data.toList).length - i) 0 ⟨by omega, fun q hq => by omega⟩ ?_ ?_
    · exact xh (ms := [6, 28, 29]) (by repeat (exact Out.refl _)) ⟨(by rfl), trivial⟩ ⟨(by rfl), (by rfl), (by ((show _ = Site.row _ _ _; rw [if0]; rfl))), trivial⟩
    ·
      intro i ⟨hi, hall⟩
      refine awp_seq ?_
      refine awp_seq ?_
      refine xa 5 ?_
      refine rg_q (q_m rfl) ?_
      refine rg_q (q_add rfl rfl xi) ?_
      refine rg_q (q_move (x := .d (.sl _ _)) rfl) ?_
      refine rg_q (q_len isl90 rfl (by exact len_map _ _)) ?_
      refine rg_q (q_lss rfl rfl) ?_
      refine xc (awp_len (t := 20) rfl (fun hl20 => ?_))
      (try simp only [List.length_map] at hl20)
      refine awp_cond rfl (fun hc7 => ?_) (fun hc7 => ?_)
      ·
        (try simp only [nb, ne_eq] at hc7)
        (try simp only [List.length_map] at hc7)
        have hil : i + 1 < (cutN t.data.toList).length := by omega
        obtain ⟨k1, k2⟩ := ln_at (t := t.data.toList) (i := i) (by omega)
        have hok := k2.2 hil
        have hln := lnB_at (L := (cutN t.data.toList)) (j := i) (by omega)
        rw [k1] at hln
        have hlen := ok_len (t := t.data.toList) i fun q hq => (hall q hq).2
        have hsz : (lnK t.data.toList i).size ≤ 100000 := Nat.le_trans (lnK_le _ _) (by omega)
        refine awp_skip ?_
        change Awp _ _ _ _ _
        refine awp_seq ?_
        refine awp_block ?_
        refine awp_seq ?_
        refine xa 4 ?_
        refine rg_q (q_move (x := .d (.sl _ _)) rfl) (rg_q (q_m rfl) ?_)
        refine rg_q (q_indexAddr sl90 rfl rfl (by omega) (map_at (k := i) (by omega) hln)) ?_
        refine rg_q (q_load sz9 rfl rfl) ?_
        refine rg_nil ?_
        refine aops_callLX hGB hNG 1000 [6, 28, 29] [28, 29] en47 rfl rfl (rline_all b6 t.data.toList m i hsz (by omega) (by omega) hok hm1 hm2) (.cons rfl (.cons rfl .nil)) rfl rfl rfl (by repeat (first | exact trivial | refine ⟨rfl, ?_⟩)) (by repeat (exact trivial)) rfl ?_
        refine aops_q rfl (q_not rfl) ?_
        refine aops_nil ?_
        change Awp _ _ _ _ _
        refine awp_cond rfl (fun hc9 => ?_) (fun hc9 => ?_)
        ·
          (try simp only [nb, ne_eq] at hc9)
          obtain ⟨cs, hsp⟩ := spR_at hm1 hj1 hj2 hall (.inl hc9) (fun _ => ok_ne hok)
          have hz := psR_f hlg hsp
          refine awp_seq ?_
          refine xa 3 ?_
          refine rg_q (q_load_refA sz32 rfl rfl rfl rfl) ?_
          refine rg_q (q_m rfl) ?_
          refine rg_q (q_add rfl rfl xi) ?_
          refine rg_nil ?_
          refine aops_store sz32 rfl rfl (by exact .inr ⟨_, rfl⟩) rfl rfl (by decide) rfl ?_
          refine aops_q rfl (q_a rfl) ?_
          refine aops_q rfl (q_a rfl) ?_
          refine aops_nil ?_
          change Awp _ _ _ _ _
          refine Awp.le (le_upB 2 (spcC zS) rfl (.cons (.nil 2) (.cons (.same _) (.cons (.same _) (.cons (.same _) (.cons (.same _) (.cons (.same _) (.cons (.same _) (.cons (.same _) (.cons (.same _) (.cons (.same _) (.cons (.same _) (.cons (.nil 1) (.cons (.nil 8) .nil)))))))))))))) ?_
          refine awp_ret ?_
          refine ⟨_, (.cons (.cellA rfl rfl sz32 rfl) xk2), ?_⟩
          rw [hz]; rfl
        ·
          (try simp only [nb, ne_eq] at hc9)
          have hall2 : ∀ q, q < i + 1 → lB t.data.toList m q = true ∧ okK t.data.toList q = true := fun q hq => by
            by_cases e : q = i
            · subst e; exact ⟨hc9, hok⟩
            · exact hall q (by omega)
          refine awp_skip ?_
          change Awp _ _ _ _ _
          refine xa 3 ?_
          refine rg_q (q_m rfl) ?_
          refine rg_q (q_add rfl rfl xi) ?_
          refine rg_q (q_a rfl) ?_
          refine rn ?_
          refine ⟨i + 1, ⟨by omega, hall2⟩, by omega, ?_⟩
          exact xh (ms := [6, 28, 29]) (by repeat (first | exact Out.head rfl rfl | (refine Out.put ?_ rfl) | (refine Out.called ?_ rfl rfl))) ⟨(by rfl), trivial⟩ ⟨(by ((show Site.tbox _ = Site.tbox _; rw [(rline_next hc9).1, (rline_next hc9).2]; rfl))), (by rfl), (by rfl), trivial⟩
      ·
        (try simp only [nb, ne_eq] at hc7)
        (try simp only [List.length_map] at hc7)
        have hil : i + 1 = (cutN t.data.toList).length := by omega
        have hlast := lnB_at (L := (cutN t.data.toList)) (j := (cutN t.data.toList).length - 1) (by omega)
        have hok : okK t.data.toList i = false := rdB_f fun q => by have := (ln_at (t := t.data.toList) (i := i) (by omega)).2.1 q; omega
        refine awp_exit ?_
        change Awp _ _ _ _ _
        refine awp_seq ?_
        refine awp_seq ?_
        refine xa 12 ?_
        refine rg_q (q_fieldAddr_ref fld106_1 rfl) ?_
        refine rg_q (q_load_tb (x := .d _) sz3 rfl rfl rfl) ?_
        refine rg_q (q_lss rfl rfl) (rg_q (q_m rfl) ?_)
        refine rg_g rfl rfl (fun hG => (q_move (x := .d (.sl _ _)) rfl)) ?_
        refine rg_g rfl rfl (fun hG => (q_move (x := .d (.sl _ _)) rfl)) ?_
        refine rg_g rfl rfl (fun hG => (q_len isl90 rfl (by exact len_map _ _))) ?_
        refine rg_g rfl rfl (fun hG => (q_sub rfl rfl (In64.mk (by (have hg0 := T.bool_inj (a := _) hG.1; (try simp only [nb, ne_eq] at hg0); omega)) (by (have hg0 := T.bool_inj (a := _) hG.1; (try simp only [nb, ne_eq] at hg0); (simp only [List.length_map]; omega)))))) ?_
        refine rg_g rfl rfl (fun hG => (q_indexAddr sl90 rfl rfl (by (have hg0 := T.bool_inj (a := _) hG.1; (try simp only [nb, ne_eq] at hg0); (simp only [List.length_map]; omega))) (map_at (k := (cutN t.data.toList).length - 1) (by (try simp only [List.length_map]); omega) hlast))) ?_
        refine rg_g rfl rfl (fun hG => (q_load sz9 rfl rfl)) ?_
        refine rg_g rfl rfl (fun hG => (q_neqs rfl rfl)) ?_
        refine rg_pick rfl rfl rfl rfl rfl rfl ?_
        refine xc (awp_cond rfl (fun hc11 => ?_) (fun hc11 => ?_))
        ·
          (try simp only [nb, ne_eq] at hc11)
          (try simp only [List.length_map] at hc11)
          have hnn : 3 + m < i → ¬ rsN t.data.toList i = [] := fun h e => by
            rcases hc11 with q | q
            · rw [show atX m i = 4 from (if_neg (by omega)).trans (if_neg (by omega))] at q; omega
            · refine q ?_
              rw [show (cutN t.data.toList).length - 1 = i by omega, ln_last hil, e]; rfl
          obtain ⟨cs, hsp⟩ := spR_at hm1 hj1 hj2 hall (.inr hok) hnn
          have hz := psR_f hlg hsp
          rw [show (i : Int) + 1 = ((((cutN t.data.toList).map mkB).length : Nat) : Int) from by rw [List.length_map]; omega] at hz
          refine awp_seq ?_
          refine xa 3 ?_
          refine rg_q (q_load_refA sz32 rfl rfl rfl rfl) ?_
          refine rg_q (q_move (x := .d (.sl _ _)) rfl) ?_
          refine rg_q (q_len isl90 rfl (by exact len_map _ _)) ?_
          refine rg_nil ?_
          refine aops_store sz32 rfl rfl (by exact .inr ⟨_, rfl⟩) rfl rfl (by decide) rfl ?_
          refine aops_q rfl (q_a rfl) ?_
          refine aops_q rfl (q_a rfl) ?_
          refine aops_nil ?_
          change Awp _ _ _ _ _
          refine awp_len (t := 47) rfl (fun hl47 => ?_)
          (try simp only [List.length_map] at hl47)
          refine Awp.le (le_upB 2 (spcC zS) rfl (.cons (.nil 2) (.cons (.same _) (.cons (.same _) (.cons (.same _) (.cons (.same _) (.cons (.same _) (.cons (.same _) (.cons (.same _) (.cons (.same _) (.cons (.same _) (.cons (.same _) (.cons (.nil 1) (.cons (.nil 8) .nil)))))))))))))) ?_
          refine awp_ret ?_
          refine ⟨_, (.cons (.cellA rfl rfl sz32 rfl) xk2), ?_⟩
          rw [hz]; rfl
        ·
          (try simp only [nb, ne_eq] at hc11)
          (try simp only [List.length_map] at hc11)
          have hi3 : 3 + m < i := by
            have h4 := hc11.1
            unfold atX at h4
            split at h4
            · omega
            · split at h4
              · omega
              · omega
          have hnil : rsN t.data.toList i = [] := by
            have h4 := hc11.2
            rw [show (cutN t.data.toList).length - 1 = i by omega, ln_last hil] at h4
            exact mkB_inj (show mkB _ = mkB [] from h4)
          obtain ⟨hij, hsg, hC3e⟩ := spR_good hj1 hj2 hi3 hall hok hnil
          have e1 : elX t.data.toList m i = esM t.data.toList m := by unfold elX; rw [show min (i - 3) m = m by omega]
          have e2 : plX t.data.toList m i = plD t.data.toList (3 + m) := by unfold plX; rw [if_neg (by omega)]
          have e3 : flX t.data.toList m i = fsJ t.data.toList (4 + m) j := by unfold flX; rw [show i - (4 + m) = j by omega]
          have e4 : ∀ q, hX t.data.toList i q = ([nilD, .v (.int .i64 ((hn t.data.toList 1).getD 0 0)), .v (.int .i64 ((hn t.data.toList 1).getD 1 0)), .v (.int .i64 ((hn t.data.toList 1).getD 2 0)), .v (.int .i64 ((hn t.data.toList 1).getD 3 0)), .v (.int .i64 ((hn t.data.toList 2).getD 0 0)), .v (.int .i64 ((hn t.data.toList 2).getD 1 0)), .v (.int .i64 ((hn t.data.toList 2).getD 2 0)), .v (.int .i64 ((hn t.data.toList 2).getD 3 0)), .v (.int .i64 ((hn t.data.toList 0).getD 0 0)), .v (.int .i64 ((hn t.data.toList 0).getD 1 0)), nilD, nilD] : List D).getD q nilD := fun q => by unfold hX; rw [show min i 3 = 3 by omega, hC3e]
          have hcells := sp_cells t.data.toList m j
          rw [e1, e2, e3]
          simp only [e4]
          refine Awp.le (le_freezeTB 6 28 0 rfl rfl rfl rfl hmine) ?_
          refine Awp.le (le_freezeTB 6 29 12 rfl rfl rfl rfl hmine) ?_
          refine Awp.le (le_boxT 6 (c13 t.data.toList m (plD t.data.toList (3 + m)) (.sl 8 (fsJ t.data.toList (4 + m) j)) ++ [.v (.int .i64 (atX m i))]) rfl rfl (by intro j d h; match j, h with | 0, h | 1, h | 2, h | 3, h | 4, h | 5, h | 6, h | 7, h | 8, h | 9, h | 10, h | 11, h | 12, h | 13, h => cases h; rfl)) ?_
          rw [← hcells]
          refine awp_skip ?_
          change Awp _ _ _ _ _
          refine awp_seq ?_
          refine awp_seq ?_
          refine xa 8 ?_
          refine rg_q (q_fieldAddr_ref fld106_0 rfl) ?_
          refine rg_q (q_load_refA sz32 rfl rfl rfl rfl) ?_
          refine rg_q (q_call en41 (.cons rfl .nil) rfl (rcheckSpc_p _)) ?_
          refine rg_q (q_move (x := .d (.tup _)) rfl) (rg_q (q_extract rfl rfl) (rg_q (q_extract rfl rfl) (rg_q (q_a rfl) (rg_q (q_a rfl) ?_))))
          refine rs (xa 2 ?_)
          refine rg_q (q_m rfl) (rg_q (q_neq rfl rfl) ?_)
          refine xc (awp_cond rfl (fun hc14 => ?_) (fun hc14 => ?_))
          ·
            (try simp only [nb, ne_eq] at hc14)
            have hz : psR t m j = (zS, 0, (ckSpc (spS t.data.toList m j)).2) := by unfold psR; rw [if_neg hlg, if_neg (by rw [hsg]; decide), if_pos hc14]
            refine awp_seq ?_
            refine xa 2 ?_
            refine rg_q (q_load_refA sz32 rfl rfl rfl rfl) ?_
            refine rg_q (q_m rfl) ?_
            refine rg_nil ?_
            refine aops_store sz32 rfl rfl (by exact .inr ⟨_, rfl⟩) rfl rfl (by decide) rfl ?_
            refine aops_q rfl (q_a rfl) ?_
            refine aops_q rfl (q_a rfl) ?_
            refine aops_nil ?_
            change Awp _ _ _ _ _
            refine Awp.le (le_upB 2 (spcC zS) rfl (.cons (.nil 2) (.cons (.same _) (.cons (.same _) (.cons (.same _) (.cons (.same _) (.cons (.same _) (.cons (.same _) (.cons (.same _) (.cons (.same _) (.cons (.same _) (.cons (.same _) (.cons (.nil 1) (.cons (.nil 8) .nil)))))))))))))) ?_
            refine awp_ret ?_
            refine ⟨_, (.cons (.cellA rfl rfl sz32 rfl) xk2), ?_⟩
            rw [hz]; rfl
          ·
            (try simp only [nb, ne_eq] at hc14)
            have hz : psR t m j = (spS t.data.toList m j, 0, 0) := by unfold psR; rw [if_neg hlg, if_neg (by rw [hsg]; decide), if_neg (fun h => h hc14)]
            refine awp_skip ?_
            change Awp _ _ _ _ _
            refine awp_seq ?_
            refine xa 2 ?_
            refine rg_q (q_fieldAddr_ref fld106_0 rfl) ?_
            refine rg_q (q_load_refA sz32 rfl rfl rfl rfl) ?_
            refine rg_nil ?_
            refine aops_store sz32 rfl rfl (by exact .inr ⟨_, rfl⟩) rfl rfl (by decide) rfl ?_
            refine aops_q rfl (q_a rfl) ?_
            refine aops_q rfl (q_a rfl) ?_
            refine aops_nil ?_
            change Awp _ _ _ _ _
            refine awp_ret ?_
            refine ⟨_, (.cons (.cellA rfl rfl sz32 rfl) xk2), ?_⟩
            rw [hz]; rfl
end Go.Proofs.YtkbdnkjjklbddaaGreatDoor.Am.M
