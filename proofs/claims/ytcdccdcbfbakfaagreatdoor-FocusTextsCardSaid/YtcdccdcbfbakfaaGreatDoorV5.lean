/- Contracts over the abstract machine: a text of powers is read: the code, all of it. Conditions: none. -/
import Derived.Test.YtcdccdcbfbakfaaGreatDoorV4
set_option linter.unusedVariables false
set_option linter.unusedSimpArgs false
-- mini
namespace Go.Proofs.YtcdccdcbfbakfaaGreatDoor.Am.M
open Go

theorem rwR_len {g : Grd} {L : List (List UInt8)} {j : Nat} (h : (rwR g L j).2 = true) : ((rwR g L j).1.length : Int) = g.co := by
  obtain ⟨h1, _, h2⟩ := numR_ok h
  unfold rwR at *
  rw [h2, List.length_map]; exact h1
set_option maxHeartbeats 4000000 in
theorem parsePowers_p (s : ByteArray) (hs : s.size ≤ 100000) : PCG Tryz.prog GW 9 [.v (.string (s))] (.tup [.agg (grdC (psR s).g), .sl 1 ((psR s).pw.map iC), .v (.int .i64 ((psR s).ln)), .v (.int .i64 ((psR s).er))]) := by
  obtain ⟨c1, c2, c3, c4, c5⟩ := lnC_f s.data.toList
  have hsl : s.size = s.data.toList.length := Lib.size_eq s
  have hhd : gdR (mkB (lnC s.data.toList).1) = hdR s := by unfold hdR lnB; rw [c2]
  refine pcg_of_awpN gw_keep Tryz.func9 rfl Tryz.ntmps9 (rs := [.cell 2 25, .tmp 3, .tmp 4, .tmp 5]) Tryz.results9 (by simp) fun w0 hmine hrnd hpn hG => ?_
  refine awp_seq ?_
  refine awp_region 0 mixed (by kernel_rfl) ?_
  refine rg_nil ?_
  refine aops_alloc zr25 rfl rfl rfl ?_
  refine aops_q rfl (q_assign (x := .d (.sl _ _)) rfl) ?_
  refine aops_q rfl (q_assign (x := .d (.v _)) rfl) ?_
  refine aops_q rfl (q_assign (x := .d (.v _)) rfl) ?_
  refine aops_nil ?_
  change Awp _ _ _ _ _
  refine awp_seq ?_
  refine awp_region 0 mixed (by kernel_rfl) ?_
  refine rg_nil ?_
  refine aops_alloc zr25 rfl rfl rfl ?_
  refine aops_nil ?_
  change Awp _ _ _ _ _
  refine awp_seq ?_
  refine awp_seq ?_
  refine awp_region 3 mixed (by kernel_rfl) ?_
  refine rg_q (q_move (x := .d (.v _)) rfl) ?_
  refine rg_q (q_len_str str9 rfl) ?_
  refine rg_q (q_gtr rfl rfl) ?_
  refine rg_nil ?_
  refine aops_nil ?_
  change Awp _ _ _ _ _
  refine awp_cond rfl (fun hc2 => ?_) (fun hc2 => ?_)
  ·
    (try simp only [nb, ne_eq] at hc2)
    have hz := psR_large (s := s) (by omega)
    refine awp_seq ?_
    refine awp_region 1 mixed (by kernel_rfl) ?_
    refine rg_q (q_load_refA (ds := [_, _, _, _, _]) sz25 rfl rfl rfl rfl) ?_
    refine rg_nil ?_
    refine aops_store sz25 rfl rfl (by exact .inr ⟨_, rfl⟩) rfl rfl (by decide) rfl ?_
    refine aops_q rfl (q_assign (x := .d (.sl _ _)) rfl) ?_
    refine aops_q rfl (q_assign (x := .d (.v _)) rfl) ?_
    refine aops_q rfl (q_assign (x := .d (.v _)) rfl) ?_
    refine aops_nil ?_
    change Awp _ _ _ _ _
    refine awp_ret ?_
    refine ⟨_, (.cons (.cellA rfl rfl sz25 rfl) (.cons (.tmp (by exact .d _)) (.cons (.tmp (by exact .d _)) (.cons (.tmp (by exact .d _)) .nil)))), ?_⟩
    rw [hz]; rfl
  ·
    (try simp only [nb, ne_eq] at hc2)
    have hlg : ¬ 60000 < s.size := by omega
    refine awp_skip ?_
    change Awp _ _ _ _ _
    refine awp_seq ?_
    refine awp_region 9 mixed (by kernel_rfl) ?_
    refine rg_q (q_move (x := .d (.v _)) rfl) ?_
    refine rg_q (q_callG en25 (.cons rfl (.cons rfl .nil)) rfl hG (scut_p s (by omega))) ?_
    refine rg_q (q_move (x := .d (.tup _)) rfl) ?_
    refine rg_q (q_extract rfl rfl) ?_
    refine rg_q (q_extract rfl rfl) ?_
    refine rg_q (q_extract rfl rfl) ?_
    refine rg_q (q_assign (x := .d (.v _)) rfl) ?_
    refine rg_q (q_assign (x := .d (.v _)) rfl) ?_
    refine rg_q (q_assign (x := .d (.v _)) rfl) ?_
    refine rg_nil ?_
    refine aops_nil ?_
    change Awp _ _ _ _ _
    refine awp_seq ?_
    refine awp_region 5 mixed (by kernel_rfl) ?_
    refine rg_q (q_move (x := .d (.v _)) rfl) ?_
    refine rg_q (q_callG en26 (.cons rfl .nil) rfl hG ((by have q := gridOf_p (mkB (lnC s.data.toList).1) (by rw [mkB_size]; omega); rw [hhd] at q; exact q))) ?_
    refine rg_q (q_move (x := .d (.tup _)) rfl) ?_
    refine rg_q (q_extract rfl rfl) ?_
    refine rg_q (q_extract rfl rfl) ?_
    refine rg_nil ?_
    refine aops_allocD zr25 rfl sz25 rfl rfl (by exact .inr ⟨_, rfl⟩) rfl rfl ?_
    refine aops_q rfl (q_assign (x := .d (.v _)) rfl) ?_
    refine aops_nil ?_
    change Awp _ _ _ _ _
    refine awp_seq ?_
    refine awp_seq ?_
    refine awp_region 6 mixed (by kernel_rfl) ?_
    refine rg_q (q_move (x := .d (.v _)) rfl) ?_
    refine rg_q (q_not rfl) ?_
    refine rg_q (q_move (x := .d (.v _)) rfl) ?_
    refine rg_g rfl rfl (fun hG => (q_move (x := .d (.v _)) rfl)) ?_
    refine rg_g rfl rfl (fun hG => (q_not rfl)) ?_
    refine rg_pick rfl rfl rfl rfl rfl rfl ?_
    refine rg_nil ?_
    refine aops_nil ?_
    change Awp _ _ _ _ _
    refine awp_cond rfl (fun hc6 => ?_) (fun hc6 => ?_)
    ·
      (try simp only [nb, ne_eq] at hc6)
      have hz := psR_head hlg (hc6.imp (fun q => by rw [c1] at q; simpa using q) (fun q => q))
      refine awp_seq ?_
      refine awp_region 1 mixed (by kernel_rfl) ?_
      refine rg_q (q_load_refA (ds := [_, _, _, _, _]) sz25 rfl rfl rfl rfl) ?_
      refine rg_nil ?_
      refine aops_store sz25 rfl rfl (by exact .inr ⟨_, rfl⟩) rfl rfl (by decide) rfl ?_
      refine aops_q rfl (q_assign (x := .d (.sl _ _)) rfl) ?_
      refine aops_q rfl (q_assign (x := .d (.v _)) rfl) ?_
      refine aops_q rfl (q_assign (x := .d (.v _)) rfl) ?_
      refine aops_nil ?_
      change Awp _ _ _ _ _
      refine awp_ret ?_
      refine ⟨_, (.cons (.cellA rfl rfl sz25 rfl) (.cons (.tmp (by exact .d _)) (.cons (.tmp (by exact .d _)) (.cons (.tmp (by exact .d _)) .nil)))), ?_⟩
      rw [hz]; rfl
    ·
      (try simp only [nb, ne_eq] at hc6)
      have hh2 : (hdR s).2 = true := by exact hc6.2
      have ho2 : (lnC s.data.toList).2.2 = true := by exact hc6.1
      have hhead : ¬ ((cutN s.data.toList).length < 2 ∨ (hdR s).2 = false) := by
        rintro (q | q)
        · rw [c1] at ho2; simp at ho2; omega
        · rw [hh2] at q; cases q
      obtain ⟨gc1, gc2, gr1, gr2⟩ := gdR_ok (s := lnB (cutN s.data.toList) 0) hh2
      change 1 ≤ (hdR s).1.co at gc1
      change (hdR s).1.co ≤ 40 at gc2
      change 1 ≤ (hdR s).1.ro at gr1
      change (hdR s).1.ro ≤ 40 at gr2
      have hd0 := c3 ho2
      refine awp_skip ?_
      change Awp _ _ _ _ _
      refine awp_seq ?_
      refine awp_region 1 mixed (by kernel_rfl) ?_
      refine rg_q (q_assign_nil) ?_
      refine rg_nil ?_
      refine aops_nil ?_
      change Awp _ _ _ _ _
      refine Awp.le (le_own (k := 12) (e := 3) (sz := 1) rfl rfl) ?_
      refine awp_seq ?_
      refine awp_region 1 mixed (by kernel_rfl) ?_
      refine rg_q (q_assign (x := .d (.v _)) rfl) ?_
      refine rg_nil ?_
      refine aops_nil ?_
      change Awp _ _ _ _ _
      refine awp_seq ?_
      refine awp_seq ?_
      refine awp_region 3 mixed (by kernel_rfl) ?_
      refine rg_q (q_fieldAddr fld25_2 rfl) ?_
      refine rg_q (q_load sz3 rfl rfl) ?_
      refine rg_q (q_move (x := .d (.v _)) rfl) ?_
      refine rg_nil ?_
      refine aops_nil ?_
      change Awp _ _ _ _ _
      refine awp_block ?_
      refine awp_loopH [3, 4, 5, 7, 8, 9, 12, 13, 14, 15, 42, 43, 44, 45, 46, 47, 48, 49, 50, 51, 52, 53, 54, 55, 56, 57, 58, 59, 60, 61, 62, 63, 64, 65, 66, 67, 68, 69, 70, 71, 72] [12] (α := Nat × List UInt8) (fun y => [(42, T.i (y.1 : Int)), (13, T.i ((y.1 : Int) + 1)), (12, .rs 12), (8, .d (.v (.string (mkB y.2))))]) (fun y => [(12, .row 3 1 ((psP (hdR s).1 (cutN s.data.toList) y.1).map iC))]) (fun y => (y.1 ≤ (hdR s).1.ro.toNat ∧ y.2.length ≤ 100000 ∧ (psP (hdR s).1 (cutN s.data.toList) y.1).length ≤ y.1 * 40) ∧ (cutN s.data.toList).drop (y.1 + 1) = cutN y.2 ∧ ∀ j, 1 ≤ j → j < 1 + y.1 → rwBad (hdR s).1 (cutN s.data.toList) j = false) (fun y => (hdR s).1.ro.toNat - y.1) (0, (lnC s.data.toList).2.1) ⟨⟨Nat.zero_le _, by simp only; omega, by simp [psP]⟩, by simpa using hd0, fun j h1 h2 => by simp only at h2; omega⟩ ?_ ?_
      · exact le_head (ms := [12]) (by repeat (exact Out.refl _)) ⟨(by rfl), (by rfl), (by rfl), (by rfl), trivial⟩ ⟨(by rfl), trivial⟩ rfl rfl rfl rfl
      ·
        intro y ⟨⟨hk, hrr, hpp⟩, hd, hgd⟩
        obtain ⟨k, r⟩ := y
        simp only at hk hrr hpp hd hgd
        refine awp_seq ?_
        refine awp_region 1 mixed (by kernel_rfl) ?_
        refine rg_q (q_lss rfl rfl) ?_
        refine rg_nil ?_
        refine aops_nil ?_
        change Awp _ _ _ _ _
        refine awp_seq ?_
        refine awp_cond rfl (fun hc11 => ?_) (fun hc11 => ?_)
        ·
          (try simp only [nb, ne_eq] at hc11)
          have hlt : k < (hdR s).1.ro.toNat := by omega
          obtain ⟨l1, l2, l3⟩ := row_step hd
          obtain ⟨_, _, _, e4, e5⟩ := lnC_f r
          have hrw : numR (pcs (mkB (lnC r).1)) (hdR s).1.co = rwR (hdR s).1 (cutN s.data.toList) (k + 1) := by unfold rwR lnB; rw [l1]
          obtain ⟨_, pl2⟩ := pcs_len (mkB (lnC r).1)
          rw [mkB_size] at pl2
          have hpl1 : (pcs (mkB (lnC r).1)).length ≤ 100001 := by omega
          have hps1 : ∀ x ∈ pcs (mkB (lnC r).1), x.size ≤ 100000 := fun x hx => by have := pcs_le hx; rw [mkB_size] at this; omega
          refine awp_skip ?_
          change Awp _ _ _ _ _
          refine awp_seq ?_
          refine awp_block ?_
          refine awp_seq ?_
          refine awp_region 9 mixed (by kernel_rfl) ?_
          refine rg_q (q_move (x := .d (.v _)) rfl) ?_
          refine rg_q (q_callG en25 (.cons rfl (.cons rfl .nil)) rfl hG ((by have q := scut_p (mkB r) (by rw [mkB_size]; omega); rw [data_mkB] at q; exact q))) ?_
          refine rg_q (q_move (x := .d (.tup _)) rfl) ?_
          refine rg_q (q_extract rfl rfl) ?_
          refine rg_q (q_extract rfl rfl) ?_
          refine rg_q (q_extract rfl rfl) ?_
          refine rg_q (q_assign (x := .d (.v _)) rfl) ?_
          refine rg_q (q_assign (x := .d (.v _)) rfl) ?_
          refine rg_q (q_assign (x := .d (.v _)) rfl) ?_
          refine rg_nil ?_
          refine aops_nil ?_
          change Awp _ _ _ _ _
          refine awp_seq ?_
          refine awp_region 10 mixed (by kernel_rfl) ?_
          refine rg_q (q_move (x := .d (.v _)) rfl) ?_
          refine rg_q (q_callG en28 (.cons rfl (.cons rfl .nil)) rfl hG (split_p (mkB (lnC r).1) (by rw [mkB_size]; omega))) ?_
          refine rg_q (q_fieldAddr fld25_1 rfl) ?_
          refine rg_q (q_load sz3 rfl rfl) ?_
          refine rg_q (q_callG en27 (.cons rfl (.cons rfl .nil)) rfl hG ((by have q := wnums_p (pcs (mkB (lnC r).1)) (hdR s).1.co hpl1 hps1; rw [hrw] at q; exact q))) ?_
          refine rg_q (q_move (x := .d (.tup _)) rfl) ?_
          refine rg_q (q_extract rfl rfl) ?_
          refine rg_q (q_extract rfl rfl) ?_
          refine rg_q (q_assign (x := .d (.sl _ _)) rfl) ?_
          refine rg_q (q_assign (x := .d (.v _)) rfl) ?_
          refine rg_nil ?_
          refine aops_nil ?_
          change Awp _ _ _ _ _
          refine awp_seq ?_
          refine awp_seq ?_
          refine awp_region 6 mixed (by kernel_rfl) ?_
          refine rg_q (q_move (x := .d (.v _)) rfl) ?_
          refine rg_q (q_not rfl) ?_
          refine rg_q (q_move (x := .d (.v _)) rfl) ?_
          refine rg_g rfl rfl (fun hG => (q_move (x := .d (.v _)) rfl)) ?_
          refine rg_g rfl rfl (fun hG => (q_not rfl)) ?_
          refine rg_pick rfl rfl rfl rfl rfl rfl ?_
          refine rg_nil ?_
          refine aops_nil ?_
          change Awp _ _ _ _ _
          refine awp_cond rfl (fun hc14 => ?_) (fun hc14 => ?_)
          ·
            (try simp only [nb, ne_eq] at hc14)
            have hbad : rwBad (hdR s).1 (cutN s.data.toList) (k + 1) = true := by
              unfold rwBad
              rcases hc14 with q | q
              · rw [l2] at q
                simp at q
                simp; left; omega
              · rw [q]; simp
            have hz : psR s = ⟨zG, [], (k : Int) + 1 + 1, 7⟩ := by rw [psR_row hlg hhead hlt hgd hbad]; congr 1 <;> omega
            refine awp_seq ?_
            refine awp_region 3 mixed (by kernel_rfl) ?_
            refine rg_q (q_load_refA (ds := [_, _, _, _, _]) sz25 rfl rfl rfl rfl) ?_
            refine rg_q (q_move (x := .d (.v _)) rfl) ?_
            refine rg_q (q_add rfl rfl (In64.mk (by omega) (by omega))) ?_
            refine rg_nil ?_
            refine aops_store sz25 rfl rfl (by exact .inr ⟨_, rfl⟩) rfl rfl (by decide) rfl ?_
            refine aops_q rfl (q_assign (x := .d (.sl _ _)) rfl) ?_
            refine aops_q rfl (q_assign (x := .d (.v _)) rfl) ?_
            refine aops_q rfl (q_assign (x := .d (.v _)) rfl) ?_
            refine aops_nil ?_
            change Awp _ _ _ _ _
            refine awp_ret ?_
            refine ⟨_, (.cons (.cellA rfl rfl sz25 rfl) (.cons (.tmp (by exact .d _)) (.cons (.tmp (by exact .d _)) (.cons (.tmp (by exact .d _)) .nil)))), ?_⟩
            rw [hz]; rfl
          ·
            (try simp only [nb, ne_eq] at hc14)
            have hr2 : (rwR (hdR s).1 (cutN s.data.toList) (k + 1)).2 = true := by exact hc14.2
            have ho3 : (lnC r).2.2 = true := by exact hc14.1
            have hgood : rwBad (hdR s).1 (cutN s.data.toList) (k + 1) = false := by
              unfold rwBad
              rw [l2] at ho3
              simp at ho3
              rw [hr2]; simp; omega
            have hd2 := l3 ho3
            have hrl := rwR_len hr2
            have hsk : ((psP (hdR s).1 (cutN s.data.toList) (k + 1)).map iC) = ((psP (hdR s).1 (cutN s.data.toList) k).map iC) ++ (rwR (hdR s).1 (cutN s.data.toList) (k + 1)).1.map iC := by rw [psP_succ, List.map_append]
            have hpl3 : (psP (hdR s).1 (cutN s.data.toList) (k + 1)).length ≤ (k + 1) * 40 := by rw [psP_succ, List.length_append]; omega
            refine awp_skip ?_
            change Awp _ _ _ _ _
            refine awp_seq ?_
            refine awp_region 2 mixed (by kernel_rfl) ?_
            refine rg_q (q_move (x := .rs _) rfl) ?_
            refine rg_q (q_move (x := .d (.sl _ _)) rfl) ?_
            refine rg_nil ?_
            refine aops_append sl26 zr3 by3 rfl (by decide) rfl rfl rfl rfl (by (try simp only [List.length_map, List.length_append, List.length_cons, List.length_nil]); omega) (by (try simp only [List.length_map, List.length_append, List.length_cons, List.length_nil]); omega) rfl rfl ?_
            refine aops_q rfl (q_assign (x := .rs _) rfl) ?_
            refine aops_nil ?_
            change Awp _ _ _ _ _
            refine awp_region 3 mixed (by kernel_rfl) ?_
            refine rg_q (q_move (x := .d (.v _)) rfl) ?_
            refine rg_q (q_add rfl rfl (In64.mk (by omega) (by omega))) ?_
            refine rg_q (q_assign (x := .d (.v _)) rfl) ?_
            refine rg_nil ?_
            refine aops_nil ?_
            change Awp _ _ _ _ _
            refine awp_region 2 mixed (by kernel_rfl) ?_
            refine rg_q (q_add rfl rfl (In64.mk (by omega) (by omega))) ?_
            refine rg_q (q_move (x := .d (.v _)) rfl) ?_
            refine rg_nil ?_
            refine aops_nil ?_
            have hall2 : ∀ j, 1 ≤ j → j < 1 + (k + 1) → rwBad (hdR s).1 (cutN s.data.toList) j = false := fun j h1 h2 => by
              by_cases e : j = k + 1
              · subst e; exact hgood
              · exact hgd j h1 (by omega)
            refine ⟨(k + 1, (lnC r).2.1), ⟨⟨by simp only; omega, by simp only; omega, hpl3⟩, hd2, hall2⟩, by simp only; omega, ?_⟩
            exact le_head (ms := [12]) (by repeat (first | exact Out.head rfl rfl | (refine Out.put ?_ rfl) | (refine Out.site ?_ rfl) | (refine Out.killS ?_ rfl))) ⟨(by rfl), (by rfl), (by rfl), (by rfl), trivial⟩ ⟨(by ((show Site.row 3 1 (_ ++ _) = Site.row 3 1 _; rw [hsk]))), trivial⟩ rfl rfl rfl rfl
        ·
          (try simp only [nb, ne_eq] at hc11)
          have hkn : k = (hdR s).1.ro.toNat := by omega
          subst hkn
          obtain ⟨t1, t2⟩ := tail_step hd
          refine awp_exit ?_
          change Awp _ _ _ _ _
          refine awp_seq ?_
          refine awp_seq ?_
          refine awp_region 2 mixed (by kernel_rfl) ?_
          refine rg_q (q_move (x := .d (.v _)) rfl) ?_
          refine rg_q (q_neqs rfl rfl) ?_
          refine rg_nil ?_
          refine aops_nil ?_
          change Awp _ _ _ _ _
          refine awp_cond rfl (fun hc19 => ?_) (fun hc19 => ?_)
          ·
            (try simp only [nb, ne_eq] at hc19)
            have hz : psR s = ⟨zG, [], ((hdR s).1.ro.toNat : Int) + 1 + 1, 7⟩ := by rw [psR_tail hlg hhead hgd (t2 (fun e => hc19 (by rw [e]; rfl)))]; congr 1; omega
            refine awp_seq ?_
            refine awp_region 3 mixed (by kernel_rfl) ?_
            refine rg_q (q_load_refA (ds := [_, _, _, _, _]) sz25 rfl rfl rfl rfl) ?_
            refine rg_q (q_move (x := .d (.v _)) rfl) ?_
            refine rg_q (q_add rfl rfl (In64.mk (by omega) (by omega))) ?_
            refine rg_nil ?_
            refine aops_store sz25 rfl rfl (by exact .inr ⟨_, rfl⟩) rfl rfl (by decide) rfl ?_
            refine aops_q rfl (q_assign (x := .d (.sl _ _)) rfl) ?_
            refine aops_q rfl (q_assign (x := .d (.v _)) rfl) ?_
            refine aops_q rfl (q_assign (x := .d (.v _)) rfl) ?_
            refine aops_nil ?_
            change Awp _ _ _ _ _
            refine awp_ret ?_
            refine ⟨_, (.cons (.cellA rfl rfl sz25 rfl) (.cons (.tmp (by exact .d _)) (.cons (.tmp (by exact .d _)) (.cons (.tmp (by exact .d _)) .nil)))), ?_⟩
            rw [hz]; rfl
          ·
            (try simp only [nb, ne_eq] at hc19)
            have hre : r = [] := mkB_inj (show mkB r = mkB [] from hc19)
            have ht := t1 hre
            refine awp_skip ?_
            change Awp _ _ _ _ _
            refine awp_seq ?_
            refine awp_seq ?_
            refine Awp.le (le_freezeR (es := ((psP (hdR s).1 (cutN s.data.toList) (hdR s).1.ro.toNat).map iC)) 12 12 rfl rfl rfl rfl hmine) ?_
            refine awp_region 6 mixed (by kernel_rfl) ?_
            refine rg_q (q_loadA (ds := [_, _, _, _, _]) sz25 rfl rfl rfl) ?_
            refine rg_q (q_move (x := .d (.sl _ _)) rfl) ?_
            refine rg_q (q_call en20 (.cons rfl (.cons rfl .nil)) rfl (openField_p (hdR s).1 (psP (hdR s).1 (cutN s.data.toList) (hdR s).1.ro.toNat))) ?_
            refine rg_q (q_move (x := .d (.tup _)) rfl) ?_
            refine rg_q (q_extract rfl rfl) ?_
            refine rg_q (q_extract rfl rfl) ?_
            refine rg_nil ?_
            refine aops_allocD zr72 rfl sz72 rfl rfl (by exact .inr ⟨_, rfl⟩) (ofD_len (hdR s).1 _) rfl ?_
            refine aops_q rfl (q_assign (x := .d (.v _)) rfl) ?_
            refine aops_nil ?_
            change Awp _ _ _ _ _
            refine awp_seq ?_
            refine awp_region 2 mixed (by kernel_rfl) ?_
            refine rg_q (q_move (x := .d (.v _)) rfl) ?_
            refine rg_q (q_neq rfl rfl) ?_
            refine rg_nil ?_
            refine aops_nil ?_
            change Awp _ _ _ _ _
            refine awp_cond rfl (fun hc22 => ?_) (fun hc22 => ?_)
            ·
              (try simp only [nb, ne_eq] at hc22)
              have hz := psR_pw hlg hhead hgd ht hc22
              refine awp_seq ?_
              refine awp_region 2 mixed (by kernel_rfl) ?_
              refine rg_q (q_load_refA (ds := [_, _, _, _, _]) sz25 rfl rfl rfl rfl) ?_
              refine rg_q (q_move (x := .d (.v _)) rfl) ?_
              refine rg_nil ?_
              refine aops_store sz25 rfl rfl (by exact .inr ⟨_, rfl⟩) rfl rfl (by decide) rfl ?_
              refine aops_q rfl (q_assign (x := .d (.sl _ _)) rfl) ?_
              refine aops_q rfl (q_assign (x := .d (.v _)) rfl) ?_
              refine aops_q rfl (q_assign (x := .d (.v _)) rfl) ?_
              refine aops_nil ?_
              change Awp _ _ _ _ _
              refine awp_ret ?_
              refine ⟨_, (.cons (.cellA rfl rfl sz25 rfl) (.cons (.tmp (by exact .d _)) (.cons (.tmp (by exact .d _)) (.cons (.tmp (by exact .d _)) .nil)))), ?_⟩
              rw [hz]; rfl
            ·
              (try simp only [nb, ne_eq] at hc22)
              have hz := psR_ok hlg hhead hgd ht hc22
              refine awp_skip ?_
              change Awp _ _ _ _ _
              refine awp_seq ?_
              refine awp_region 2 mixed (by kernel_rfl) ?_
              refine rg_q (q_loadA (ds := [_, _, _, _, _]) sz25 rfl rfl rfl) ?_
              refine rg_q (q_move (x := .d (.sl _ _)) rfl) ?_
              refine rg_nil ?_
              refine aops_store sz25 rfl rfl (by exact .inr ⟨_, rfl⟩) rfl rfl (by decide) rfl ?_
              refine aops_q rfl (q_assign (x := .d (.sl _ _)) rfl) ?_
              refine aops_q rfl (q_assign (x := .d (.v _)) rfl) ?_
              refine aops_q rfl (q_assign (x := .d (.v _)) rfl) ?_
              refine aops_nil ?_
              change Awp _ _ _ _ _
              refine awp_ret ?_
              refine ⟨_, (.cons (.cellA rfl rfl sz25 rfl) (.cons (.tmp (by exact .d _)) (.cons (.tmp (by exact .d _)) (.cons (.tmp (by exact .d _)) .nil)))), ?_⟩
              rw [hz]; rfl
end Go.Proofs.YtcdccdcbfbakfaaGreatDoor.Am.M
