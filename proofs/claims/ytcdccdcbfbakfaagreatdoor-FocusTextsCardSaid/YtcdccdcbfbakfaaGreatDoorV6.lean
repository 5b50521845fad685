/- Contracts over the abstract machine: a text of powers is read: the reference. Conditions: none. -/
import Derived.Test.YtcdccdcbfbakfaaGreatDoorV5
set_option linter.unusedVariables false
set_option linter.unusedSimpArgs false
-- mini
namespace Go.Proofs.YtcdccdcbfbakfaaGreatDoor.Am.M
open Go

def rnR (w : List ByteArray) : List Int × Bool := if (∃ x ∈ w, (numI x).2 = false) then ([], false) else (w.map fun x => (numI x).1, true)
theorem rnR_bad {w : List ByteArray} {x : ByteArray} (h : x ∈ w) (hx : (numI x).2 = false) : rnR w = ([], false) := by unfold rnR; rw [if_pos ⟨x, h, hx⟩]
theorem rnR_good {w : List ByteArray} (hx : ∀ x ∈ w, (numI x).2 = true) : rnR w = (w.map fun x => (numI x).1, true) := by
  unfold rnR
  rw [if_neg]
  rintro ⟨x, q1, q2⟩
  rw [hx x q1] at q2; cases q2
theorem rn_ok {w : List ByteArray} {c : Int} (h1 : (rnR w).2 = true) (h2 : ((rnR w).1.length : Int) = c) : numR w c = ((rnR w).1, true) := by
  by_cases hq : ∀ x ∈ w, (numI x).2 = true
  · rw [rnR_good hq] at h2 ⊢
    exact numR_good (by rw [← h2, List.length_map]) hq
  · obtain ⟨x, hx⟩ := Classical.not_forall.1 hq
    obtain ⟨q1, q2⟩ := Classical.not_imp.1 hx
    rw [rnR_bad q1 (by simpa using q2)] at h1; cases h1
theorem rn_no {w : List ByteArray} {c : Int} (h : (rnR w).2 = false ∨ ((rnR w).1.length : Int) ≠ c) : (numR w c).2 = false := by
  cases hn : (numR w c).2 with
  | false => rfl
  | true =>
    obtain ⟨h1, h2, _⟩ := numR_ok hn
    rw [rnR_good h2] at h
    rcases h with q | q
    · cases q
    · exact absurd (by rw [← h1, List.length_map]) q
theorem five_at {l : List Int} (h : (l.length : Int) = 5) (j : Nat) (hj : j < 5) : l[j]? = some (l.getD j 0) := by
  rw [List.getD_eq_getElem?_getD, List.getElem?_eq_getElem (by omega)]; rfl
theorem cutN_le : ∀ (l x : List UInt8), x ∈ cutN l → x.length ≤ l.length
  | [], x, h => by rw [List.mem_singleton.1 h]; exact Nat.le_refl _
  | b :: l, x, h => by
    have h : x ∈ (if b = 10 then [] :: cutN l else hdL [b] (cutN l)) := h
    split at h
    · rcases List.mem_cons.1 h with rfl | h
      · simp
      · have := cutN_le l x h; simp; omega
    · cases hq : cutN l with
      | nil => exact absurd hq (cutN_ne l)
      | cons y ys =>
        rw [hq] at h
        rcases List.mem_cons.1 h with rfl | h
        · have := cutN_le l y (by rw [hq]; simp); simp; omega
        · have := cutN_le l x (by rw [hq]; simp [h]); simp; omega
theorem cutN_len : ∀ l : List UInt8, (cutN l).length ≤ l.length + 1
  | [] => Nat.le_refl _
  | b :: l => by
    have ih := cutN_len l
    show (if b = 10 then [] :: cutN l else hdL [b] (cutN l)).length ≤ _
    split
    · simp; omega
    · cases hq : cutN l with
      | nil => exact absurd hq (cutN_ne l)
      | cons y ys => rw [hq] at ih; simp [hdL] at ih ⊢; omega
theorem lnB_at {L : List (List UInt8)} {j : Nat} (h : j < L.length) : (L.map mkB)[j]? = some (lnB L j) := by
  unfold lnB
  rw [List.getElem?_map, List.getD_eq_getElem?_getD, List.getElem?_eq_getElem h]; rfl
theorem lnB_le (l : List UInt8) (j : Nat) : (lnB (cutN l) j).size ≤ l.length := by
  unfold lnB
  rw [mkB_size, List.getD_eq_getElem?_getD]
  cases hq : (cutN l)[j]? with
  | none => exact Nat.zero_le _
  | some x => exact cutN_le l x (List.mem_of_getElem? hq)
set_option maxRecDepth 100000 in
theorem rwnums_p (w : List ByteArray) (hw : w.length ≤ 100001) (hs : ∀ x ∈ w, x.size ≤ 100000) : PC Tryz.prog 31 [.sl 1 (w.map strC)] (.tup [.sl 1 ((rnR w).1.map iC), .v (.bool (rnR w).2)]) := by
  refine pc_of_awpN Tryz.func31 rfl Tryz.ntmps31 (rs := [.tmp 2, .tmp 3]) Tryz.results31 (by simp) fun w0 hmine hrnd hpn => ?_
  refine awp_seq ?_
  refine awp_region 2 mixed (by kernel_rfl) ?_
  refine rg_q (q_assign (x := .d (.sl _ _)) rfl) ?_
  refine rg_q (q_assign (x := .d (.v _)) rfl) ?_
  refine rg_nil ?_
  refine aops_nil ?_
  change Awp _ _ _ _ _
  refine awp_seq ?_
  refine awp_region 1 mixed (by kernel_rfl) ?_
  refine rg_q (q_assign_nil) ?_
  refine rg_nil ?_
  refine aops_nil ?_
  change Awp _ _ _ _ _
  refine Awp.le (le_own (k := 4) (e := 3) (sz := 1) rfl rfl) ?_
  refine awp_seq ?_
  refine awp_seq ?_
  refine awp_region 1 mixed (by kernel_rfl) ?_
  refine rg_q (q_assign (x := .d (.v _)) rfl) ?_
  refine rg_nil ?_
  refine aops_nil ?_
  change Awp _ _ _ _ _
  refine awp_block ?_
  refine awp_loopH [2, 3, 4, 5, 6, 7, 8, 9, 10, 11, 12, 13, 14, 15, 16, 17, 18, 19, 20, 21, 22, 23, 24, 25, 26, 27] [4] (α := Nat) (fun k => [(5, T.i (k : Int)), (4, .rs 4)]) (fun k => [(4, .row 3 1 (((w.take k).map fun x => (numI x).1).map iC))]) (fun k => k ≤ w.length ∧ ∀ x ∈ w.take k, (numI x).2 = true) (fun k => w.length - k) 0 ⟨Nat.zero_le _, fun x hx => by cases hx⟩ ?_ ?_
  · exact le_head (ms := [4]) (by repeat (exact Out.refl _)) ⟨(by rfl), (by rfl), trivial⟩ ⟨(by rfl), trivial⟩ rfl rfl rfl rfl
  ·
    intro k ⟨hk, hall⟩
    refine awp_seq ?_
    refine awp_seq ?_
    refine awp_region 4 mixed (by kernel_rfl) ?_
    refine rg_q (q_move (x := .d (.v _)) rfl) ?_
    refine rg_q (q_move (x := .d (.sl _ _)) rfl) ?_
    refine rg_q (q_len isl86 rfl (by exact len_map _ _)) ?_
    refine rg_q (q_lss rfl rfl) ?_
    refine rg_nil ?_
    refine aops_nil ?_
    change Awp _ _ _ _ _
    refine awp_len (t := 9) rfl (fun hl9 => ?_)
    (try simp only [List.length_map] at hl9)
    refine awp_cond rfl (fun hc3 => ?_) (fun hc3 => ?_)
    ·
      (try simp only [nb, ne_eq] at hc3)
      have hlt : k < w.length := by (try simp only [List.length_map] at hc3); omega
      obtain ⟨y, hy⟩ : ∃ y, w[k]? = some y := ⟨_, List.getElem?_eq_getElem hlt⟩
      have hym := List.mem_of_getElem? hy
      have hys := hs y hym
      obtain ⟨nt1, nt2⟩ := num_tie y
      have htk : w.take (k + 1) = w.take k ++ [y] := by rw [List.take_succ_eq_append_getElem hlt, (List.getElem?_eq_some_iff.1 hy).2]
      have hln : (w.take k).length ≤ 100001 := by rw [List.length_take]; omega
      refine awp_skip ?_
      change Awp _ _ _ _ _
      refine awp_seq ?_
      refine awp_block ?_
      refine awp_seq ?_
      refine awp_region 10 mixed (by kernel_rfl) ?_
      refine rg_q (q_move (x := .d (.sl _ _)) rfl) ?_
      refine rg_q (q_move (x := .d (.v _)) rfl) ?_
      refine rg_q (q_indexAddr sl86 rfl rfl (by omega) (map_at (by omega) hy)) ?_
      refine rg_q (q_load sz9 rfl rfl) ?_
      refine rg_q (q_call en60 (.cons rfl (.cons rfl .nil)) rfl (rnumber_p y (by omega))) ?_
      refine rg_q (q_move (x := .d (.tup _)) rfl) ?_
      refine rg_q (q_extract rfl rfl) ?_
      refine rg_q (q_extract rfl rfl) ?_
      refine rg_q (q_assign (x := .d (.v _)) rfl) ?_
      refine rg_q (q_assign (x := .d (.v _)) rfl) ?_
      refine rg_nil ?_
      refine aops_nil ?_
      change Awp _ _ _ _ _
      refine awp_seq ?_
      refine awp_seq ?_
      refine awp_region 2 mixed (by kernel_rfl) ?_
      refine rg_q (q_move (x := .d (.v _)) rfl) ?_
      refine rg_q (q_not rfl) ?_
      refine rg_nil ?_
      refine aops_nil ?_
      change Awp _ _ _ _ _
      refine awp_cond rfl (fun hc6 => ?_) (fun hc6 => ?_)
      ·
        (try simp only [nb, ne_eq] at hc6)
        have hz : rnR w = ([], false) := rnR_bad hym (by rw [nt1]; exact hc6)
        refine awp_seq ?_
        refine awp_region 2 mixed (by kernel_rfl) ?_
        refine rg_q (q_assign (x := .d (.sl _ _)) rfl) ?_
        refine rg_q (q_assign (x := .d (.v _)) rfl) ?_
        refine rg_nil ?_
        refine aops_nil ?_
        change Awp _ _ _ _ _
        refine awp_ret ?_
        refine ⟨_, (.cons (.tmp (by exact .d _)) (.cons (.tmp (by exact .d _)) .nil)), ?_⟩
        rw [hz]; rfl
      ·
        (try simp only [nb, ne_eq] at hc6)
        have hgood : (numI y).2 = true := by rw [nt1]; exact hc6
        have hnv := nt2 hc6
        have hsk : (((w.take (k + 1)).map fun x => (numI x).1).map iC) = (((w.take k).map fun x => (numI x).1).map iC) ++ [[.v (.int .i64 (nmL y.data.toList).1)]] := by rw [htk, List.map_append, List.map_append]; simp [iC, hnv]
        refine awp_skip ?_
        change Awp _ _ _ _ _
        refine awp_region 3 mixed (by kernel_rfl) ?_
        refine rg_q (q_move (x := .rs _) rfl) ?_
        refine rg_q (q_move (x := .d (.v _)) rfl) ?_
        refine rg_q (q_buildSlice sl26 zr3 rfl rfl (by decide) (.cons rfl (by exact .inl rfl) .nil) ⟨rfl, rfl, trivial⟩ rfl (by decide) rfl) ?_
        refine rg_nil ?_
        refine aops_append sl26 zr3 by3 rfl (by decide) rfl rfl rfl rfl (by (try simp only [List.length_map, List.length_append, List.length_cons, List.length_nil]); omega) (by (try simp only [List.length_map, List.length_append, List.length_cons, List.length_nil]); omega) rfl rfl ?_
        refine aops_q rfl (q_assign (x := .rs _) rfl) ?_
        refine aops_nil ?_
        change Awp _ _ _ _ _
        refine awp_region 3 mixed (by kernel_rfl) ?_
        refine rg_q (q_move (x := .d (.v _)) rfl) ?_
        refine rg_q (q_add rfl rfl (In64.mk (by omega) (by omega))) ?_
        refine rg_q (q_assign (x := .d (.v _)) rfl) ?_
        refine rg_nil ?_
        refine aops_nil ?_
        have hall2 : ∀ x ∈ w.take (k + 1), (numI x).2 = true := fun x hx => by
          rw [htk] at hx
          rcases List.mem_append.1 hx with hx | hx
          · exact hall x hx
          · rw [List.mem_singleton.1 hx]; exact hgood
        refine ⟨k + 1, ⟨by omega, hall2⟩, by omega, ?_⟩
        exact le_head (ms := [4]) (by repeat (first | exact Out.head rfl rfl | (refine Out.put ?_ rfl) | (refine Out.site ?_ rfl) | (refine Out.killS ?_ rfl))) ⟨(by rfl), (by rfl), trivial⟩ ⟨(by (show Site.row 3 1 (_ ++ [_]) = Site.row 3 1 _; rw [hsk]; rfl)), trivial⟩ rfl rfl rfl rfl
    ·
      (try simp only [nb, ne_eq] at hc3)
      have hkn : k = w.length := by (try simp only [List.length_map] at hc3); omega
      subst hkn
      have hz := rnR_good (fun x hx => hall x (by rw [List.take_length]; exact hx))
      refine awp_exit ?_
      change Awp _ _ _ _ _
      refine awp_seq ?_
      refine awp_region 3 mixed (by kernel_rfl) ?_
      refine rg_q (q_move (x := .rs _) rfl) ?_
      refine rg_q (q_assign (x := .rs _) rfl) ?_
      refine rg_q (q_assign (x := .d (.v _)) rfl) ?_
      refine rg_nil ?_
      refine aops_nil ?_
      change Awp _ _ _ _ _
      refine awp_ret ?_
      refine ⟨_, (.cons (.tmp (by exact .rs rfl)) (.cons (.tmp (by exact .d _)) .nil)), ?_⟩
      rw [hz, List.take_length]; rfl
set_option maxHeartbeats 4000000 in
theorem rparsePowers_p (s : ByteArray) (hs : s.size ≤ 100000) : PC Tryz.prog 12 [.v (.string (s))] (.tup [.agg (grdC (psR s).g), .sl 1 ((psR s).pw.map iC), .v (.int .i64 ((psR s).ln)), .v (.int .i64 ((psR s).er))]) := by
  have hsl : s.size = s.data.toList.length := Lib.size_eq s
  have hLl := cutN_len s.data.toList
  have hL1 : 1 ≤ (cutN s.data.toList).length := by
    cases hq : (cutN s.data.toList) with
    | nil => exact absurd hq (cutN_ne _)
    | cons _ _ => simp
  have hsz := lnB_le s.data.toList
  have hx0 := lnB_at (L := (cutN s.data.toList)) (j := 0) (by omega)
  obtain ⟨pl1, pl2⟩ := pcs_len (lnB (cutN s.data.toList) 0)
  have hsz0 := hsz 0
  have hw0 : (pcs (lnB (cutN s.data.toList) 0))[0]? = some ((pcs (lnB (cutN s.data.toList) 0)).getD 0 ⟨#[]⟩) := by rw [List.getD_eq_getElem?_getD, List.getElem?_eq_getElem (by omega)]; rfl
  have hps : ∀ x ∈ (pcs (lnB (cutN s.data.toList) 0)).drop 1, x.size ≤ 100000 := fun x hx => by have := pcs_le (List.mem_of_mem_drop hx); omega
  have hpl : ((pcs (lnB (cutN s.data.toList) 0)).drop 1).length ≤ 100001 := by rw [List.length_drop]; omega
  refine pc_of_awpN Tryz.func12 rfl Tryz.ntmps12 (rs := [.cell 2 25, .tmp 3, .tmp 4, .tmp 5]) Tryz.results12 (by simp) fun w0 hmine hrnd hpn => ?_
  refine awp_seq ?_
  refine awp_region 0 mixed (by kernel_rfl) ?_
  refine rg_nil ?_
  refine aops_alloc zr25 rfl rfl rfl ?_
  refine aops_q rfl (q_assign (x := .d (.sl _ _)) rfl) ?_
  refine aops_q rfl (q_assign (x := .d (.v _)) rfl) ?_
  refine aops_q rfl (q_assign (x := .d (.v _)) rfl) ?_
  refine aops_nil ?_
  change Awp _ _ _ _ _
  refine awp_seq ?_
  refine awp_region 1 mixed (by kernel_rfl) ?_
  refine rg_q (q_build (cs := [_, _, _, _, _]) pl25 zr25 rfl .nil trivial rfl) ?_
  refine rg_nil ?_
  refine aops_alloc zr25 rfl rfl rfl ?_
  refine aops_store sz25 rfl rfl (by exact .inr ⟨_, rfl⟩) rfl rfl (by decide) rfl ?_
  refine aops_nil ?_
  change Awp _ _ _ _ _
  refine awp_seq ?_
  refine awp_seq ?_
  refine awp_region 3 mixed (by kernel_rfl) ?_
  refine rg_q (q_move (x := .d (.v _)) rfl) ?_
  refine rg_q (q_len_str str9 rfl) ?_
  refine rg_q (q_gtr rfl rfl) ?_
  refine rg_nil ?_
  refine aops_nil ?_
  change Awp _ _ _ _ _
  refine awp_cond rfl (fun hc2 => ?_) (fun hc2 => ?_)
  ·
    (try simp only [nb, ne_eq] at hc2)
    have hz := psR_large (s := s) (by omega)
    refine awp_seq ?_
    refine awp_region 1 mixed (by kernel_rfl) ?_
    refine rg_q (q_load_refA (ds := [_, _, _, _, _]) sz25 rfl rfl rfl rfl) ?_
    refine rg_nil ?_
    refine aops_store sz25 rfl rfl (by exact .inr ⟨_, rfl⟩) rfl rfl (by decide) rfl ?_
    refine aops_q rfl (q_assign (x := .d (.sl _ _)) rfl) ?_
    refine aops_q rfl (q_assign (x := .d (.v _)) rfl) ?_
    refine aops_q rfl (q_assign (x := .d (.v _)) rfl) ?_
    refine aops_nil ?_
    change Awp _ _ _ _ _
    refine awp_ret ?_
    refine ⟨_, (.cons (.cellA rfl rfl sz25 rfl) (.cons (.tmp (by exact .d _)) (.cons (.tmp (by exact .d _)) (.cons (.tmp (by exact .d _)) .nil)))), ?_⟩
    rw [hz]; rfl
  ·
    (try simp only [nb, ne_eq] at hc2)
    have hlg : ¬ 60000 < s.size := by omega
    refine awp_skip ?_
    change Awp _ _ _ _ _
    refine awp_seq ?_
    refine awp_region 3 mixed (by kernel_rfl) ?_
    refine rg_q (q_move (x := .d (.v _)) rfl) ?_
    refine rg_q (q_call en30 (.cons rfl (.cons rfl .nil)) rfl (cutN_p s (by omega))) ?_
    refine rg_q (q_assign (x := .d (.sl _ _)) rfl) ?_
    refine rg_nil ?_
    refine aops_nil ?_
    change Awp _ _ _ _ _
    refine awp_seq ?_
    refine awp_region 5 mixed (by kernel_rfl) ?_
    refine rg_q (q_move (x := .d (.sl _ _)) rfl) ?_
    refine rg_q (q_indexAddr sl86 rfl rfl (by omega) (map_at (k := 0) (by omega) hx0)) ?_
    refine rg_q (q_load sz9 rfl rfl) ?_
    refine rg_q (q_call en30 (.cons rfl (.cons rfl .nil)) rfl ((by have h := cut_p (lnB (cutN s.data.toList) 0) (by omega); rw [← pcs_cut] at h; exact h))) ?_
    refine rg_q (q_assign (x := .d (.sl _ _)) rfl) ?_
    refine rg_nil ?_
    refine aops_nil ?_
    change Awp _ _ _ _ _
    refine awp_seq ?_
    refine awp_region 8 mixed (by kernel_rfl) ?_
    refine rg_q (q_move (x := .d (.sl _ _)) rfl) ?_
    refine rg_q (q_slice sl86 rfl rfl rfl (by simp only [List.length_map]; omega) (by simp only [List.length_map]; omega) (by exact map_slice _ _ _ _)) ?_
    rw [show (List.map strC (pcs (lnB (cutN s.data.toList) 0))).length = (pcs (lnB (cutN s.data.toList) 0)).length from List.length_map _, List.take_length]
    refine rg_q (q_call en31 (.cons rfl .nil) rfl (rwnums_p ((pcs (lnB (cutN s.data.toList) 0)).drop 1) hpl hps)) ?_
    refine rg_q (q_move (x := .d (.tup _)) rfl) ?_
    refine rg_q (q_extract rfl rfl) ?_
    refine rg_q (q_extract rfl rfl) ?_
    refine rg_q (q_assign (x := .d (.sl _ _)) rfl) ?_
    refine rg_q (q_assign (x := .d (.v _)) rfl) ?_
    refine rg_nil ?_
    refine aops_nil ?_
    change Awp _ _ _ _ _
    refine awp_seq ?_
    refine awp_seq ?_
    refine awp_region 32 mixed (by kernel_rfl) ?_
    refine rg_q (q_move (x := .d (.sl _ _)) rfl) ?_
    refine rg_q (q_len isl86 rfl (by exact len_map _ _)) ?_
    refine rg_q (q_lss rfl rfl) ?_
    refine rg_q (q_move (x := .d (.v _)) rfl) ?_
    refine rg_g rfl rfl (fun hG => (q_move (x := .d (.sl _ _)) rfl)) ?_
    refine rg_g rfl rfl (fun hG => (q_indexAddr sl86 rfl rfl (by (have hg0 := T.bool_inj (a := _) hG.1; (try simp only [nb, ne_eq] at hg0); omega)) (map_at (k := 0) (by omega) hw0))) ?_
    refine rg_g rfl rfl (fun hG => (q_load sz9 rfl rfl)) ?_
    refine rg_g rfl rfl (fun hG => (q_neqs rfl rfl)) ?_
    refine rg_pick rfl rfl rfl rfl rfl rfl ?_
    refine rg_q (q_move (x := .d (.v _)) rfl) ?_
    refine rg_g rfl rfl (fun hG => (q_move (x := .d (.v _)) rfl)) ?_
    refine rg_g rfl rfl (fun hG => (q_not rfl)) ?_
    refine rg_pick rfl rfl rfl rfl rfl rfl ?_
    refine rg_q (q_move (x := .d (.v _)) rfl) ?_
    refine rg_g rfl rfl (fun hG => (q_move (x := .d (.sl _ _)) rfl)) ?_
    refine rg_g rfl rfl (fun hG => (q_len isl26 rfl (by exact len_map _ _))) ?_
    refine rg_g rfl rfl (fun hG => (q_neq rfl rfl)) ?_
    refine rg_pick rfl rfl rfl rfl rfl rfl ?_
    refine rg_q (q_move (x := .d (.v _)) rfl) ?_
    refine rg_g rfl rfl (fun hG => (q_move (x := .d (.sl _ _)) rfl)) ?_
    refine rg_g rfl rfl (fun hG => (q_indexAddr sl26 rfl rfl (by (have hg0 := T.bool_inj (a := _) hG.1; (try simp only [nb, ne_eq] at hg0); omega)) (map_at (k := 2) (by omega) (five_at (by have h := T.bool_inj (a := _) hG.1; simp only [nb, ne_eq] at h; exact h.2) 2 (by decide))))) ?_
    refine rg_g rfl rfl (fun hG => (q_load sz3 rfl rfl)) ?_
    refine rg_g rfl rfl (fun hG => (q_call en19 (.cons rfl (.cons rfl (.cons rfl .nil))) rfl (within4_p _ _ _))) ?_
    refine rg_g rfl rfl (fun hG => (q_not rfl)) ?_
    refine rg_pick rfl rfl rfl rfl rfl rfl ?_
    refine rg_q (q_move (x := .d (.v _)) rfl) ?_
    refine rg_g rfl rfl (fun hG => (q_move (x := .d (.sl _ _)) rfl)) ?_
    refine rg_g rfl rfl (fun hG => (q_indexAddr sl26 rfl rfl (by (have hg0 := T.bool_inj (a := _) hG.1; (try simp only [nb, ne_eq] at hg0); omega)) (map_at (k := 3) (by omega) (five_at (by have h := T.bool_inj (a := _) hG.1; simp only [nb, ne_eq] at h; exact h.1.2) 3 (by decide))))) ?_
    refine rg_g rfl rfl (fun hG => (q_load sz3 rfl rfl)) ?_
    refine rg_g rfl rfl (fun hG => (q_call en19 (.cons rfl (.cons rfl (.cons rfl .nil))) rfl (within4_p _ _ _))) ?_
    refine rg_g rfl rfl (fun hG => (q_not rfl)) ?_
    refine rg_pick rfl rfl rfl rfl rfl rfl ?_
    refine rg_nil ?_
    refine aops_nil ?_
    change Awp _ _ _ _ _
    refine awp_len (t := 34) rfl (fun hl34 => ?_)
    (try simp only [List.length_map] at hl34)
    refine awp_cond rfl (fun hc7 => ?_) (fun hc7 => ?_)
    ·
      (try simp only [nb, ne_eq] at hc7)
      have hbad : (cutN s.data.toList).length < 2 ∨ (hdR s).2 = false := by
        by_cases h2 : (cutN s.data.toList).length < 2
        · exact .inl h2
        · right
          unfold hdR gdR
          rw [if_neg]
          intro hb
          unfold gdB at hb
          simp only [Bool.and_eq_true, decide_eq_true_eq] at hb
          obtain ⟨b1, b2, b3, b4⟩ := hb
          have n1 : (rnR ((pcs (lnB (cutN s.data.toList) 0)).drop 1)).2 = true := by
            cases hq : (rnR ((pcs (lnB (cutN s.data.toList) 0)).drop 1)).2 with
            | true => rfl
            | false => rw [rn_no (.inl hq)] at b1; cases b1
          have n2 : ((rnR ((pcs (lnB (cutN s.data.toList) 0)).drop 1)).1.length : Int) = 5 := by
            by_cases hq : ((rnR ((pcs (lnB (cutN s.data.toList) 0)).drop 1)).1.length : Int) = 5
            · exact hq
            · rw [rn_no (.inr hq)] at b1; cases b1
          rw [rn_ok n1 n2] at b3 b4
          simp only [List.length_map] at hc7
          rcases hc7 with ((((q | q) | q) | q) | q) | q
          · omega
          · exact q b2
          · rw [n1] at q; cases q
          · exact q n2
          · rw [b3] at q; cases q
          · rw [b4] at q; cases q
      have hz := psR_head hlg hbad
      refine awp_seq ?_
      refine awp_region 1 mixed (by kernel_rfl) ?_
      refine rg_q (q_load_refA (ds := [_, _, _, _, _]) sz25 rfl rfl rfl rfl) ?_
      refine rg_nil ?_
      refine aops_store sz25 rfl rfl (by exact .inr ⟨_, rfl⟩) rfl rfl (by decide) rfl ?_
      refine aops_q rfl (q_assign (x := .d (.sl _ _)) rfl) ?_
      refine aops_q rfl (q_assign (x := .d (.v _)) rfl) ?_
      refine aops_q rfl (q_assign (x := .d (.v _)) rfl) ?_
      refine aops_nil ?_
      change Awp _ _ _ _ _
      refine awp_ret ?_
      refine ⟨_, (.cons (.cellA rfl rfl sz25 rfl) (.cons (.tmp (by exact .d _)) (.cons (.tmp (by exact .d _)) (.cons (.tmp (by exact .d _)) .nil)))), ?_⟩
      rw [hz]; rfl
    ·
      (try simp only [nb, ne_eq] at hc7)
      (try simp only [List.length_map] at hc7)
      obtain ⟨⟨⟨⟨⟨q1, q2⟩, n1⟩, h5⟩, q3⟩, q4⟩ := hc7
      have hh2 : gdR (lnB (cutN s.data.toList) 0) = (gdV (rnR ((pcs (lnB (cutN s.data.toList) 0)).drop 1)).1, true) := by
        unfold gdR
        rw [if_pos, rn_ok n1 h5]
        unfold gdB
        rw [rn_ok n1 h5, decide_eq_true (show (pcs (lnB (cutN s.data.toList) 0)).getD 0 ⟨#[]⟩ = grdS from q2)]
        simp only [Bool.true_and, Bool.and_eq_true]
        exact ⟨q3, q4⟩
      have hgv : (hdR s).1 = (gdV (rnR ((pcs (lnB (cutN s.data.toList) 0)).drop 1)).1) := by unfold hdR; rw [hh2]
      have hco : ((rnR ((pcs (lnB (cutN s.data.toList) 0)).drop 1)).1.getD 2 0) = (gdV (rnR ((pcs (lnB (cutN s.data.toList) 0)).drop 1)).1).co := rfl
      have hro : ((rnR ((pcs (lnB (cutN s.data.toList) 0)).drop 1)).1.getD 3 0) = (gdV (rnR ((pcs (lnB (cutN s.data.toList) 0)).drop 1)).1).ro := rfl
      have hgb : (hdR s).2 = true := by unfold hdR; rw [hh2]
      have hhead : ¬ ((cutN s.data.toList).length < 2 ∨ (hdR s).2 = false) := by
        rintro (q | q)
        · omega
        · rw [hgb] at q; cases q
      obtain ⟨gc1, gc2, gr1, gr2⟩ := gdR_ok (s := lnB (cutN s.data.toList) 0) hgb
      rw [hh2] at gc1 gc2 gr1 gr2
      change 1 ≤ (gdV (rnR ((pcs (lnB (cutN s.data.toList) 0)).drop 1)).1).co at gc1
      change (gdV (rnR ((pcs (lnB (cutN s.data.toList) 0)).drop 1)).1).co ≤ 40 at gc2
      change 1 ≤ (gdV (rnR ((pcs (lnB (cutN s.data.toList) 0)).drop 1)).1).ro at gr1
      change (gdV (rnR ((pcs (lnB (cutN s.data.toList) 0)).drop 1)).1).ro ≤ 40 at gr2
      refine awp_skip ?_
      change Awp _ _ _ _ _
      refine awp_seq ?_
      refine awp_regionM 19 [none, none, none, none, none, none, none, none, none, none, none, none, none, none, none, none, none, some 11, some 11] mixed (by kernel_rfl) ?_
      refine rgm_q rfl (q_move (x := .d (.sl _ _)) rfl) ?_
      refine rgm_q rfl (q_indexAddr sl26 rfl rfl (by omega) (map_at (k := 0) (by omega) (five_at h5 0 (by decide)))) ?_
      refine rgm_q rfl (q_load sz3 rfl rfl) ?_
      refine rgm_q rfl (q_move (x := .d (.sl _ _)) rfl) ?_
      refine rgm_q rfl (q_indexAddr sl26 rfl rfl (by omega) (map_at (k := 1) (by omega) (five_at h5 1 (by decide)))) ?_
      refine rgm_q rfl (q_load sz3 rfl rfl) ?_
      refine rgm_q rfl (q_build (cs := [_, _]) pl23 zr23 rfl (.cons rfl (by exact .inl rfl) (.cons rfl (by exact .inl rfl) .nil)) ⟨⟨rfl, by decide⟩, ⟨rfl, by decide⟩, trivial⟩ rfl) ?_
      refine rgm_q rfl (q_move (x := .d (.sl _ _)) rfl) ?_
      refine rgm_q rfl (q_indexAddr sl26 rfl rfl (by omega) (map_at (k := 2) (by omega) (five_at h5 2 (by decide)))) ?_
      refine rgm_q rfl (q_load sz3 rfl rfl) ?_
      refine rgm_q rfl (q_move (x := .d (.sl _ _)) rfl) ?_
      refine rgm_q rfl (q_indexAddr sl26 rfl rfl (by omega) (map_at (k := 3) (by omega) (five_at h5 3 (by decide)))) ?_
      refine rgm_q rfl (q_load sz3 rfl rfl) ?_
      refine rgm_q rfl (q_move (x := .d (.sl _ _)) rfl) ?_
      refine rgm_q rfl (q_indexAddr sl26 rfl rfl (by omega) (map_at (k := 4) (by omega) (five_at h5 4 (by decide)))) ?_
      refine rgm_q rfl (q_load sz3 rfl rfl) ?_
      refine rgm_q rfl (q_build (cs := [_, _, _, _, _]) pl25 zr25 rfl (.cons rfl (by exact .inr ⟨_, rfl⟩) (.cons rfl (by exact .inl rfl) (.cons rfl (by exact .inl rfl) (.cons rfl (by exact .inl rfl) .nil)))) ⟨⟨rfl, by decide⟩, ⟨rfl, by decide⟩, ⟨rfl, by decide⟩, ⟨rfl, by decide⟩, trivial⟩ rfl) ?_
      refine rgm_m (k := 11) rfl rfl (by rfl) (m_alloc zr25 rfl rfl) ?_
      refine rgm_m (k := 11) rfl rfl (by rfl) (m_store sz25 rfl rfl (by exact .inr ⟨_, rfl⟩) rfl rfl (by decide) rfl) ?_
      refine rgm_nil (aops_nil ?_)
      change Awp _ _ _ _ _
      refine awp_seq ?_
      refine Awp.le (le_freeze 11 11 0 (cs := grdC (gdV (rnR ((pcs (lnB (cutN s.data.toList) 0)).drop 1)).1)) rfl rfl rfl rfl hmine) ?_
      refine awp_region 1 mixed (by kernel_rfl) ?_
      refine rg_q (q_assign_nil) ?_
      refine rg_nil ?_
      refine aops_nil ?_
      change Awp _ _ _ _ _
      refine Awp.le (le_own (k := 12) (e := 3) (sz := 1) rfl rfl) ?_
      refine awp_seq ?_
      refine awp_seq ?_
      refine awp_region 1 mixed (by kernel_rfl) ?_
      refine rg_q (q_assign (x := .d (.v _)) rfl) ?_
      refine rg_nil ?_
      refine aops_nil ?_
      change Awp _ _ _ _ _
      refine awp_block ?_
      refine awp_loopH [3, 4, 5, 12, 13, 14, 15, 84, 85, 86, 87, 88, 89, 90, 91, 92, 93, 94, 95, 96, 97, 98, 99, 100, 101, 102, 103, 104, 105, 106, 107, 108, 109, 110, 111, 112, 113, 114, 115, 116, 117, 118, 119, 120, 121] [12] (α := Nat) (fun k => [(13, T.i ((k : Int) + 1)), (12, .rs 12)]) (fun k => [(12, .row 3 1 ((psP (gdV (rnR ((pcs (lnB (cutN s.data.toList) 0)).drop 1)).1) (cutN s.data.toList) k).map iC))]) (fun k => (k ≤ (gdV (rnR ((pcs (lnB (cutN s.data.toList) 0)).drop 1)).1).ro.toNat ∧ (psP (gdV (rnR ((pcs (lnB (cutN s.data.toList) 0)).drop 1)).1) (cutN s.data.toList) k).length ≤ k * 40) ∧ ∀ j, 1 ≤ j → j < 1 + k → rwBad (gdV (rnR ((pcs (lnB (cutN s.data.toList) 0)).drop 1)).1) (cutN s.data.toList) j = false) (fun k => (gdV (rnR ((pcs (lnB (cutN s.data.toList) 0)).drop 1)).1).ro.toNat - k) 0 ⟨⟨Nat.zero_le _, by simp [psP]⟩, fun j h1 h2 => by omega⟩ ?_ ?_
      · exact le_head (ms := [12]) (by repeat (exact Out.refl _)) ⟨(by rfl), (by rfl), trivial⟩ ⟨(by rfl), trivial⟩ rfl rfl rfl rfl
      ·
        intro k ⟨⟨hk, hpp⟩, hgd⟩
        refine awp_seq ?_
        refine awp_seq ?_
        refine awp_region 4 mixed (by kernel_rfl) ?_
        refine rg_q (q_move (x := .d (.v _)) rfl) ?_
        refine rg_q (q_fieldAddr fld25_2 rfl) ?_
        refine rg_q (q_load sz3 rfl rfl) ?_
        refine rg_q (q_leq rfl rfl) ?_
        refine rg_nil ?_
        refine aops_nil ?_
        change Awp _ _ _ _ _
        refine awp_cond rfl (fun hc12 => ?_) (fun hc12 => ?_)
        ·
          (try simp only [nb, ne_eq] at hc12)
          have hlt : k < (gdV (rnR ((pcs (lnB (cutN s.data.toList) 0)).drop 1)).1).ro.toNat := by omega
          refine awp_skip ?_
          change Awp _ _ _ _ _
          refine awp_seq ?_
          refine awp_block ?_
          refine awp_seq ?_
          refine awp_seq ?_
          refine awp_region 5 mixed (by kernel_rfl) ?_
          refine rg_q (q_move (x := .d (.v _)) rfl) ?_
          refine rg_q (q_move (x := .d (.sl _ _)) rfl) ?_
          refine rg_q (q_len isl86 rfl (by exact len_map _ _)) ?_
          refine rg_q (q_sub rfl rfl (In64.mk (by omega) (by (simp only [List.length_map]; omega)))) ?_
          refine rg_q (q_geq rfl rfl) ?_
          refine rg_nil ?_
          refine aops_nil ?_
          change Awp _ _ _ _ _
          refine awp_len (t := 91) rfl (fun hl91 => ?_)
          (try simp only [List.length_map] at hl91)
          refine awp_cond rfl (fun hc14 => ?_) (fun hc14 => ?_)
          ·
            (try simp only [nb, ne_eq] at hc14)
            (try simp only [List.length_map] at hc14)
            have hbad : rwBad (gdV (rnR ((pcs (lnB (cutN s.data.toList) 0)).drop 1)).1) (cutN s.data.toList) (k + 1) = true := by unfold rwBad; rw [decide_eq_true (by omega)]; rfl
            have hz : psR s = ⟨zG, [], (k : Int) + 1 + 1, 7⟩ := by rw [psR_row hlg hhead (by rw [hgv]; exact hlt) (by rw [hgv]; exact hgd) (by rw [hgv]; exact hbad)]; congr 1 <;> omega
            refine awp_seq ?_
            refine awp_region 3 mixed (by kernel_rfl) ?_
            refine rg_q (q_load_refA (ds := [_, _, _, _, _]) sz25 rfl rfl rfl rfl) ?_
            refine rg_q (q_move (x := .d (.v _)) rfl) ?_
            refine rg_q (q_add rfl rfl (In64.mk (by omega) (by omega))) ?_
            refine rg_nil ?_
            refine aops_store sz25 rfl rfl (by exact .inr ⟨_, rfl⟩) rfl rfl (by decide) rfl ?_
            refine aops_q rfl (q_assign (x := .d (.sl _ _)) rfl) ?_
            refine aops_q rfl (q_assign (x := .d (.v _)) rfl) ?_
            refine aops_q rfl (q_assign (x := .d (.v _)) rfl) ?_
            refine aops_nil ?_
            change Awp _ _ _ _ _
            refine awp_ret ?_
            refine ⟨_, (.cons (.cellA rfl rfl sz25 rfl) (.cons (.tmp (by exact .d _)) (.cons (.tmp (by exact .d _)) (.cons (.tmp (by exact .d _)) .nil)))), ?_⟩
            rw [hz]; rfl
          ·
            (try simp only [nb, ne_eq] at hc14)
            (try simp only [List.length_map] at hc14)
            have hyk := lnB_at (L := (cutN s.data.toList)) (j := k + 1) (by omega)
            have hszk := hsz (k + 1)
            obtain ⟨_, pl3⟩ := pcs_len (lnB (cutN s.data.toList) (k + 1))
            have hpl1 : (pcs (lnB (cutN s.data.toList) (k + 1))).length ≤ 100001 := by omega
            have hps1 : ∀ x ∈ pcs (lnB (cutN s.data.toList) (k + 1)), x.size ≤ 100000 := fun x hx => by have := pcs_le hx; omega
            refine awp_skip ?_
            change Awp _ _ _ _ _
            refine awp_seq ?_
            refine awp_region 11 mixed (by kernel_rfl) ?_
            refine rg_q (q_move (x := .d (.sl _ _)) rfl) ?_
            refine rg_q (q_move (x := .d (.v _)) rfl) ?_
            refine rg_q (q_indexAddr sl86 rfl rfl (by omega) (map_at (k := k + 1) (by omega) hyk)) ?_
            refine rg_q (q_load sz9 rfl rfl) ?_
            refine rg_q (q_call en30 (.cons rfl (.cons rfl .nil)) rfl ((by have h := cut_p (lnB (cutN s.data.toList) (k + 1)) (by omega); rw [← pcs_cut] at h; exact h))) ?_
            refine rg_q (q_call en31 (.cons rfl .nil) rfl (rwnums_p (pcs (lnB (cutN s.data.toList) (k + 1))) hpl1 hps1)) ?_
            refine rg_q (q_move (x := .d (.tup _)) rfl) ?_
            refine rg_q (q_extract rfl rfl) ?_
            refine rg_q (q_extract rfl rfl) ?_
            refine rg_q (q_assign (x := .d (.sl _ _)) rfl) ?_
            refine rg_q (q_assign (x := .d (.v _)) rfl) ?_
            refine rg_nil ?_
            refine aops_nil ?_
            change Awp _ _ _ _ _
            refine awp_seq ?_
            refine awp_seq ?_
            refine awp_region 9 mixed (by kernel_rfl) ?_
            refine rg_q (q_move (x := .d (.v _)) rfl) ?_
            refine rg_q (q_not rfl) ?_
            refine rg_q (q_move (x := .d (.v _)) rfl) ?_
            refine rg_g rfl rfl (fun hG => (q_move (x := .d (.sl _ _)) rfl)) ?_
            refine rg_g rfl rfl (fun hG => (q_len isl26 rfl (by exact len_map _ _))) ?_
            refine rg_g rfl rfl (fun hG => (q_fieldAddr fld25_1 rfl)) ?_
            refine rg_g rfl rfl (fun hG => (q_load sz3 rfl rfl)) ?_
            refine rg_g rfl rfl (fun hG => (q_neq rfl rfl)) ?_
            refine rg_pick rfl rfl rfl rfl rfl rfl ?_
            refine rg_nil ?_
            refine aops_nil ?_
            change Awp _ _ _ _ _
            refine awp_cond rfl (fun hc17 => ?_) (fun hc17 => ?_)
            ·
              (try simp only [nb, ne_eq] at hc17)
              (try simp only [List.length_map] at hc17)
              have hno : (rwR (gdV (rnR ((pcs (lnB (cutN s.data.toList) 0)).drop 1)).1) (cutN s.data.toList) (k + 1)).2 = false := rn_no (by (try rw [hco] at hc17); exact hc17)
              have hbad : rwBad (gdV (rnR ((pcs (lnB (cutN s.data.toList) 0)).drop 1)).1) (cutN s.data.toList) (k + 1) = true := by unfold rwBad; rw [hno]; simp
              have hz : psR s = ⟨zG, [], (k : Int) + 1 + 1, 7⟩ := by rw [psR_row hlg hhead (by rw [hgv]; exact hlt) (by rw [hgv]; exact hgd) (by rw [hgv]; exact hbad)]; congr 1 <;> omega
              refine awp_seq ?_
              refine awp_region 3 mixed (by kernel_rfl) ?_
              refine rg_q (q_load_refA (ds := [_, _, _, _, _]) sz25 rfl rfl rfl rfl) ?_
              refine rg_q (q_move (x := .d (.v _)) rfl) ?_
              refine rg_q (q_add rfl rfl (In64.mk (by omega) (by omega))) ?_
              refine rg_nil ?_
              refine aops_store sz25 rfl rfl (by exact .inr ⟨_, rfl⟩) rfl rfl (by decide) rfl ?_
              refine aops_q rfl (q_assign (x := .d (.sl _ _)) rfl) ?_
              refine aops_q rfl (q_assign (x := .d (.v _)) rfl) ?_
              refine aops_q rfl (q_assign (x := .d (.v _)) rfl) ?_
              refine aops_nil ?_
              change Awp _ _ _ _ _
              refine awp_ret ?_
              refine ⟨_, (.cons (.cellA rfl rfl sz25 rfl) (.cons (.tmp (by exact .d _)) (.cons (.tmp (by exact .d _)) (.cons (.tmp (by exact .d _)) .nil)))), ?_⟩
              rw [hz]; rfl
            ·
              (try simp only [nb, ne_eq] at hc17)
              (try simp only [List.length_map] at hc17)
              have hrr : rwR (gdV (rnR ((pcs (lnB (cutN s.data.toList) 0)).drop 1)).1) (cutN s.data.toList) (k + 1) = ((rnR (pcs (lnB (cutN s.data.toList) (k + 1)))).1, true) := rn_ok hc17.1 (by (try rw [hco] at hc17); exact hc17.2)
              have hgood : rwBad (gdV (rnR ((pcs (lnB (cutN s.data.toList) 0)).drop 1)).1) (cutN s.data.toList) (k + 1) = false := by unfold rwBad; rw [hrr, decide_eq_false (by omega)]; rfl
              have hrl : ((rnR (pcs (lnB (cutN s.data.toList) (k + 1)))).1.length : Int) = (gdV (rnR ((pcs (lnB (cutN s.data.toList) 0)).drop 1)).1).co := by (try rw [hco] at hc17); exact hc17.2
              have hsk : ((psP (gdV (rnR ((pcs (lnB (cutN s.data.toList) 0)).drop 1)).1) (cutN s.data.toList) (k + 1)).map iC) = ((psP (gdV (rnR ((pcs (lnB (cutN s.data.toList) 0)).drop 1)).1) (cutN s.data.toList) k).map iC) ++ (rnR (pcs (lnB (cutN s.data.toList) (k + 1)))).1.map iC := by rw [psP_succ, List.map_append, hrr]
              have hpl3 : (psP (gdV (rnR ((pcs (lnB (cutN s.data.toList) 0)).drop 1)).1) (cutN s.data.toList) (k + 1)).length ≤ (k + 1) * 40 := by rw [psP_succ, List.length_append, hrr]; simp only; omega
              refine awp_skip ?_
              change Awp _ _ _ _ _
              refine awp_region 2 mixed (by kernel_rfl) ?_
              refine rg_q (q_move (x := .rs _) rfl) ?_
              refine rg_q (q_move (x := .d (.sl _ _)) rfl) ?_
              refine rg_nil ?_
              refine aops_append sl26 zr3 by3 rfl (by decide) rfl rfl rfl rfl (by (try simp only [List.length_map, List.length_append, List.length_cons, List.length_nil]); omega) (by (try simp only [List.length_map, List.length_append, List.length_cons, List.length_nil]); omega) rfl rfl ?_
              refine aops_q rfl (q_assign (x := .rs _) rfl) ?_
              refine aops_nil ?_
              change Awp _ _ _ _ _
              refine awp_region 3 mixed (by kernel_rfl) ?_
              refine rg_q (q_move (x := .d (.v _)) rfl) ?_
              refine rg_q (q_add rfl rfl (In64.mk (by omega) (by omega))) ?_
              refine rg_q (q_assign (x := .d (.v _)) rfl) ?_
              refine rg_nil ?_
              refine aops_nil ?_
              have hall2 : ∀ j, 1 ≤ j → j < 1 + (k + 1) → rwBad (gdV (rnR ((pcs (lnB (cutN s.data.toList) 0)).drop 1)).1) (cutN s.data.toList) j = false := fun j h1 h2 => by
                by_cases e : j = k + 1
                · subst e; exact hgood
                · exact hgd j h1 (by omega)
              refine ⟨k + 1, ⟨⟨by omega, hpl3⟩, hall2⟩, by omega, ?_⟩
              exact le_head (ms := [12]) (by repeat (first | exact Out.head rfl rfl | (refine Out.put ?_ rfl) | (refine Out.site ?_ rfl) | (refine Out.killS ?_ rfl))) ⟨(by rfl), (by rfl), trivial⟩ ⟨(by ((show Site.row 3 1 (_ ++ _) = Site.row 3 1 _; rw [hsk]))), trivial⟩ rfl rfl rfl rfl
        ·
          (try simp only [nb, ne_eq] at hc12)
          have hkn : k = (gdV (rnR ((pcs (lnB (cutN s.data.toList) 0)).drop 1)).1).ro.toNat := by omega
          subst hkn
          have hlast := lnB_at (L := (cutN s.data.toList)) (j := (cutN s.data.toList).length - 1) (by omega)
          refine awp_exit ?_
          change Awp _ _ _ _ _
          refine awp_seq ?_
          refine awp_seq ?_
          refine awp_region 15 mixed (by kernel_rfl) ?_
          refine rg_q (q_move (x := .d (.sl _ _)) rfl) ?_
          refine rg_q (q_len isl86 rfl (by exact len_map _ _)) ?_
          refine rg_q (q_fieldAddr fld25_2 rfl) ?_
          refine rg_q (q_load sz3 rfl rfl) ?_
          refine rg_q (q_add rfl rfl (In64.mk (by omega) (by omega))) ?_
          refine rg_q (q_neq rfl rfl) ?_
          refine rg_q (q_move (x := .d (.v _)) rfl) ?_
          refine rg_g rfl rfl (fun hG => (q_move (x := .d (.sl _ _)) rfl)) ?_
          refine rg_g rfl rfl (fun hG => (q_move (x := .d (.sl _ _)) rfl)) ?_
          refine rg_g rfl rfl (fun hG => (q_len isl86 rfl (by exact len_map _ _))) ?_
          refine rg_g rfl rfl (fun hG => (q_sub rfl rfl (In64.mk (by (have hg0 := T.bool_inj (a := _) hG.1; (try simp only [nb, ne_eq] at hg0); omega)) (by (have hg0 := T.bool_inj (a := _) hG.1; (try simp only [nb, ne_eq] at hg0); omega))))) ?_
          refine rg_g rfl rfl (fun hG => (q_indexAddr sl86 rfl rfl (by (have hg0 := T.bool_inj (a := _) hG.1; (try simp only [nb, ne_eq] at hg0); omega)) (map_at (k := (cutN s.data.toList).length - 1) (by (try simp only [List.length_map]); omega) hlast))) ?_
          refine rg_g rfl rfl (fun hG => (q_load sz9 rfl rfl)) ?_
          refine rg_g rfl rfl (fun hG => (q_neqs rfl rfl)) ?_
          refine rg_pick rfl rfl rfl rfl rfl rfl ?_
          refine rg_nil ?_
          refine aops_nil ?_
          change Awp _ _ _ _ _
          refine awp_len (t := 122) rfl (fun hl122 => ?_)
          (try simp only [List.length_map] at hl122)
          refine awp_cond rfl (fun hc20 => ?_) (fun hc20 => ?_)
          ·
            (try simp only [nb, ne_eq] at hc20)
            (try simp only [List.length_map] at hc20)
            have hz : psR s = ⟨zG, [], (gdV (rnR ((pcs (lnB (cutN s.data.toList) 0)).drop 1)).1).ro + 2, 7⟩ := by
              have ht : (cutN s.data.toList).length ≠ (gdV (rnR ((pcs (lnB (cutN s.data.toList) 0)).drop 1)).1).ro.toNat + 2 ∨ (cutN s.data.toList).getD ((gdV (rnR ((pcs (lnB (cutN s.data.toList) 0)).drop 1)).1).ro.toNat + 1) [] ≠ [] := by
                by_cases hq : (cutN s.data.toList).length = (gdV (rnR ((pcs (lnB (cutN s.data.toList) 0)).drop 1)).1).ro.toNat + 2
                · right
                  intro e
                  rcases hc20 with q | q
                  · omega
                  · refine q ?_
                    unfold lnB
                    rw [show (cutN s.data.toList).length - 1 = (gdV (rnR ((pcs (lnB (cutN s.data.toList) 0)).drop 1)).1).ro.toNat + 1 by omega, e]; rfl
                · exact .inl hq
              rw [psR_tail hlg hhead (by rw [hgv]; exact hgd) (by rw [hgv]; exact ht), hgv]
            refine awp_seq ?_
            refine awp_regionM 8 [none, none, none, none, some 2, none, none, none] mixed (by kernel_rfl) ?_
            refine rgm_q rfl (q_load_refA (ds := [_, _, _, _, _]) sz25 rfl rfl rfl rfl) ?_
            refine rgm_q rfl (q_fieldAddr fld25_2 rfl) ?_
            refine rgm_q rfl (q_load sz3 rfl rfl) ?_
            refine rgm_q rfl (q_add rfl rfl (In64.mk (by omega) (by omega))) ?_
            refine rgm_m (k := 2) rfl rfl (by rfl) (m_store sz25 rfl rfl (by exact .inr ⟨_, rfl⟩) rfl rfl (by decide) rfl) ?_
            refine rgm_q rfl (q_assign (x := .d (.sl _ _)) rfl) ?_
            refine rgm_q rfl (q_assign (x := .d (.v _)) rfl) ?_
            refine rgm_q rfl (q_assign (x := .d (.v _)) rfl) ?_
            refine rgm_nil (aops_nil ?_)
            change Awp _ _ _ _ _
            refine awp_ret ?_
            refine ⟨_, (.cons (.cellA rfl rfl sz25 rfl) (.cons (.tmp (by exact .d _)) (.cons (.tmp (by exact .d _)) (.cons (.tmp (by exact .d _)) .nil)))), ?_⟩
            rw [hz]; rfl
          ·
            (try simp only [nb, ne_eq] at hc20)
            (try simp only [List.length_map] at hc20)
            have ht : (cutN s.data.toList).length = (gdV (rnR ((pcs (lnB (cutN s.data.toList) 0)).drop 1)).1).ro.toNat + 2 ∧ (cutN s.data.toList).getD ((gdV (rnR ((pcs (lnB (cutN s.data.toList) 0)).drop 1)).1).ro.toNat + 1) [] = [] := by
              have e1 : (cutN s.data.toList).length = (gdV (rnR ((pcs (lnB (cutN s.data.toList) 0)).drop 1)).1).ro.toNat + 2 := by omega
              refine ⟨e1, ?_⟩
              have e2 := hc20.2
              unfold lnB at e2
              rw [show (cutN s.data.toList).length - 1 = (gdV (rnR ((pcs (lnB (cutN s.data.toList) 0)).drop 1)).1).ro.toNat + 1 by omega] at e2
              exact mkB_inj (show mkB _ = mkB [] from e2)
            refine awp_skip ?_
            change Awp _ _ _ _ _
            refine awp_seq ?_
            refine awp_seq ?_
            refine Awp.le (le_freezeR (es := ((psP (gdV (rnR ((pcs (lnB (cutN s.data.toList) 0)).drop 1)).1) (cutN s.data.toList) (gdV (rnR ((pcs (lnB (cutN s.data.toList) 0)).drop 1)).1).ro.toNat).map iC)) 12 12 rfl rfl rfl rfl hmine) ?_
            refine awp_region 4 mixed (by kernel_rfl) ?_
            refine rg_q (q_loadA (ds := [_, _, _, _, _]) sz25 rfl rfl rfl) ?_
            refine rg_q (q_move (x := .d (.sl _ _)) rfl) ?_
            refine rg_q (q_call en8 (.cons rfl (.cons rfl .nil)) rfl (rpowersErr_p (gdV (rnR ((pcs (lnB (cutN s.data.toList) 0)).drop 1)).1) (psP (gdV (rnR ((pcs (lnB (cutN s.data.toList) 0)).drop 1)).1) (cutN s.data.toList) (gdV (rnR ((pcs (lnB (cutN s.data.toList) 0)).drop 1)).1).ro.toNat))) ?_
            refine rg_q (q_assign (x := .d (.v _)) rfl) ?_
            refine rg_nil ?_
            refine aops_nil ?_
            change Awp _ _ _ _ _
            refine awp_seq ?_
            refine awp_region 2 mixed (by kernel_rfl) ?_
            refine rg_q (q_move (x := .d (.v _)) rfl) ?_
            refine rg_q (q_neq rfl rfl) ?_
            refine rg_nil ?_
            refine aops_nil ?_
            change Awp _ _ _ _ _
            refine awp_cond rfl (fun hc23 => ?_) (fun hc23 => ?_)
            ·
              (try simp only [nb, ne_eq] at hc23)
              have hz := psR_pw hlg hhead (by rw [hgv]; exact hgd) (by rw [hgv]; exact ht) (by rw [hgv]; exact hc23)
              rw [hgv] at hz
              refine awp_seq ?_
              refine awp_region 2 mixed (by kernel_rfl) ?_
              refine rg_q (q_load_refA (ds := [_, _, _, _, _]) sz25 rfl rfl rfl rfl) ?_
              refine rg_q (q_move (x := .d (.v _)) rfl) ?_
              refine rg_nil ?_
              refine aops_store sz25 rfl rfl (by exact .inr ⟨_, rfl⟩) rfl rfl (by decide) rfl ?_
              refine aops_q rfl (q_assign (x := .d (.sl _ _)) rfl) ?_
              refine aops_q rfl (q_assign (x := .d (.v _)) rfl) ?_
              refine aops_q rfl (q_assign (x := .d (.v _)) rfl) ?_
              refine aops_nil ?_
              change Awp _ _ _ _ _
              refine awp_ret ?_
              refine ⟨_, (.cons (.cellA rfl rfl sz25 rfl) (.cons (.tmp (by exact .d _)) (.cons (.tmp (by exact .d _)) (.cons (.tmp (by exact .d _)) .nil)))), ?_⟩
              rw [hz]; rfl
            ·
              (try simp only [nb, ne_eq] at hc23)
              have hz := psR_ok hlg hhead (by rw [hgv]; exact hgd) (by rw [hgv]; exact ht) (by rw [hgv]; exact hc23)
              rw [hgv] at hz
              refine awp_skip ?_
              change Awp _ _ _ _ _
              refine awp_seq ?_
              refine awp_region 2 mixed (by kernel_rfl) ?_
              refine rg_q (q_loadA (ds := [_, _, _, _, _]) sz25 rfl rfl rfl) ?_
              refine rg_q (q_move (x := .d (.sl _ _)) rfl) ?_
              refine rg_nil ?_
              refine aops_store sz25 rfl rfl (by exact .inr ⟨_, rfl⟩) rfl rfl (by decide) rfl ?_
              refine aops_q rfl (q_assign (x := .d (.sl _ _)) rfl) ?_
              refine aops_q rfl (q_assign (x := .d (.v _)) rfl) ?_
              refine aops_q rfl (q_assign (x := .d (.v _)) rfl) ?_
              refine aops_nil ?_
              change Awp _ _ _ _ _
              refine awp_ret ?_
              refine ⟨_, (.cons (.cellA rfl rfl sz25 rfl) (.cons (.tmp (by exact .d _)) (.cons (.tmp (by exact .d _)) (.cons (.tmp (by exact .d _)) .nil)))), ?_⟩
              rw [hz]; rfl
end Go.Proofs.YtcdccdcbfbakfaaGreatDoor.Am.M
