/- Contracts over the abstract machine: a text of powers is read: the code. Conditions: none. -/
import Derived.Test.YtcdccdcbfbakfaaGreatDoorV3
set_option linter.unusedVariables false
set_option linter.unusedSimpArgs false
-- mini
namespace Go.Proofs.YtcdccdcbfbakfaaGreatDoor.Am.M
open Go

theorem mkB_eq {l : List UInt8} {s : ByteArray} : mkB l = s ↔ l = s.data.toList := ⟨fun h => by rw [← h, data_mkB], fun h => by rw [h, mkB_data]⟩
theorem lnC_f (l : List UInt8) : ((lnC l).2.2 = !decide ((cutN l).length < 2)) ∧ (cutN l).getD 0 [] = (lnC l).1 ∧ ((lnC l).2.2 = true → (cutN l).drop 1 = cutN (lnC l).2.1) ∧ (lnC l).1.length ≤ l.length ∧ (lnC l).2.1.length ≤ l.length := by
  rcases lnC_cases l with ⟨h1, h2⟩ | ⟨x, r, h1, h2, h3⟩
  · rw [h1, h2]; exact ⟨rfl, rfl, (fun h => by cases h), Nat.le_refl _, Nat.zero_le _⟩
  · rw [h1, h2]
    have h4 : 1 ≤ (cutN r).length := by
      cases hq : cutN r with
      | nil => exact absurd hq (cutN_ne r)
      | cons _ _ => simp
    exact ⟨by simp; omega, rfl, fun _ => rfl, by show x.length ≤ _; omega, by show r.length ≤ _; omega⟩
theorem row_step {L : List (List UInt8)} {k : Nat} {r : List UInt8} (h : L.drop (k + 1) = cutN r) : L.getD (k + 1) [] = (lnC r).1 ∧ ((lnC r).2.2 = !decide (L.length ≤ k + 1 + 1)) ∧ ((lnC r).2.2 = true → L.drop (k + 1 + 1) = cutN (lnC r).2.1) := by
  obtain ⟨c1, c2, c3, _, _⟩ := lnC_f r
  have hl := congrArg List.length h
  rw [List.length_drop] at hl
  have h4 : 1 ≤ (cutN r).length := by
    cases hq : cutN r with
    | nil => exact absurd hq (cutN_ne r)
    | cons _ _ => simp
  have hg : L.getD (k + 1) [] = (L.drop (k + 1)).getD 0 [] := by rw [List.getD_eq_getElem?_getD, List.getD_eq_getElem?_getD, List.getElem?_drop, Nat.add_zero]
  refine ⟨by rw [hg, h, c2], ?_, fun q => ?_⟩
  · rw [c1]
    congr 1
    exact decide_eq_decide.2 ⟨fun _ => by omega, fun _ => by omega⟩
  · rw [← c3 q, ← h, List.drop_drop]
theorem tail_step {L : List (List UInt8)} {n : Nat} {r : List UInt8} (h : L.drop (n + 1) = cutN r) : (r = [] → L.length = n + 2 ∧ L.getD (n + 1) [] = []) ∧ (r ≠ [] → L.length ≠ n + 2 ∨ L.getD (n + 1) [] ≠ []) := by
  have hl := congrArg List.length h
  rw [List.length_drop] at hl
  have hg : L.getD (n + 1) [] = (cutN r).getD 0 [] := by rw [← h, List.getD_eq_getElem?_getD, List.getD_eq_getElem?_getD, List.getElem?_drop, Nat.add_zero]
  constructor
  · rintro rfl
    have e : cutN [] = [[]] := rfl
    rw [e] at hl hg
    exact ⟨by simp at hl; omega, hg⟩
  · intro hr
    by_cases q1 : L.length = n + 2
    · right
      intro q2
      rw [q2] at hg
      have e1 : (cutN r).length = 1 := by omega
      obtain ⟨x, hx⟩ := List.length_eq_one_iff.1 e1
      rw [hx] at hg
      have : x = [] := hg.symm
      subst this
      exact hr (cutN_empty hx)
    · exact .inl q1
theorem numR_five {w : List ByteArray} (h : (numR w 5).2 = true) (j : Nat) (hj : j < 5) : (numR w 5).1[j]? = some ((numR w 5).1.getD j 0) := by
  obtain ⟨h1, _, h2⟩ := numR_ok h
  have hl : (numR w 5).1.length = 5 := by rw [h2, List.length_map]; omega
  rw [List.getD_eq_getElem?_getD, List.getElem?_eq_getElem (by omega)]; rfl
set_option maxRecDepth 100000 in
theorem wnums_p (w : List ByteArray) (c : Int) (hw : w.length ≤ 100001) (hs : ∀ x ∈ w, x.size ≤ 100000) : PCG Tryz.prog GW 27 [.sl 1 (w.map strC), .v (.int .i64 (c))] (.tup [.sl 1 ((numR w c).1.map iC), .v (.bool (numR w c).2)]) := by
  refine pcg_of_awpN gw_keep Tryz.func27 rfl Tryz.ntmps27 (rs := [.tmp 4, .tmp 5]) Tryz.results27 (by simp) fun w0 hmine hrnd hpn hG => ?_
  refine awp_seq ?_
  refine awp_region 2 mixed (by kernel_rfl) ?_
  refine rg_q (q_assign (x := .d (.sl _ _)) rfl) ?_
  refine rg_q (q_assign (x := .d (.v _)) rfl) ?_
  refine rg_nil ?_
  refine aops_nil ?_
  change Awp _ _ _ _ _
  refine awp_seq ?_
  refine awp_seq ?_
  refine awp_region 4 mixed (by kernel_rfl) ?_
  refine rg_q (q_move (x := .d (.sl _ _)) rfl) ?_
  refine rg_q (q_len isl86 rfl (by exact len_map _ _)) ?_
  refine rg_q (q_move (x := .d (.v _)) rfl) ?_
  refine rg_q (q_neq rfl rfl) ?_
  refine rg_nil ?_
  refine aops_nil ?_
  change Awp _ _ _ _ _
  refine awp_len (t := 11) rfl (fun hl11 => ?_)
  (try simp only [List.length_map] at hl11)
  refine awp_cond rfl (fun hc1 => ?_) (fun hc1 => ?_)
  ·
    (try simp only [nb, ne_eq] at hc1)
    have hz : numR w c = ([], false) := numR_len (by (try simp only [List.length_map] at hc1); exact hc1)
    refine awp_seq ?_
    refine awp_region 2 mixed (by kernel_rfl) ?_
    refine rg_q (q_assign (x := .d (.sl _ _)) rfl) ?_
    refine rg_q (q_assign (x := .d (.v _)) rfl) ?_
    refine rg_nil ?_
    refine aops_nil ?_
    change Awp _ _ _ _ _
    refine awp_ret ?_
    refine ⟨_, (.cons (.tmp (by exact .d _)) (.cons (.tmp (by exact .d _)) .nil)), ?_⟩
    rw [hz]; rfl
  ·
    (try simp only [nb, ne_eq] at hc1)
    have hl : (w.length : Int) = c := by (try simp only [List.length_map] at hc1); omega
    refine awp_skip ?_
    change Awp _ _ _ _ _
    refine awp_seq ?_
    refine awp_region 1 mixed (by kernel_rfl) ?_
    refine rg_q (q_assign_nil) ?_
    refine rg_nil ?_
    refine aops_nil ?_
    change Awp _ _ _ _ _
    refine Awp.le (le_own (k := 6) (e := 3) (sz := 1) rfl rfl) ?_
    refine awp_seq ?_
    refine awp_seq ?_
    refine awp_region 3 mixed (by kernel_rfl) ?_
    refine rg_q (q_move (x := .d (.sl _ _)) rfl) ?_
    refine rg_q (q_len isl86 rfl (by exact len_map _ _)) ?_
    refine rg_q (q_move (x := .d (.v _)) rfl) ?_
    refine rg_nil ?_
    refine aops_nil ?_
    change Awp _ _ _ _ _
    refine awp_len (t := 15) rfl (fun hl15 => ?_)
    (try simp only [List.length_map] at hl15)
    refine awp_block ?_
    refine awp_loopH [4, 5, 6, 8, 9, 10, 17, 18, 19, 20, 21, 22, 23, 24, 25, 26, 27, 28, 29, 30, 31, 32, 33, 34, 35, 36, 37, 38, 39, 40, 41, 42, 43, 44] [6] (α := Nat) (fun k => [(17, T.i (k : Int)), (6, .rs 6)]) (fun k => [(6, .row 3 1 (((w.take k).map fun x => (numI x).1).map iC))]) (fun k => k ≤ w.length ∧ ∀ x ∈ w.take k, (numI x).2 = true) (fun k => w.length - k) 0 ⟨Nat.zero_le _, fun x hx => by cases hx⟩ ?_ ?_
    · exact le_head (ms := [6]) (by repeat (exact Out.refl _)) ⟨(by rfl), (by rfl), trivial⟩ ⟨(by rfl), trivial⟩ rfl rfl rfl rfl
    ·
      intro k ⟨hk, hall⟩
      refine awp_seq ?_
      refine awp_region 1 mixed (by kernel_rfl) ?_
      refine rg_q (q_lss rfl rfl) ?_
      refine rg_nil ?_
      refine aops_nil ?_
      change Awp _ _ _ _ _
      refine awp_seq ?_
      refine awp_cond rfl (fun hc5 => ?_) (fun hc5 => ?_)
      ·
        (try simp only [nb, ne_eq] at hc5)
        have hlt : k < w.length := by (try simp only [List.length_map] at hc5); omega
        obtain ⟨y, hy⟩ : ∃ y, w[k]? = some y := ⟨_, List.getElem?_eq_getElem hlt⟩
        have hym := List.mem_of_getElem? hy
        have hys := hs y hym
        obtain ⟨an1, an2⟩ := aI_num y
        have htk : w.take (k + 1) = w.take k ++ [y] := by rw [List.take_succ_eq_append_getElem hlt, (List.getElem?_eq_some_iff.1 hy).2]
        have hln : (w.take k).length ≤ 100001 := by rw [List.length_take]; omega
        refine awp_skip ?_
        change Awp _ _ _ _ _
        refine awp_seq ?_
        refine awp_block ?_
        refine awp_seq ?_
        refine awp_region 3 mixed (by kernel_rfl) ?_
        refine rg_q (q_indexAddr sl86 rfl rfl (by omega) (map_at (by omega) hy)) ?_
        refine rg_q (q_load sz9 rfl rfl) ?_
        refine rg_q (q_assign (x := .d (.v _)) rfl) ?_
        refine rg_nil ?_
        refine aops_nil ?_
        change Awp _ _ _ _ _
        refine awp_seq ?_
        refine awp_region 1 mixed (by kernel_rfl) ?_
        refine rg_q (q_move (x := .d (.v _)) rfl) ?_
        refine rg_nil ?_
        refine aops_callQN (k := 6) en56 hG (atoi_q y (by omega)) (.cons rfl .nil) rfl rfl ?_
        refine aops_q rfl (q_move (x := .own _ _ _ _) rfl) ?_
        refine aops_q rfl (q_extractE0 rfl) ?_
        refine aops_q rfl (q_extractE1 rfl) ?_
        refine aops_q rfl (q_assign (x := .d (.v _)) rfl) ?_
        refine aops_q rfl (q_assign (x := _) rfl) ?_
        refine aops_nil ?_
        change Awp _ _ _ _ _
        refine awp_seq ?_
        refine awp_seq ?_
        refine awp_region 14 mixed (by kernel_rfl) ?_
        refine rg_q (q_move (x := _) rfl) ?_
        refine rg_q (q_neqErr (by kernel_rfl) rfl) ?_
        refine rg_q (q_move (x := .d (.v _)) rfl) ?_
        refine rg_g rfl rfl (fun hG => (q_move (x := .d (.v _)) rfl)) ?_
        refine rg_g rfl rfl (fun hGu => (q_callG en51 (.cons rfl .nil) rfl hG (itoa_p (aI y).1 (aI_in (by have hg0 := T.bool_inj (a := _) hGu.1; simpa using hg0))))) ?_
        refine rg_g rfl rfl (fun hG => (q_move (x := .d (.v _)) rfl)) ?_
        refine rg_g rfl rfl (fun hG => (q_neqs rfl rfl)) ?_
        refine rg_pick rfl rfl rfl rfl rfl rfl ?_
        refine rg_q (q_move (x := .d (.v _)) rfl) ?_
        refine rg_g rfl rfl (fun hG => (q_move (x := .d (.v _)) rfl)) ?_
        refine rg_g rfl rfl (fun hG => (q_call en57 (.cons rfl (.cons rfl .nil)) rfl (trim_p y))) ?_
        refine rg_g rfl rfl (fun hG => (q_len_str str9 rfl)) ?_
        refine rg_g rfl rfl (fun hG => (q_gtr rfl rfl)) ?_
        refine rg_pick rfl rfl rfl rfl rfl rfl ?_
        refine rg_nil ?_
        refine aops_nil ?_
        change Awp _ _ _ _ _
        refine awp_cond rfl (fun hc8 => ?_) (fun hc8 => ?_)
        ·
          (try simp only [nb, ne_eq] at hc8)
          have hbad : (numI y).2 = false := by
            rw [an2]
            by_cases q1 : (aI y).2 = true <;> by_cases q2 : Lib.itoa (aI y).1 = y.data.toList <;> simp_all [mkB_eq, mkB_size]
          have hz : numR w c = ([], false) := numR_bad hym hbad
          refine awp_seq ?_
          refine awp_region 2 mixed (by kernel_rfl) ?_
          refine rg_q (q_assign (x := .d (.sl _ _)) rfl) ?_
          refine rg_q (q_assign (x := .d (.v _)) rfl) ?_
          refine rg_nil ?_
          refine aops_nil ?_
          change Awp _ _ _ _ _
          refine awp_ret ?_
          refine ⟨_, (.cons (.tmp (by exact .d _)) (.cons (.tmp (by exact .d _)) .nil)), ?_⟩
          rw [hz]; rfl
        ·
          (try simp only [nb, ne_eq] at hc8)
          have hgood : (numI y).2 = true := by
            rw [an2]
            by_cases q1 : (aI y).2 = true <;> by_cases q2 : Lib.itoa (aI y).1 = y.data.toList <;> simp_all [mkB_eq, mkB_size]
          have hsk : (((w.take (k + 1)).map fun x => (numI x).1).map iC) = (((w.take k).map fun x => (numI x).1).map iC) ++ [[.v (.int .i64 (aI y).1)]] := by rw [htk, List.map_append, List.map_append]; simp [iC, an1]
          refine awp_skip ?_
          change Awp _ _ _ _ _
          refine awp_region 3 mixed (by kernel_rfl) ?_
          refine rg_q (q_move (x := .rs _) rfl) ?_
          refine rg_q (q_move (x := .d (.v _)) rfl) ?_
          refine rg_q (q_buildSlice sl26 zr3 rfl rfl (by decide) (.cons rfl (by exact .inl rfl) .nil) ⟨rfl, rfl, trivial⟩ rfl (by decide) rfl) ?_
          refine rg_nil ?_
          refine aops_append sl26 zr3 by3 rfl (by decide) rfl rfl rfl rfl (by (try simp only [List.length_map, List.length_append, List.length_cons, List.length_nil]); omega) (by (try simp only [List.length_map, List.length_append, List.length_cons, List.length_nil]); omega) rfl rfl ?_
          refine aops_q rfl (q_assign (x := .rs _) rfl) ?_
          refine aops_nil ?_
          change Awp _ _ _ _ _
          refine awp_region 2 mixed (by kernel_rfl) ?_
          refine rg_q (q_add rfl rfl (In64.mk (by omega) (by omega))) ?_
          refine rg_q (q_move (x := .d (.v _)) rfl) ?_
          refine rg_nil ?_
          refine aops_nil ?_
          have hall2 : ∀ x ∈ w.take (k + 1), (numI x).2 = true := fun x hx => by
            rw [htk] at hx
            rcases List.mem_append.1 hx with hx | hx
            · exact hall x hx
            · rw [List.mem_singleton.1 hx]; exact hgood
          refine ⟨k + 1, ⟨by omega, hall2⟩, by omega, ?_⟩
          exact le_head (ms := [6]) (by repeat (first | exact Out.head rfl rfl | (refine Out.put ?_ rfl) | (refine Out.site ?_ rfl) | (refine Out.killS ?_ rfl))) ⟨(by rfl), (by rfl), trivial⟩ ⟨(by (show Site.row 3 1 (_ ++ [_]) = Site.row 3 1 _; rw [hsk]; rfl)), trivial⟩ rfl rfl rfl rfl
      ·
        (try simp only [nb, ne_eq] at hc5)
        have hkn : k = w.length := by (try simp only [List.length_map] at hc5); omega
        subst hkn
        have hz := numR_good hl (fun x hx => hall x (by rw [List.take_length]; exact hx))
        refine awp_exit ?_
        change Awp _ _ _ _ _
        refine awp_seq ?_
        refine awp_region 3 mixed (by kernel_rfl) ?_
        refine rg_q (q_move (x := .rs _) rfl) ?_
        refine rg_q (q_assign (x := .rs _) rfl) ?_
        refine rg_q (q_assign (x := .d (.v _)) rfl) ?_
        refine rg_nil ?_
        refine aops_nil ?_
        change Awp _ _ _ _ _
        refine awp_ret ?_
        refine ⟨_, (.cons (.tmp (by exact .rs rfl)) (.cons (.tmp (by exact .d _)) .nil)), ?_⟩
        rw [hz, List.take_length]; rfl
set_option maxRecDepth 100000 in
theorem gridOf_p (s : ByteArray) (hs : s.size ≤ 100000) : PCG Tryz.prog GW 26 [.v (.string (s))] (.tup [.agg (grdC (gdR s).1), .v (.bool (gdR s).2)]) := by
  obtain ⟨pl1, pl2⟩ := pcs_len s
  have hx0 : (pcs s)[0]? = some ((pcs s).getD 0 ⟨#[]⟩) := by rw [List.getD_eq_getElem?_getD, List.getElem?_eq_getElem (by omega)]; rfl
  have hps : ∀ x ∈ (pcs s).drop 1, x.size ≤ 100000 := fun x hx => by have := pcs_le (List.mem_of_mem_drop hx); omega
  have hpl : ((pcs s).drop 1).length ≤ 100001 := by rw [List.length_drop]; omega
  refine pcg_of_awpN gw_keep Tryz.func26 rfl Tryz.ntmps26 (rs := [.cell 2 25, .tmp 3]) Tryz.results26 (by simp) fun w0 hmine hrnd hpn hG => ?_
  refine awp_seq ?_
  refine awp_region 0 mixed (by kernel_rfl) ?_
  refine rg_nil ?_
  refine aops_alloc zr25 rfl rfl rfl ?_
  refine aops_q rfl (q_assign (x := .d (.v _)) rfl) ?_
  refine aops_nil ?_
  change Awp _ _ _ _ _
  refine awp_seq ?_
  refine awp_region 3 mixed (by kernel_rfl) ?_
  refine rg_q (q_move (x := .d (.v _)) rfl) ?_
  refine rg_q (q_callG en28 (.cons rfl (.cons rfl .nil)) rfl hG (split_p _ (by omega))) ?_
  refine rg_q (q_assign (x := .d (.sl _ _)) rfl) ?_
  refine rg_nil ?_
  refine aops_nil ?_
  change Awp _ _ _ _ _
  refine awp_seq ?_
  refine awp_region 8 mixed (by kernel_rfl) ?_
  refine rg_q (q_move (x := .d (.sl _ _)) rfl) ?_
  refine rg_q (q_slice sl86 rfl rfl rfl (by simp only [List.length_map]; omega) (by simp only [List.length_map]; omega) (by exact map_slice _ _ _ _)) ?_
  rw [show (List.map strC (pcs s)).length = (pcs s).length from List.length_map _, List.take_length]
  refine rg_q (q_callG en27 (.cons rfl (.cons rfl .nil)) rfl hG (wnums_p ((pcs s).drop 1) 5 hpl hps)) ?_
  refine rg_q (q_move (x := .d (.tup _)) rfl) ?_
  refine rg_q (q_extract rfl rfl) ?_
  refine rg_q (q_extract rfl rfl) ?_
  refine rg_q (q_assign (x := .d (.sl _ _)) rfl) ?_
  refine rg_q (q_assign (x := .d (.v _)) rfl) ?_
  refine rg_nil ?_
  refine aops_nil ?_
  change Awp _ _ _ _ _
  refine awp_seq ?_
  refine awp_seq ?_
  refine awp_region 22 mixed (by kernel_rfl) ?_
  refine rg_q (q_move (x := .d (.v _)) rfl) ?_
  refine rg_q (q_not rfl) ?_
  refine rg_q (q_move (x := .d (.v _)) rfl) ?_
  refine rg_g rfl rfl (fun hG => (q_move (x := .d (.sl _ _)) rfl)) ?_
  refine rg_g rfl rfl (fun hG => (q_indexAddr sl86 rfl rfl (by (have hg0 := T.bool_inj (a := _) hG.1; (try simp only [nb, ne_eq] at hg0); omega)) (map_at (k := 0) (by omega) hx0))) ?_
  refine rg_g rfl rfl (fun hG => (q_load sz9 rfl rfl)) ?_
  refine rg_g rfl rfl (fun hG => (q_neqs rfl rfl)) ?_
  refine rg_pick rfl rfl rfl rfl rfl rfl ?_
  refine rg_q (q_move (x := .d (.v _)) rfl) ?_
  refine rg_g rfl rfl (fun hG => (q_move (x := .d (.sl _ _)) rfl)) ?_
  refine rg_g rfl rfl (fun hG => (q_indexAddr sl26 rfl rfl (by (have hg0 := T.bool_inj (a := _) hG.1; (try simp only [nb, ne_eq] at hg0); omega)) (map_at (k := 2) (by omega) (numR_five (by have h := T.bool_inj (a := _) hG.1; simp only [nb, ne_eq] at h; exact h.1) 2 (by decide))))) ?_
  refine rg_g rfl rfl (fun hG => (q_load sz3 rfl rfl)) ?_
  refine rg_g rfl rfl (fun hG => (q_call en43 (.cons rfl (.cons rfl (.cons rfl .nil))) rfl (fwithin_p _ _ _))) ?_
  refine rg_g rfl rfl (fun hG => (q_not rfl)) ?_
  refine rg_pick rfl rfl rfl rfl rfl rfl ?_
  refine rg_q (q_move (x := .d (.v _)) rfl) ?_
  refine rg_g rfl rfl (fun hG => (q_move (x := .d (.sl _ _)) rfl)) ?_
  refine rg_g rfl rfl (fun hG => (q_indexAddr sl26 rfl rfl (by (have hg0 := T.bool_inj (a := _) hG.1; (try simp only [nb, ne_eq] at hg0); omega)) (map_at (k := 3) (by omega) (numR_five (by have h := T.bool_inj (a := _) hG.1; simp only [nb, ne_eq] at h; exact h.1.1) 3 (by decide))))) ?_
  refine rg_g rfl rfl (fun hG => (q_load sz3 rfl rfl)) ?_
  refine rg_g rfl rfl (fun hG => (q_call en43 (.cons rfl (.cons rfl (.cons rfl .nil))) rfl (fwithin_p _ _ _))) ?_
  refine rg_g rfl rfl (fun hG => (q_not rfl)) ?_
  refine rg_pick rfl rfl rfl rfl rfl rfl ?_
  refine rg_nil ?_
  refine aops_nil ?_
  change Awp _ _ _ _ _
  refine awp_cond rfl (fun hc3 => ?_) (fun hc3 => ?_)
  ·
    (try simp only [nb, ne_eq] at hc3)
    have hb : gdB (pcs s) = false := by
      unfold gdB
      rcases hc3 with ((q | q) | q) | q
      · rw [q]; rfl
      · rw [decide_eq_false (show ¬ (pcs s).getD 0 ⟨#[]⟩ = grdS from q)]; simp only [Bool.false_and, Bool.and_false]
      · rw [q]; simp only [Bool.false_and, Bool.and_false]
      · rw [q]; simp only [Bool.false_and, Bool.and_false]
    have hz : gdR s = (zG, false) := by unfold gdR; rw [hb]; rfl
    refine awp_seq ?_
    refine awp_region 1 mixed (by kernel_rfl) ?_
    refine rg_q (q_build (cs := [_, _, _, _, _]) pl25 zr25 rfl .nil trivial rfl) ?_
    refine rg_nil ?_
    refine aops_store sz25 rfl rfl (by exact .inr ⟨_, rfl⟩) rfl rfl (by decide) rfl ?_
    refine aops_q rfl (q_assign (x := .d (.v _)) rfl) ?_
    refine aops_nil ?_
    change Awp _ _ _ _ _
    refine awp_ret ?_
    refine ⟨_, (.cons (.cellA rfl rfl sz25 rfl) (.cons (.tmp (by exact .d _)) .nil)), ?_⟩
    rw [hz]; rfl
  ·
    (try simp only [nb, ne_eq] at hc3)
    obtain ⟨⟨⟨hok, q2⟩, q3⟩, q4⟩ := hc3
    have hb : gdB (pcs s) = true := by
      unfold gdB
      rw [hok, q3, q4, decide_eq_true (show (pcs s).getD 0 ⟨#[]⟩ = grdS from q2)]; rfl
    have hz : gdR s = (gdV (numR ((pcs s).drop 1) 5).1, true) := by unfold gdR; rw [hb]; rfl
    refine awp_skip ?_
    change Awp _ _ _ _ _
    refine awp_seq ?_
    refine awp_region 17 mixed (by kernel_rfl) ?_
    refine rg_q (q_move (x := .d (.sl _ _)) rfl) ?_
    refine rg_q (q_indexAddr sl26 rfl rfl (by omega) (map_at (k := 0) (by omega) (numR_five hok 0 (by decide)))) ?_
    refine rg_q (q_load sz3 rfl rfl) ?_
    refine rg_q (q_move (x := .d (.sl _ _)) rfl) ?_
    refine rg_q (q_indexAddr sl26 rfl rfl (by omega) (map_at (k := 1) (by omega) (numR_five hok 1 (by decide)))) ?_
    refine rg_q (q_load sz3 rfl rfl) ?_
    refine rg_q (q_build (cs := [_, _]) pl23 zr23 rfl (.cons rfl (by exact .inl rfl) (.cons rfl (by exact .inl rfl) .nil)) ⟨⟨rfl, by decide⟩, ⟨rfl, by decide⟩, trivial⟩ rfl) ?_
    refine rg_q (q_move (x := .d (.sl _ _)) rfl) ?_
    refine rg_q (q_indexAddr sl26 rfl rfl (by omega) (map_at (k := 2) (by omega) (numR_five hok 2 (by decide)))) ?_
    refine rg_q (q_load sz3 rfl rfl) ?_
    refine rg_q (q_move (x := .d (.sl _ _)) rfl) ?_
    refine rg_q (q_indexAddr sl26 rfl rfl (by omega) (map_at (k := 3) (by omega) (numR_five hok 3 (by decide)))) ?_
    refine rg_q (q_load sz3 rfl rfl) ?_
    refine rg_q (q_move (x := .d (.sl _ _)) rfl) ?_
    refine rg_q (q_indexAddr sl26 rfl rfl (by omega) (map_at (k := 4) (by omega) (numR_five hok 4 (by decide)))) ?_
    refine rg_q (q_load sz3 rfl rfl) ?_
    refine rg_q (q_build (cs := [_, _, _, _, _]) pl25 zr25 rfl (.cons rfl (by exact .inr ⟨_, rfl⟩) (.cons rfl (by exact .inl rfl) (.cons rfl (by exact .inl rfl) (.cons rfl (by exact .inl rfl) .nil)))) ⟨⟨rfl, by decide⟩, ⟨rfl, by decide⟩, ⟨rfl, by decide⟩, ⟨rfl, by decide⟩, trivial⟩ rfl) ?_
    refine rg_nil ?_
    refine aops_store sz25 rfl rfl (by exact .inr ⟨_, rfl⟩) rfl rfl (by decide) rfl ?_
    refine aops_q rfl (q_assign (x := .d (.v _)) rfl) ?_
    refine aops_nil ?_
    change Awp _ _ _ _ _
    refine awp_ret ?_
    refine ⟨_, (.cons (.cellA rfl rfl sz25 rfl) (.cons (.tmp (by exact .d _)) .nil)), ?_⟩
    rw [hz]; rfl
end Go.Proofs.YtcdccdcbfbakfaaGreatDoor.Am.M
