/- Contracts over the abstract machine: a law from a text: the reference, LawTexts. Conditions: none. -/
import Derived.Test.YtgeieocphgnipaaGreatDoorG32
set_option linter.unusedVariables false
set_option linter.unusedSimpArgs false
-- mini
namespace Go.Proofs.YtgeieocphgnipaaGreatDoor.Am.M
open Go

def ck0 (s : ByteArray) (k : Nat) : Int := if k = 0 then 0 else (numI (pc0 s)).1
theorem drop1_snoc {P : List ByteArray} {k : Nat} {y : ByteArray} (h : P[k]? = some y) (hk : 1 ≤ k) : (P.take (k + 1)).drop 1 = (P.take k).drop 1 ++ [y] := by
  obtain ⟨hlt, hx⟩ := List.getElem?_eq_some_iff.1 h
  rw [List.take_succ_eq_append_getElem hlt, hx, List.drop_append_of_le_length (by rw [List.length_take]; omega)]
theorem drop1_one (P : List ByteArray) : (P.take (0 + 1)).drop 1 = (P.take 0).drop 1 := by cases P <;> rfl
set_option maxRecDepth 100000 in
theorem rparseLaw_p (s : ByteArray) (hs : s.size ≤ 100000) : PC Tryz.prog 77 [.v (.string (s))] (.tup [.agg (dlyC (prsR s).1), .v (.int .i64 ((prsR s).2))]) := by
  obtain ⟨pl1, pl2⟩ := pcs_len s
  obtain ⟨x0, hx0⟩ : ∃ x0, (pcs s)[0]? = some x0 := ⟨_, List.getElem?_eq_getElem (by omega)⟩
  have hp0 : pc0 s = x0 := by unfold pc0; rw [List.getD_eq_getElem?_getD, hx0]; rfl
  subst hp0
  refine pc_of_awpN Tryz.func77 rfl Tryz.ntmps77 (rs := [.cell 2 33, .tmp 3]) Tryz.results77 (by simp) fun w0 hmine hrnd hpn => ?_
  refine awp_seq ?_
  refine awp_region 0 mixed (by kernel_rfl) ?_
  refine rg_nil ?_
  refine aops_alloc zr33 rfl rfl rfl ?_
  refine aops_q rfl (q_assign (x := .d (.v _)) rfl) ?_
  refine aops_nil ?_
  change Awp _ _ _ _ _
  refine awp_seq ?_
  refine awp_region 0 mixed (by kernel_rfl) ?_
  refine rg_nil ?_
  refine aops_alloc zr33 rfl rfl rfl ?_
  refine aops_nil ?_
  change Awp _ _ _ _ _
  refine awp_seq ?_
  refine awp_region 3 mixed (by kernel_rfl) ?_
  refine rg_q (q_move (x := .d (.v _)) rfl) ?_
  refine rg_q (q_call en127 (.cons rfl (.cons rfl .nil)) rfl ((by have h := cut_p s (by omega); rw [← pcs_cut] at h; exact h))) ?_
  refine rg_q (q_assign (x := .d (.sl _ _)) rfl) ?_
  refine rg_nil ?_
  refine aops_nil ?_
  change Awp _ _ _ _ _
  refine awp_seq ?_
  refine awp_seq ?_
  refine Awp.le (le_ownB 4 31 1 3 1 rfl rfl rfl) ?_
  refine awp_region 1 mixed (by kernel_rfl) ?_
  refine rg_q (q_assign (x := .d (.v _)) rfl) ?_
  refine rg_nil ?_
  refine aops_nil ?_
  change Awp _ _ _ _ _
  refine awp_block ?_
  refine awp_loopH [3, 6, 7, 8, 13, 14, 15, 16, 17, 18, 19, 20, 21, 22, 23, 24, 25, 26, 27, 28, 29, 30, 31, 32, 33, 34, 35, 36, 37, 38, 39, 40, 41, 42, 43, 44, 45, 46, 47, 48, 49, 50, 51, 52, 53, 54, 55, 56, 57, 58, 59, 60, 61] [4, 31] (α := Nat) (fun k => [(6, T.i (k : Int))]) (fun k => [(4, .tbox [.d (.v (.int .i64 (ck0 s k))), .rs 31]), (31, .row 3 1 ((((pcs s).take k).drop 1).map fun x => iC (tkV x)))]) (fun k => k ≤ (pcs s).length ∧ (1 ≤ k → (numI (pc0 s)).2 = true) ∧ ∀ x ∈ ((pcs s).take k).drop 1, tkS x ≠ none) (fun k => (pcs s).length - k) 0 ⟨Nat.zero_le _, fun h => absurd h (by decide), fun x hx => by cases hx⟩ ?_ ?_
  · exact le_head (ms := [4, 31]) (by repeat (exact Out.refl _)) ⟨(by rfl), trivial⟩ ⟨(by rfl), (by rfl), trivial⟩ rfl rfl rfl rfl
  ·
    intro k ⟨hk, hone, hall⟩
    refine awp_seq ?_
    refine awp_seq ?_
    refine awp_region 4 mixed (by kernel_rfl) ?_
    refine rg_q (q_move (x := .d (.v _)) rfl) ?_
    refine rg_q (q_move (x := .d (.sl _ _)) rfl) ?_
    refine rg_q (q_len isl168 rfl (by exact len_map _ _)) ?_
    refine rg_q (q_lss rfl rfl) ?_
    refine rg_nil ?_
    refine aops_nil ?_
    change Awp _ _ _ _ _
    refine awp_len (t := 14) rfl (fun hl14 => ?_)
    (try simp only [List.length_map] at hl14)
    refine awp_cond rfl (fun hc4 => ?_) (fun hc4 => ?_)
    ·
      (try simp only [decide_eq_true_eq, decide_eq_false_iff_not, Bool.and_eq_true, Bool.or_eq_true, Bool.and_eq_false_iff, Bool.or_eq_false_iff, Bool.not_eq_true', Bool.not_eq_false', Bool.not_true, Bool.not_false, bif_and, bif_or, Bool.not_not, ne_eq, Decidable.not_not, not_true_eq_false, not_false_eq_true, Int.not_le, Int.not_lt] at hc4)
      try simp only [List.length_map] at hc4
      have hlt : k < (pcs s).length := by omega
      obtain ⟨y, hy⟩ : ∃ y, (pcs s)[k]? = some y := ⟨_, List.getElem?_eq_getElem hlt⟩
      have hys := pcs_le (List.mem_of_getElem? hy)
      have hln : (((pcs s).take k).drop 1).length ≤ 100001 := by rw [List.length_drop, List.length_take]; omega
      obtain ⟨nt1, nt2⟩ := num_tie y
      refine awp_skip ?_
      change Awp _ _ _ _ _
      refine awp_seq ?_
      refine awp_block ?_
      refine awp_seq ?_
      refine awp_seq ?_
      refine awp_region 9 mixed (by kernel_rfl) ?_
      refine rg_q (q_move (x := .d (.v _)) rfl) ?_
      refine rg_q (q_gtr rfl rfl) ?_
      refine rg_q (q_move (x := .d (.v _)) rfl) ?_
      refine rg_g rfl rfl (fun hG => (q_move (x := .d (.sl _ _)) rfl)) ?_
      refine rg_g rfl rfl (fun hG => (q_move (x := .d (.v _)) rfl)) ?_
      refine rg_g rfl rfl (fun hG => (q_indexAddr sl168 rfl rfl (by (have hg0 := T.bool_inj (a := _) hG.1; (try simp only [decide_eq_true_eq, decide_eq_false_iff_not, Bool.and_eq_true, Bool.or_eq_true, Bool.and_eq_false_iff, Bool.or_eq_false_iff, Bool.not_eq_true', Bool.not_eq_false', Bool.not_true, Bool.not_false, bif_and, bif_or, Bool.not_not, ne_eq, Decidable.not_not, not_true_eq_false, not_false_eq_true, Int.not_le, Int.not_lt] at hg0); omega)) (map_at (k := k) (by (have hg0 := T.bool_inj (a := _) hG.1; (try simp only [decide_eq_true_eq, decide_eq_false_iff_not, Bool.and_eq_true, Bool.or_eq_true, Bool.and_eq_false_iff, Bool.or_eq_false_iff, Bool.not_eq_true', Bool.not_eq_false', Bool.not_true, Bool.not_false, bif_and, bif_or, Bool.not_not, ne_eq, Decidable.not_not, not_true_eq_false, not_false_eq_true, Int.not_le, Int.not_lt] at hg0); omega)) hy))) ?_
      refine rg_g rfl rfl (fun hG => (q_load sz9 rfl rfl)) ?_
      refine rg_g rfl rfl (fun hG => (q_eqls rfl rfl)) ?_
      refine rg_pick rfl rfl rfl rfl rfl rfl ?_
      refine rg_nil ?_
      refine aops_nil ?_
      change Awp _ _ _ _ _
      refine awp_cond rfl (fun hc6 => ?_) (fun hc6 => ?_)
      ·
        (try simp only [decide_eq_true_eq, decide_eq_false_iff_not, Bool.and_eq_true, Bool.or_eq_true, Bool.and_eq_false_iff, Bool.or_eq_false_iff, Bool.not_eq_true', Bool.not_eq_false', Bool.not_true, Bool.not_false, bif_and, bif_or, Bool.not_not, ne_eq, Decidable.not_not, not_true_eq_false, not_false_eq_true, Int.not_le, Int.not_lt] at hc6)
        obtain ⟨hk0, hyd0⟩ := hc6
        have hk1 : 1 ≤ k := by omega
        have hyd : y = dsh := hyd0
        have hyt : tkS y = some (-1) := by unfold tkS; rw [if_pos hyd]
        have hyv : tkV y = -1 := by unfold tkV; rw [hyt]; rfl
        have hone2 := hone hk1
        have hck : ck0 s k = ck0 s (k + 1) := by unfold ck0; rw [if_neg (by omega), if_neg (by omega)]
        have hd1 := drop1_snoc hy hk1
        have hsk : ((((pcs s).take (k + 1)).drop 1).map fun x => iC (tkV x)) = ((((pcs s).take k).drop 1).map fun x => iC (tkV x)) ++ [[.v (.int .i64 (-1))]] := by rw [hd1, List.map_append]; simp [hyv, iC]
        refine awp_seq ?_
        refine awp_region 3 mixed (by kernel_rfl) ?_
        refine rg_q (q_fieldAddr_ref fld33_1 rfl) ?_
        refine rg_q (q_load_tb (x := .rs _) sz31 rfl rfl rfl) ?_
        refine rg_q (q_buildSlice sl31 zr3 rfl rfl (by decide) (.cons rfl (by exact .inl rfl) .nil) ⟨rfl, rfl, trivial⟩ rfl (by decide) rfl) ?_
        refine rg_nil ?_
        refine aops_append sl31 zr3 by3 rfl (by decide) rfl rfl rfl rfl (by (try simp only [List.length_map, List.length_append, List.length_cons, List.length_nil]); omega) (by (try simp only [List.length_map, List.length_append, List.length_cons, List.length_nil]); omega) rfl rfl ?_
        refine aops_q rfl (q_fieldAddr_ref fld33_1 rfl) ?_
        refine aops_storeT (z := .rs _) sz31 rfl rfl rfl rfl (by simp) rfl ?_
        refine aops_nil ?_
        change Awp _ _ _ _ _
        refine awp_exit ?_
        change Awp _ _ _ _ _
        refine awp_region 3 mixed (by kernel_rfl) ?_
        refine rg_q (q_move (x := .d (.v _)) rfl) ?_
        refine rg_q (q_add rfl rfl (In64.mk (by omega) (by omega))) ?_
        refine rg_q (q_assign (x := .d (.v _)) rfl) ?_
        refine rg_nil ?_
        refine aops_nil ?_
        have hall2 : ∀ x ∈ ((pcs s).take (k + 1)).drop 1, tkS x ≠ none := fun x hx => by
          rw [hd1] at hx
          rcases List.mem_append.1 hx with hx | hx
          · exact hall x hx
          · rw [List.mem_singleton.1 hx, hyt]; simp
        refine ⟨k + 1, ⟨by omega, fun _ => hone2, hall2⟩, by omega, ?_⟩
        exact le_head (ms := [4, 31]) (by repeat (first | exact Out.head rfl rfl | (refine Out.put ?_ rfl) | (refine Out.site ?_ rfl) | (refine Out.killS ?_ rfl))) ⟨(by rfl), trivial⟩ ⟨(by ((show Site.tbox [T.d (.v (.int .i64 _)), _] = Site.tbox [T.d (.v (.int .i64 _)), _]; rw [hck]))), (by ((show Site.row 3 1 (_ ++ [_]) = Site.row 3 1 _; rw [hsk]; rfl))), trivial⟩ rfl rfl rfl rfl
      ·
        (try simp only [decide_eq_true_eq, decide_eq_false_iff_not, Bool.and_eq_true, Bool.or_eq_true, Bool.and_eq_false_iff, Bool.or_eq_false_iff, Bool.not_eq_true', Bool.not_eq_false', Bool.not_true, Bool.not_false, bif_and, bif_or, Bool.not_not, ne_eq, Decidable.not_not, not_true_eq_false, not_false_eq_true, Int.not_le, Int.not_lt] at hc6)
        have hnd : 0 < k → y ≠ dsh := fun h e => by
          rcases hc6 with q | q
          · omega
          · exact q e
        refine awp_skip ?_
        change Awp _ _ _ _ _
        refine awp_seq ?_
        refine awp_region 10 mixed (by kernel_rfl) ?_
        refine rg_q (q_move (x := .d (.sl _ _)) rfl) ?_
        refine rg_q (q_move (x := .d (.v _)) rfl) ?_
        refine rg_q (q_indexAddr sl168 rfl rfl (by omega) (map_at (by omega) hy)) ?_
        refine rg_q (q_load sz9 rfl rfl) ?_
        refine rg_q (q_call en128 (.cons rfl (.cons rfl .nil)) rfl (rnumber_p y (by omega))) ?_
        refine rg_q (q_move (x := .d (.tup _)) rfl) ?_
        refine rg_q (q_extract rfl rfl) ?_
        refine rg_q (q_extract rfl rfl) ?_
        refine rg_q (q_assign (x := .d (.v _)) rfl) ?_
        refine rg_q (q_assign (x := .d (.v _)) rfl) ?_
        refine rg_nil ?_
        refine aops_nil ?_
        change Awp _ _ _ _ _
        refine awp_seq ?_
        refine awp_seq ?_
        refine awp_region 10 mixed (by kernel_rfl) ?_
        refine rg_q (q_move (x := .d (.v _)) rfl) ?_
        refine rg_q (q_not rfl) ?_
        refine rg_q (q_move (x := .d (.v _)) rfl) ?_
        refine rg_g rfl rfl (fun hG => (q_move (x := .d (.v _)) rfl)) ?_
        refine rg_g rfl rfl (fun hG => (q_gtr rfl rfl)) ?_
        refine rg_g rfl rfl (fun hG => (q_move (x := .d (.v _)) rfl)) ?_
        refine rg_g rfl rfl (fun hG => (q_move (x := .d (.v _)) rfl)) ?_
        refine rg_g rfl rfl (fun hG => (q_lss rfl rfl)) ?_
        refine rg_pickg rfl rfl rfl rfl rfl rfl rfl rfl ?_
        refine rg_pick rfl rfl rfl rfl rfl rfl ?_
        refine rg_nil ?_
        refine aops_nil ?_
        change Awp _ _ _ _ _
        refine awp_cond rfl (fun hc9 => ?_) (fun hc9 => ?_)
        ·
          (try simp only [decide_eq_true_eq, decide_eq_false_iff_not, Bool.and_eq_true, Bool.or_eq_true, Bool.and_eq_false_iff, Bool.or_eq_false_iff, Bool.not_eq_true', Bool.not_eq_false', Bool.not_true, Bool.not_false, bif_and, bif_or, Bool.not_not, ne_eq, Decidable.not_not, not_true_eq_false, not_false_eq_true, Int.not_le, Int.not_lt] at hc9)
          have hz : prsR s = (⟨0, []⟩, 7) := by
            unfold prsR
            rw [if_pos]
            rcases Nat.eq_zero_or_pos k with e | e
            · left
              subst e
              rw [hx0] at hy
              obtain rfl := Option.some.inj hy
              rw [nt1]
              rcases hc9 with q | ⟨q, _⟩
              · exact q
              · omega
            · right
              refine ⟨y, ?_, ?_⟩
              · unfold pcr
                rw [List.take_length]
                refine List.mem_iff_getElem?.2 ⟨k - 1, ?_⟩
                rw [List.getElem?_drop, show 1 + (k - 1) = k by omega]; exact hy
              · unfold tkS
                rw [if_neg (hnd e), if_neg]
                rintro ⟨q1, q2⟩
                rw [nt1] at q1
                rcases hc9 with q | ⟨_, q⟩
                · rw [q1] at q; cases q
                · rw [nt2 q1] at q2; omega
          refine awp_seq ?_
          refine awp_region 1 mixed (by kernel_rfl) ?_
          refine rg_q (q_build (cs := [_, _]) pl33 zr33 rfl .nil trivial rfl) ?_
          refine rg_nil ?_
          refine aops_store sz33 rfl rfl (by exact .inr ⟨_, rfl⟩) rfl rfl (by decide) rfl ?_
          refine aops_q rfl (q_assign (x := .d (.v _)) rfl) ?_
          refine aops_nil ?_
          change Awp _ _ _ _ _
          refine Awp.le (le_upB 2 (dlyC ⟨0, []⟩) rfl (.cons (.same _) (.cons (.nil 1) .nil))) ?_
          refine awp_ret ?_
          refine ⟨_, (.cons (.cellA rfl rfl sz33 rfl) (.cons (.tmp (by exact .d _)) .nil)), ?_⟩
          rw [hz]; rfl
        ·
          (try simp only [decide_eq_true_eq, decide_eq_false_iff_not, Bool.and_eq_true, Bool.or_eq_true, Bool.and_eq_false_iff, Bool.or_eq_false_iff, Bool.not_eq_true', Bool.not_eq_false', Bool.not_true, Bool.not_false, bif_and, bif_or, Bool.not_not, ne_eq, Decidable.not_not, not_true_eq_false, not_false_eq_true, Int.not_le, Int.not_lt] at hc9)
          have hok : (nmL y.data.toList).2 = true := by
            cases h : (nmL y.data.toList).2 with
            | true => rfl
            | false => exfalso; simp [h] at hc9
          have hnv := nt2 hok
          refine awp_skip ?_
          change Awp _ _ _ _ _
          refine awp_seq ?_
          refine awp_region 2 mixed (by kernel_rfl) ?_
          refine rg_q (q_move (x := .d (.v _)) rfl) ?_
          refine rg_q (q_eql rfl rfl) ?_
          refine rg_nil ?_
          refine aops_nil ?_
          change Awp _ _ _ _ _
          refine awp_cond rfl (fun hc11 => ?_) (fun hc11 => ?_)
          ·
            (try simp only [decide_eq_true_eq, decide_eq_false_iff_not, Bool.and_eq_true, Bool.or_eq_true, Bool.and_eq_false_iff, Bool.or_eq_false_iff, Bool.not_eq_true', Bool.not_eq_false', Bool.not_true, Bool.not_false, bif_and, bif_or, Bool.not_not, ne_eq, Decidable.not_not, not_true_eq_false, not_false_eq_true, Int.not_le, Int.not_lt] at hc11)
            have hk0 : k = 0 := by omega
            subst hk0
            rw [hx0] at hy
            obtain rfl := Option.some.inj hy
            have hck : (nmL (pc0 s).data.toList).1 = ck0 s (0 + 1) := by unfold ck0; rw [if_neg (by omega), hnv]
            have hsk : ((((pcs s).take (0 + 1)).drop 1).map fun x => iC (tkV x)) = ((((pcs s).take 0).drop 1).map fun x => iC (tkV x)) := by rw [drop1_one]
            have hone2 : (numI (pc0 s)).2 = true := by rw [nt1, hok]
            have hall2 : ∀ x ∈ ((pcs s).take (0 + 1)).drop 1, tkS x ≠ none := by rw [drop1_one]; exact hall
            refine awp_region 2 mixed (by kernel_rfl) ?_
            refine rg_q (q_move (x := .d (.v _)) rfl) ?_
            refine rg_q (q_fieldAddr_ref fld33_0 rfl) ?_
            refine rg_nil ?_
            refine aops_storeT (z := .d _) sz3 rfl rfl rfl rfl (by simp) rfl ?_
            refine aops_nil ?_
            change Awp _ _ _ _ _
            refine awp_region 3 mixed (by kernel_rfl) ?_
            refine rg_q (q_move (x := .d (.v _)) rfl) ?_
            refine rg_q (q_add rfl rfl (In64.mk (by omega) (by omega))) ?_
            refine rg_q (q_assign (x := .d (.v _)) rfl) ?_
            refine rg_nil ?_
            refine aops_nil ?_
            refine ⟨0 + 1, ⟨by omega, fun _ => hone2, hall2⟩, by omega, ?_⟩
            exact le_head (ms := [4, 31]) (by repeat (first | exact Out.head rfl rfl | (refine Out.put ?_ rfl) | (refine Out.site ?_ rfl))) ⟨(by rfl), trivial⟩ ⟨(by ((show Site.tbox [T.d (.v (.int .i64 _)), _] = Site.tbox [T.d (.v (.int .i64 _)), _]; rw [hck]))), (by ((show Site.row 3 1 _ = Site.row 3 1 _; rw [hsk]; done))), trivial⟩ rfl rfl rfl rfl
          ·
            (try simp only [decide_eq_true_eq, decide_eq_false_iff_not, Bool.and_eq_true, Bool.or_eq_true, Bool.and_eq_false_iff, Bool.or_eq_false_iff, Bool.not_eq_true', Bool.not_eq_false', Bool.not_true, Bool.not_false, bif_and, bif_or, Bool.not_not, ne_eq, Decidable.not_not, not_true_eq_false, not_false_eq_true, Int.not_le, Int.not_lt] at hc11)
            have hk1 : 1 ≤ k := by omega
            have hge : 0 ≤ (nmL y.data.toList).1 := by
              rcases Int.lt_or_le (nmL y.data.toList).1 0 with q | q
              · exfalso; simp [hok] at hc9; omega
              · exact q
            have hyt : tkS y = some (numI y).1 := by unfold tkS; rw [if_neg (hnd (by omega)), if_pos ⟨by rw [nt1, hok], by rw [hnv]; exact hge⟩]
            have hyv : tkV y = (nmL y.data.toList).1 := by unfold tkV; rw [hyt, hnv]; rfl
            have hone2 := hone hk1
            have hck : ck0 s k = ck0 s (k + 1) := by unfold ck0; rw [if_neg (by omega), if_neg (by omega)]
            have hd1 := drop1_snoc hy hk1
            have hsk : ((((pcs s).take (k + 1)).drop 1).map fun x => iC (tkV x)) = ((((pcs s).take k).drop 1).map fun x => iC (tkV x)) ++ [[.v (.int .i64 (nmL y.data.toList).1)]] := by rw [hd1, List.map_append]; simp [hyv, iC]
            refine awp_region 4 mixed (by kernel_rfl) ?_
            refine rg_q (q_fieldAddr_ref fld33_1 rfl) ?_
            refine rg_q (q_load_tb (x := .rs _) sz31 rfl rfl rfl) ?_
            refine rg_q (q_move (x := .d (.v _)) rfl) ?_
            refine rg_q (q_buildSlice sl31 zr3 rfl rfl (by decide) (.cons rfl (by exact .inl rfl) .nil) ⟨rfl, rfl, trivial⟩ rfl (by decide) rfl) ?_
            refine rg_nil ?_
            refine aops_append sl31 zr3 by3 rfl (by decide) rfl rfl rfl rfl (by (try simp only [List.length_map, List.length_append, List.length_cons, List.length_nil]); omega) (by (try simp only [List.length_map, List.length_append, List.length_cons, List.length_nil]); omega) rfl rfl ?_
            refine aops_q rfl (q_fieldAddr_ref fld33_1 rfl) ?_
            refine aops_storeT (z := .rs _) sz31 rfl rfl rfl rfl (by simp) rfl ?_
            refine aops_nil ?_
            change Awp _ _ _ _ _
            refine awp_region 3 mixed (by kernel_rfl) ?_
            refine rg_q (q_move (x := .d (.v _)) rfl) ?_
            refine rg_q (q_add rfl rfl (In64.mk (by omega) (by omega))) ?_
            refine rg_q (q_assign (x := .d (.v _)) rfl) ?_
            refine rg_nil ?_
            refine aops_nil ?_
            have hall2 : ∀ x ∈ ((pcs s).take (k + 1)).drop 1, tkS x ≠ none := fun x hx => by
              rw [hd1] at hx
              rcases List.mem_append.1 hx with hx | hx
              · exact hall x hx
              · rw [List.mem_singleton.1 hx, hyt]; simp
            refine ⟨k + 1, ⟨by omega, fun _ => hone2, hall2⟩, by omega, ?_⟩
            exact le_head (ms := [4, 31]) (by repeat (first | exact Out.head rfl rfl | (refine Out.put ?_ rfl) | (refine Out.site ?_ rfl) | (refine Out.killS ?_ rfl))) ⟨(by rfl), trivial⟩ ⟨(by ((show Site.tbox [T.d (.v (.int .i64 _)), _] = Site.tbox [T.d (.v (.int .i64 _)), _]; rw [hck]))), (by ((show Site.row 3 1 (_ ++ [_]) = Site.row 3 1 _; rw [hsk]; rfl))), trivial⟩ rfl rfl rfl rfl
    ·
      (try simp only [decide_eq_true_eq, decide_eq_false_iff_not, Bool.and_eq_true, Bool.or_eq_true, Bool.and_eq_false_iff, Bool.or_eq_false_iff, Bool.not_eq_true', Bool.not_eq_false', Bool.not_true, Bool.not_false, bif_and, bif_or, Bool.not_not, ne_eq, Decidable.not_not, not_true_eq_false, not_false_eq_true, Int.not_le, Int.not_lt] at hc4)
      try simp only [List.length_map] at hc4
      have hkn : k = (pcs s).length := by omega
      subst hkn
      have hq0 : (numI (pc0 s)).2 = true := hone (by omega)
      have hck2 : ck0 s (pcs s).length = (numI (pc0 s)).1 := by unfold ck0; rw [if_neg (by omega)]
      have hrow : (((pcs s).take (pcs s).length).drop 1).map (fun x => iC (tkV x)) = (prsD s).tk.map iC := by unfold prsD pcr; rw [List.map_map]; rfl
      have hgood : ¬ ((numI (pc0 s)).2 = false ∨ ∃ x ∈ pcr s, tkS x = none) := by
        rintro (q | ⟨x, q1, q2⟩)
        · rw [hq0] at q; cases q
        · exact hall x q1 q2
      refine awp_exit ?_
      change Awp _ _ _ _ _
      refine awp_seq ?_
      refine awp_seq ?_
      refine Awp.le (le_freezeTB 4 31 1 (es := (prsD s).tk.map iC) rfl rfl (by show Site.row _ _ _ = _; rw [hrow]) rfl hmine) ?_
      refine Awp.le (le_boxT 4 (dlyC (prsD s)) rfl (by show [T.d (.v (.int .i64 (ck0 s (pcs s).length))), _] = _; rw [hck2]; rfl) (by intro j d h; match j, h with | 0, h => cases h; rfl | 1, h => cases h; rfl)) ?_
      refine awp_region 7 mixed (by kernel_rfl) ?_
      refine rg_q (q_load_refA (ds := [_, _]) sz33 rfl rfl rfl rfl) ?_
      refine rg_q (q_call en38 (.cons rfl .nil) rfl (rcheckLaw_p (prsD s))) ?_
      refine rg_q (q_move (x := .d (.tup _)) rfl) ?_
      refine rg_q (q_extract rfl rfl) ?_
      refine rg_q (q_extract rfl rfl) ?_
      refine rg_q (q_assign (x := .d (.v _)) rfl) ?_
      refine rg_q (q_assign (x := .d (.v _)) rfl) ?_
      refine rg_nil ?_
      refine aops_nil ?_
      change Awp _ _ _ _ _
      refine awp_seq ?_
      refine awp_region 2 mixed (by kernel_rfl) ?_
      refine rg_q (q_move (x := .d (.v _)) rfl) ?_
      refine rg_q (q_neq rfl rfl) ?_
      refine rg_nil ?_
      refine aops_nil ?_
      change Awp _ _ _ _ _
      refine awp_cond rfl (fun hc15 => ?_) (fun hc15 => ?_)
      ·
        (try simp only [decide_eq_true_eq, decide_eq_false_iff_not, Bool.and_eq_true, Bool.or_eq_true, Bool.and_eq_false_iff, Bool.or_eq_false_iff, Bool.not_eq_true', Bool.not_eq_false', Bool.not_true, Bool.not_false, bif_and, bif_or, Bool.not_not, ne_eq, Decidable.not_not, not_true_eq_false, not_false_eq_true, Int.not_le, Int.not_lt] at hc15)
        have hz : prsR s = (⟨0, []⟩, (ckLaw (prsD s)).2) := by unfold prsR; rw [if_neg hgood, if_pos hc15]
        refine awp_seq ?_
        refine awp_region 2 mixed (by kernel_rfl) ?_
        refine rg_q (q_build (cs := [_, _]) pl33 zr33 rfl .nil trivial rfl) ?_
        refine rg_q (q_move (x := .d (.v _)) rfl) ?_
        refine rg_nil ?_
        refine aops_store sz33 rfl rfl (by exact .inr ⟨_, rfl⟩) rfl rfl (by decide) rfl ?_
        refine aops_q rfl (q_assign (x := .d (.v _)) rfl) ?_
        refine aops_nil ?_
        change Awp _ _ _ _ _
        refine Awp.le (le_upB 2 (dlyC ⟨0, []⟩) rfl (.cons (.same _) (.cons (.nil 1) .nil))) ?_
        refine awp_ret ?_
        refine ⟨_, (.cons (.cellA rfl rfl sz33 rfl) (.cons (.tmp (by exact .d _)) .nil)), ?_⟩
        rw [hz]; rfl
      ·
        (try simp only [decide_eq_true_eq, decide_eq_false_iff_not, Bool.and_eq_true, Bool.or_eq_true, Bool.and_eq_false_iff, Bool.or_eq_false_iff, Bool.not_eq_true', Bool.not_eq_false', Bool.not_true, Bool.not_false, bif_and, bif_or, Bool.not_not, ne_eq, Decidable.not_not, not_true_eq_false, not_false_eq_true, Int.not_le, Int.not_lt] at hc15)
        have hz : prsR s = (prsD s, 0) := by unfold prsR; rw [if_neg hgood, if_neg (fun h => h hc15)]
        refine awp_skip ?_
        change Awp _ _ _ _ _
        refine awp_seq ?_
        refine awp_region 1 mixed (by kernel_rfl) ?_
        refine rg_q (q_load_refA (ds := [_, _]) sz33 rfl rfl rfl rfl) ?_
        refine rg_nil ?_
        refine aops_store sz33 rfl rfl (by exact .inr ⟨_, rfl⟩) rfl rfl (by decide) rfl ?_
        refine aops_q rfl (q_assign (x := .d (.v _)) rfl) ?_
        refine aops_nil ?_
        change Awp _ _ _ _ _
        refine awp_ret ?_
        refine ⟨_, (.cons (.cellA rfl rfl sz33 rfl) (.cons (.tmp (by exact .d _)) .nil)), ?_⟩
        rw [hz]; rfl

theorem dig_not {u : Nat} : (32 : UInt8) ∉ Lib.decDigits u := by
  intro h
  obtain ⟨k, hk⟩ := List.getElem?_of_mem h
  obtain ⟨d, hd⟩ := Lib.digit_of_decFrom _ 0 u (dec_digits u) k 32 hk
  have := (Lib.digitVal_eq hd).1
  exact absurd this (by decide)
theorem itoa_not (n : Int) : (32 : UInt8) ∉ Lib.itoa n := by
  unfold Lib.itoa
  split
  · intro h
    rcases List.mem_cons.1 h with e | e
    · exact absurd e (by decide)
    · exact dig_not e
  · exact dig_not
theorem tkT_not (n : Int) : (32 : UInt8) ∉ tkT n := by
  unfold tkT
  split
  · decide
  · exact itoa_not n
theorem pcs_fmt (l : Dly) : pcs (mkB (fmtL l)) = mkB (Lib.itoa l.ck) :: l.tk.map fun n => mkB (tkT n) := by
  rw [pcs_cut, data_mkB]
  unfold fmtL
  rw [cut_join (itoa_not l.ck) (fun y hy => by obtain ⟨n, _, rfl⟩ := List.mem_map.1 hy; exact tkT_not n), List.map_cons, List.map_map]; rfl
theorem num_itoa {n : Int} (h0 : 0 ≤ n) (h1 : n ≤ 1000000) : numI (mkB (Lib.itoa n)) = (n, true) := by
  obtain ⟨u, rfl⟩ : ∃ u : Nat, n = (u : Int) := ⟨n.toNat, by omega⟩
  have hl : (Lib.decDigits u).length ≤ 9 := by
    rw [Lib.decDigits_length]
    rcases Nat.lt_or_ge u 10 with h | h
    · rw [Lib.nDigits_small h]; omega
    · rcases Nat.lt_or_ge 9 (Lib.nDigits u) with q | q
      · exfalso
        have hp : ∀ k : Nat, ∀ u : Nat, k + 1 ≤ Lib.nDigits u → k = 0 ∨ 10 ^ k ≤ u := by
          intro k
          induction k with
          | zero => intro u _; exact .inl rfl
          | succ k ih =>
            intro u hu
            right
            by_cases hs : u < 10
            · rw [Lib.nDigits_small hs] at hu; omega
            · rw [Lib.nDigits_big hs] at hu
              rw [Nat.pow_succ]
              rcases ih (u / 10) (by omega) with e | e
              · subst e; simp; omega
              · omega
        rcases hp 9 u (by omega) with e | e
        · cases e
        · have : (10 : Nat) ^ 9 = 1000000000 := by decide
          omega
      · exact q
  obtain ⟨b, r, e1, e2, e3, e4⟩ := dd_head u
  have hb45 : b ≠ 45 := fun e => by rw [e] at e2; exact absurd e2 (by decide)
  rw [Lib.itoa_nonneg]
  have hn : negL (Lib.decDigits u) = false := by unfold negL; rw [e1]; simpa using hb45
  have hd : digL (Lib.decDigits u) = Lib.decDigits u := by unfold digL; rw [hn]; rfl
  have hb : ¬ badL (Lib.decDigits u) := by
    unfold badL
    rw [hd]
    rintro (q | q | ⟨q, k⟩)
    · rw [e1] at q; cases q
    · omega
    · rw [e1] at q k
      have := (e4 (by simpa using q)).2
      rw [this] at k; simp at k
  have hm : nmL (Lib.decDigits u) = ((u : Int), true) := by
    unfold nmL
    rw [if_neg hb, hd, dec_digits, hn]; rfl
  rw [num_up (by rw [data_mkB, hm]), data_mkB, hm]
theorem tkS_fmt {n : Int} (h0 : -1 ≤ n) (h1 : n ≤ 1000000) : tkS (mkB (tkT n)) = some n := by
  unfold tkT
  by_cases h : n < 0
  · rw [if_pos h]
    have : mkB [45] = dsh := rfl
    rw [this]
    unfold tkS
    rw [if_pos rfl, show n = -1 by omega]
  · rw [if_neg h]
    unfold tkS
    rw [if_neg, num_itoa (by omega) h1, if_pos ⟨rfl, by omega⟩]
    intro e
    have e2 := mkB_inj (show mkB (Lib.itoa n) = mkB [45] from e)
    obtain ⟨u, rfl⟩ : ∃ u : Nat, n = (u : Int) := ⟨n.toNat, by omega⟩
    rw [Lib.itoa_nonneg] at e2
    obtain ⟨b, r, e1, g2, _, _⟩ := dd_head u
    rw [e1] at e2
    have : b = 45 := (List.cons.inj e2).1
    rw [this] at g2; exact absurd g2 (by decide)
/-- A right law is read back. -/
theorem read_back {l : Dly} (h : (ckLaw l).2 = 0) : prsR (mkB (fmtL l)) = (l, 0) := by
  have hok := (ckLaw_ok h).1
  have hP := pcs_fmt l
  have h0 : pc0 (mkB (fmtL l)) = mkB (Lib.itoa l.ck) := by unfold pc0; rw [hP]; rfl
  have hr : pcr (mkB (fmtL l)) = l.tk.map fun n => mkB (tkT n) := by unfold pcr; rw [List.take_length, hP]; rfl
  have hc1 := hok.c1
  have hc2 := hok.c2
  have hn0 : numI (pc0 (mkB (fmtL l))) = (l.ck, true) := by rw [h0]; exact num_itoa (by omega) (by omega)
  have ht : ∀ n ∈ l.tk, tkS (mkB (tkT n)) = some n := fun n hn => tkS_fmt (hok.tk n hn).1 (hok.tk n hn).2
  have hD : prsD (mkB (fmtL l)) = l := by
    unfold prsD
    rw [hn0, hr, List.map_map]
    have : l.tk.map (tkV ∘ fun n => mkB (tkT n)) = l.tk := by
      conv => rhs; rw [← List.map_id l.tk]
      exact List.map_congr_left fun n hn => by show tkV (mkB (tkT n)) = n; unfold tkV; rw [ht n hn]; rfl
    rw [this]
  unfold prsR
  rw [hn0, hr, if_neg, hD, if_neg (fun q => q h)]
  rintro (q | ⟨x, q1, q2⟩)
  · cases q
  · obtain ⟨n, hn, rfl⟩ := List.mem_map.1 q1
    rw [ht n hn] at q2; cases q2
theorem fmt_size {l : Dly} (h : DlyI l) (hn : l.tk.length ≤ 18) : (mkB (fmtL l)).size ≤ 100000 := by
  rw [mkB_size]
  unfold fmtL
  rw [List.length_append]
  have h1 := itoa_len h.1
  have h2 := tks_len h.2
  omega

theorem wf64 {n : Int} (h : (Lit.int .i64 n).wf = true) : In64 n := by
  have h2 : (decide (IntKind.i64.min ≤ n) && decide (n ≤ IntKind.i64.max)) = true := h
  rw [Bool.and_eq_true, decide_eq_true_eq, decide_eq_true_eq] at h2
  have e1 : IntKind.i64.min = -9223372036854775808 := by decide
  have e2 : IntKind.i64.max = 9223372036854775807 := by decide
  unfold In64
  omega
set_option maxRecDepth 100000 in
theorem lawTexts_p (l : Dly) (s : ByteArray) (h : DlyI l) : PCG Tryz.prog GW 16 [.agg (dlyC l), .v (.string (s))] (.v (.bool (true))) := by
  refine pcg_of_awpN gw_keep Tryz.func16 rfl Tryz.ntmps16 (rs := [.tmp 4]) Tryz.results16 (by simp) fun w0 hmine hrnd hpn hG => ?_
  refine awp_seq ?_
  refine awp_region 2 mixed (by kernel_rfl) ?_
  refine rg_q (q_box rfl (by exact .inr ⟨_, rfl⟩)) ?_
  refine rg_q (q_assign (x := .d (.v _)) rfl) ?_
  refine rg_nil ?_
  refine aops_nil ?_
  change Awp _ _ _ _ _
  refine awp_seq ?_
  refine awp_seq ?_
  refine awp_region 2 mixed (by kernel_rfl) ?_
  refine rg_q (q_callG en17 .nil rfl hG (awake_p)) ?_
  refine rg_q (q_not rfl) ?_
  refine rg_nil ?_
  refine aops_nil ?_
  change Awp _ _ _ _ _
  refine awp_cond rfl (fun hc1 => ?_) (fun hc1 => ?_)
  ·
    simp at hc1
  ·
    (try simp only [decide_eq_true_eq, decide_eq_false_iff_not, Bool.and_eq_true, Bool.or_eq_true, Bool.and_eq_false_iff, Bool.or_eq_false_iff, Bool.not_eq_true', Bool.not_eq_false', Bool.not_true, Bool.not_false, bif_and, bif_or, Bool.not_not, ne_eq, Decidable.not_not, not_true_eq_false, not_false_eq_true, Int.not_le, Int.not_lt] at hc1)
    refine awp_skip ?_
    change Awp _ _ _ _ _
    refine awp_seq ?_
    refine awp_seq ?_
    refine awp_region 10 mixed (by kernel_rfl) ?_
    refine rg_q (q_fieldAddr fld33_1 rfl) ?_
    refine rg_q (q_load sz31 rfl rfl) ?_
    refine rg_q (q_len isl31 rfl (by exact len_map _ _)) ?_
    refine rg_q (q_call en18 (.cons rfl .nil) rfl (few_p _)) ?_
    refine rg_q (q_not rfl) ?_
    refine rg_q (q_move (x := .d (.v _)) rfl) ?_
    refine rg_g rfl rfl (fun hG => (q_move (x := .d (.v _)) rfl)) ?_
    refine rg_g rfl rfl (fun hG => (q_len_str str9 rfl)) ?_
    refine rg_g rfl rfl (fun hG => (q_gtr rfl rfl)) ?_
    refine rg_pick rfl rfl rfl rfl rfl rfl ?_
    refine rg_nil ?_
    refine aops_nil ?_
    change Awp _ _ _ _ _
    refine awp_len (t := 15) rfl (fun hl15 => ?_)
    (try simp only [List.length_map] at hl15)
    refine awp_cond rfl (fun hc3 => ?_) (fun hc3 => ?_)
    ·
      (try simp only [decide_eq_true_eq, decide_eq_false_iff_not, Bool.and_eq_true, Bool.or_eq_true, Bool.and_eq_false_iff, Bool.or_eq_false_iff, Bool.not_eq_true', Bool.not_eq_false', Bool.not_true, Bool.not_false, bif_and, bif_or, Bool.not_not, ne_eq, Decidable.not_not, not_true_eq_false, not_false_eq_true, Int.not_le, Int.not_lt] at hc3)
      refine awp_seq ?_
      refine awp_region 1 mixed (by kernel_rfl) ?_
      refine rg_q (q_assign (x := .d (.v _)) rfl) ?_
      refine rg_nil ?_
      refine aops_nil ?_
      change Awp _ _ _ _ _
      refine awp_ret ?_
      refine ⟨_, (.cons (.tmp (by exact .d _)) .nil), ?_⟩
      rfl
    ·
      (try simp only [decide_eq_true_eq, decide_eq_false_iff_not, Bool.and_eq_true, Bool.or_eq_true, Bool.and_eq_false_iff, Bool.or_eq_false_iff, Bool.not_eq_true', Bool.not_eq_false', Bool.not_true, Bool.not_false, bif_and, bif_or, Bool.not_not, ne_eq, Decidable.not_not, not_true_eq_false, not_false_eq_true, Int.not_le, Int.not_lt] at hc3)
      try simp only [List.length_map] at hc3
      have hn : l.tk.length ≤ 18 := by omega
      have hs : s.size ≤ 200 := by omega
      refine awp_skip ?_
      change Awp _ _ _ _ _
      refine awp_seq ?_
      refine awp_region 4 mixed (by kernel_rfl) ?_
      refine rg_q (q_loadA (ds := [_, _]) sz33 rfl rfl rfl) ?_
      refine rg_q (q_call en26 (.cons rfl .nil) rfl (copyLaw_p _ (by omega))) ?_
      refine rg_q (q_callG en75 (.cons rfl .nil) rfl hG (formatLaw_p l h hn)) ?_
      refine rg_q (q_assign (x := .d (.v _)) rfl) ?_
      refine rg_nil ?_
      refine aops_nil ?_
      change Awp _ _ _ _ _
      refine awp_seq ?_
      refine awp_region 5 mixed (by kernel_rfl) ?_
      refine rg_q (q_move (x := .d (.v _)) rfl) ?_
      refine rg_q (q_callG en76 (.cons rfl .nil) rfl hG (parseLaw_p s (by omega))) ?_
      refine rg_q (q_move (x := .d (.tup _)) rfl) ?_
      refine rg_q (q_extract rfl rfl) ?_
      refine rg_q (q_extract rfl rfl) ?_
      refine rg_nil ?_
      refine aops_alloc zr33 rfl rfl rfl ?_
      refine aops_store sz33 rfl rfl (by exact .inr ⟨_, rfl⟩) rfl rfl (by decide) rfl ?_
      refine aops_q rfl (q_assign (x := .d (.v _)) rfl) ?_
      refine aops_nil ?_
      change Awp _ _ _ _ _
      refine awp_seq ?_
      refine awp_region 5 mixed (by kernel_rfl) ?_
      refine rg_q (q_move (x := .d (.v _)) rfl) ?_
      refine rg_q (q_call en77 (.cons rfl .nil) rfl (rparseLaw_p s (by omega))) ?_
      refine rg_q (q_move (x := .d (.tup _)) rfl) ?_
      refine rg_q (q_extract rfl rfl) ?_
      refine rg_q (q_extract rfl rfl) ?_
      refine rg_nil ?_
      refine aops_alloc zr33 rfl rfl rfl ?_
      refine aops_store sz33 rfl rfl (by exact .inr ⟨_, rfl⟩) rfl rfl (by decide) rfl ?_
      refine aops_q rfl (q_assign (x := .d (.v _)) rfl) ?_
      refine aops_nil ?_
      change Awp _ _ _ _ _
      refine awp_seq ?_
      refine awp_seq ?_
      refine awp_region 15 mixed (by kernel_rfl) ?_
      refine rg_q (q_move (x := .d (.v _)) rfl) ?_
      refine rg_q (q_loadA (ds := [_, _]) sz33 rfl rfl rfl) ?_
      refine rg_q (q_call en78 (.cons rfl .nil) rfl (rformatLaw_p l h hn)) ?_
      refine rg_q (q_neqs rfl rfl) ?_
      refine rg_q (q_move (x := .d (.v _)) rfl) ?_
      refine rg_g rfl rfl (fun hG => (q_move (x := .d (.v _)) rfl)) ?_
      refine rg_g rfl rfl (fun hG => (q_move (x := .d (.v _)) rfl)) ?_
      refine rg_g rfl rfl (fun hG => (q_neq rfl rfl)) ?_
      refine rg_pick rfl rfl rfl rfl rfl rfl ?_
      refine rg_q (q_move (x := .d (.v _)) rfl) ?_
      refine rg_g rfl rfl (fun hG => (q_load_refA (ds := [_, _]) sz33 rfl rfl rfl rfl)) ?_
      refine rg_g rfl rfl (fun hG => (q_load_refA (ds := [_, _]) sz33 rfl rfl rfl rfl)) ?_
      refine rg_g rfl rfl (fun hG => (q_call en24 (.cons rfl (.cons rfl .nil)) rfl (same_p _ _))) ?_
      refine rg_g rfl rfl (fun hG => (q_not rfl)) ?_
      refine rg_pick rfl rfl rfl rfl rfl rfl ?_
      refine rg_nil ?_
      refine aops_nil ?_
      change Awp _ _ _ _ _
      refine awp_cond rfl (fun hc8 => ?_) (fun hc8 => ?_)
      ·
        simp at hc8
      ·
        (try simp only [decide_eq_true_eq, decide_eq_false_iff_not, Bool.and_eq_true, Bool.or_eq_true, Bool.and_eq_false_iff, Bool.or_eq_false_iff, Bool.not_eq_true', Bool.not_eq_false', Bool.not_true, Bool.not_false, bif_and, bif_or, Bool.not_not, ne_eq, Decidable.not_not, not_true_eq_false, not_false_eq_true, Int.not_le, Int.not_lt] at hc8)
        refine awp_skip ?_
        change Awp _ _ _ _ _
        refine awp_seq ?_
        refine awp_region 5 mixed (by kernel_rfl) ?_
        refine rg_q (q_move (x := .d (.v _)) rfl) ?_
        refine rg_q (q_callG en76 (.cons rfl .nil) rfl hG (parseLaw_p (mkB (fmtL l)) (fmt_size h hn))) ?_
        refine rg_q (q_move (x := .d (.tup _)) rfl) ?_
        refine rg_q (q_extract rfl rfl) ?_
        refine rg_q (q_extract rfl rfl) ?_
        refine rg_nil ?_
        refine aops_alloc zr33 rfl rfl rfl ?_
        refine aops_store sz33 rfl rfl (by exact .inr ⟨_, rfl⟩) rfl rfl (by decide) rfl ?_
        refine aops_q rfl (q_assign (x := .d (.v _)) rfl) ?_
        refine aops_nil ?_
        change Awp _ _ _ _ _
        refine awp_seq ?_
        refine awp_region 13 mixed (by kernel_rfl) ?_
        refine rg_q (q_loadA (ds := [_, _]) sz33 rfl rfl rfl) ?_
        refine rg_q (q_call en65 (.cons rfl .nil) rfl (ylawErr_p _)) ?_
        refine rg_q (q_neq rfl rfl) ?_
        refine rg_q (q_move (x := .d (.v _)) rfl) ?_
        refine rg_g rfl rfl (fun hG => (q_move (x := .d (.v _)) rfl)) ?_
        refine rg_g rfl rfl (fun hG => (q_eql rfl rfl)) ?_
        refine rg_g rfl rfl (fun hG => (q_move (x := .d (.v _)) rfl)) ?_
        refine rg_g rfl rfl (fun hG => (q_load_refA (ds := [_, _]) sz33 rfl rfl rfl rfl)) ?_
        refine rg_g rfl rfl (fun hG => (q_loadA (ds := [_, _]) sz33 rfl rfl rfl)) ?_
        refine rg_g rfl rfl (fun hG => (q_call en24 (.cons rfl (.cons rfl .nil)) rfl (same_p _ _))) ?_
        refine rg_pickg rfl rfl rfl rfl rfl rfl rfl rfl ?_
        refine rg_pick rfl rfl rfl rfl rfl rfl ?_
        refine rg_q (q_assign (x := .d (.v _)) rfl) ?_
        refine rg_nil ?_
        refine aops_nil ?_
        change Awp _ _ _ _ _
        refine awp_ret ?_
        refine ⟨_, (.cons (.tmp (by exact .d _)) .nil), ?_⟩
        by_cases hl : (ckLaw l).2 = 0
        · rw [read_back hl]; simp [hl, retD]
        · simp [hl, retD]
end Go.Proofs.YtgeieocphgnipaaGreatDoor.Am.M
