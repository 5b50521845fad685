/- Contracts over the abstract machine: the numbers behind a word: the code. Conditions: none. -/
import Derived.Test.YtkbdnkjjklbddaaGreatDoorB5
set_option linter.unusedVariables false
set_option linter.unusedSimpArgs false
-- mini
set_option maxRecDepth 100000
namespace Go.Proofs.YtkbdnkjjklbddaaGreatDoor.Am.M
open Go
def rnR (w : List ByteArray) : List Int × Bool := if (∃ x ∈ w, (numI x).2 = false) then ([], false) else (w.map fun x => (numI x).1, true)
theorem rnR_bad {w : List ByteArray} {x : ByteArray} (h : x ∈ w) (hx : (numI x).2 = false) : rnR w = ([], false) := by unfold rnR; rw [if_pos ⟨x, h, hx⟩]
theorem rnR_good {w : List ByteArray} (hx : ∀ x ∈ w, (numI x).2 = true) : rnR w = (w.map fun x => (numI x).1, true) := by
  unfold rnR
  rw [if_neg]
  rintro ⟨x, q1, q2⟩
  rw [hx x q1] at q2; cases q2
theorem mkB_eq {l : List UInt8} {s : ByteArray} : mkB l = s ↔ l = s.data.toList := ⟨fun h => by rw [← h, data_mkB], fun h => by rw [h, mkB_data]⟩

theorem nI_bad {y : ByteArray} (h : ((aI y).2 = false ∨ ¬ mkB (Lib.itoa (aI y).1) = y) ∨ (13 : Int) < ((mkB (Lib.trimPrefix y.data.toList [45])).size : Int)) : (numI y).2 = false := by
  rw [(aI_num y).2]
  rcases h with (h | h) | h
  · rw [h]; rfl
  · rw [decide_eq_false (fun e => h (mkB_eq.2 e))]; simp
  · rw [decide_eq_false (show ¬ ((Lib.trimPrefix y.data.toList [45]).length : Int) ≤ 13 by rw [mkB_size] at h; omega)]; simp
theorem nI_good {y : ByteArray} (h : ((aI y).2 = true ∧ mkB (Lib.itoa (aI y).1) = y) ∧ ((mkB (Lib.trimPrefix y.data.toList [45])).size : Int) ≤ 13) : (numI y).2 = true := by
  rw [(aI_num y).2, h.1.1, decide_eq_true (mkB_eq.1 h.1.2), decide_eq_true (show ((Lib.trimPrefix y.data.toList [45]).length : Int) ≤ 13 by have q := h.2; rw [mkB_size] at q; exact q)]; rfl
def nbR (s wd : ByteArray) : List Int × Bool := if (pcs s).getD 0 ⟨#[]⟩ = wd then rnR ((pcs s).drop 1) else ([], false)
theorem numbers13_p (s wd : ByteArray) (hs : s.size ≤ 100000) : PCG Tryz.prog GW 78 [.v (.string (s)), .v (.string (wd))] (.tup [.sl 1 ((nbR s wd).1.map iC), .v (.bool (nbR s wd).2)]) := by
 obtain ⟨pl1, pl2⟩ := pcs_len s
 have hx0 : (pcs s)[0]? = some ((pcs s).getD 0 ⟨#[]⟩) := by rw [List.getD_eq_getElem?_getD, List.getElem?_eq_getElem (by omega)]; rfl
 have hsz : ∀ x ∈ ((pcs s).drop 1), x.size ≤ 100000 := fun x hx => by have := pcs_le (List.mem_of_mem_drop hx); omega
 have hwl : ((pcs s).drop 1).length ≤ 100001 := by rw [List.length_drop]; omega
 refine pcg_of_awpN gw_keep Tryz.func78 rfl Tryz.ntmps78 (rs := [.tmp 4, .tmp 5]) Tryz.results78 (by simp) fun w0 hmine hrnd hpn hG => ?_
 refine awp_seq ?_
 refine xa 2 ?_
 refine rg_q (q_assign (x := .d (.sl _ _)) rfl) (rg_q (q_a rfl) ?_)
 refine rs (xa 3 ?_)
 refine rg_q (q_m rfl) ?_
 refine rg_q (q_callG en105 (.cons rfl (.cons rfl .nil)) rfl hG (split_p _ (by omega))) ?_
 refine rg_q (q_assign (x := .d (.sl _ _)) rfl) ?_
 refine rs (awp_seq ?_)
 refine xa 5 ?_
 refine rg_q (q_move (x := .d (.sl _ _)) rfl) ?_
 refine rg_q (q_indexAddr sl90 rfl rfl (by omega) (map_at (k := 0) (by omega) hx0)) ?_
 refine rg_q (q_load sz9 rfl rfl) (rg_q (q_m rfl) ?_)
 refine rg_q (q_neqs rfl rfl) ?_
 refine xc (awp_cond rfl (fun hc2 => ?_) (fun hc2 => ?_))
 ·
  (try simp only [nb, ne_eq] at hc2)
  have hz : nbR s wd = ([], false) := by unfold nbR; rw [if_neg hc2]
  refine awp_seq ?_
  refine xa 2 ?_
  refine rg_q (q_assign (x := .d (.sl _ _)) rfl) (rg_q (q_a rfl) ?_)
  refine xc (awp_ret ?_)
  refine ⟨_, xk2, ?_⟩
  rw [hz]; rfl
 ·
  (try simp only [nb, ne_eq] at hc2)
  have hq : nbR s wd = rnR ((pcs s).drop 1) := by unfold nbR; rw [if_pos hc2]
  refine awp_skip ?_
  change Awp _ _ _ _ _
  refine awp_seq ?_
  refine xa 1 ?_
  refine rg_q (q_assign_nil) ?_
  refine rn ?_
  change Awp _ _ _ _ _
  refine Awp.le (le_own (k := 7) (e := 3) (sz := 1) rfl rfl) ?_
  refine awp_seq ?_
  refine awp_seq ?_
  refine xa 4 ?_
  refine rg_q (q_move (x := .d (.sl _ _)) rfl) ?_
  refine rg_q (q_slice sl90 rfl rfl rfl (by simp only [List.length_map]; omega) (by simp only [List.length_map]; omega) (by exact map_slice _ _ _ _)) ?_
  rw [show (List.map strC (pcs s)).length = (pcs s).length from List.length_map _, List.take_length]
  refine rg_q (q_len isl90 rfl (by exact len_map _ _)) ?_
  refine rg_q (q_m rfl) ?_
  refine xc (awp_len (t := 20) rfl (fun hl20 => ?_))
  (try simp only [List.length_map] at hl20)
  refine awp_block ?_
  refine awp_loopH [4, 5, 7, 9, 10, 11, 22, 23, 24, 25, 26, 27, 28, 29, 30, 31, 32, 33, 34, 35, 36, 37, 38, 39, 40, 41, 42, 43, 44, 45, 46, 47, 48, 49] [7] (α := Nat) (fun k => [(22, T.i (k : Int)), (7, .rs 7)]) (fun k => [(7, .row 3 1 (((((pcs s).drop 1).take k).map fun x => (numI x).1).map iC))]) (fun k => k ≤ ((pcs s).drop 1).length ∧ ∀ x ∈ ((pcs s).drop 1).take k, (numI x).2 = true) (fun k => ((pcs s).drop 1).length - k) 0 ⟨Nat.zero_le _, fun x hx => by cases hx⟩ ?_ ?_
  · exact xh (ms := [7]) (by repeat (exact Out.refl _)) ⟨(by rfl), (by rfl), trivial⟩ ⟨(by rfl), trivial⟩
  ·
   intro k ⟨hk, hall⟩
   refine awp_seq ?_
   refine xa 1 ?_
   refine rg_q (q_lss rfl rfl) ?_
   refine rs (awp_cond rfl (fun hc6 => ?_) (fun hc6 => ?_))
   ·
    (try simp only [nb, ne_eq] at hc6)
    have hlt : k < ((pcs s).drop 1).length := by (try simp only [List.length_map] at hc6); omega
    obtain ⟨y, hy⟩ : ∃ y, ((pcs s).drop 1)[k]? = some y := ⟨_, List.getElem?_eq_getElem hlt⟩
    have hym := List.mem_of_getElem? hy
    have hys := hsz y hym
    obtain ⟨an1, an2⟩ := aI_num y
    have htk : ((pcs s).drop 1).take (k + 1) = ((pcs s).drop 1).take k ++ [y] := by rw [List.take_succ_eq_append_getElem hlt, (List.getElem?_eq_some_iff.1 hy).2]
    have hln : (((pcs s).drop 1).take k).length ≤ 100001 := by rw [List.length_take]; omega
    refine awp_skip ?_
    change Awp _ _ _ _ _
    refine awp_seq ?_
    refine awp_block ?_
    refine awp_seq ?_
    refine xa 3 ?_
    refine rg_q (q_indexAddr sl90 rfl rfl (by omega) (map_at (by omega) hy)) ?_
    refine rg_q (q_load sz9 rfl rfl) (rg_q (q_a rfl) ?_)
    refine rs (xa 1 ?_)
    refine rg_q (q_m rfl) ?_
    refine rg_nil ?_
    refine aops_callQN (k := 7) en106 hG (atoi_q y (by omega)) (.cons rfl .nil) rfl rfl ?_
    refine aops_q rfl (q_move (x := .own _ _ _ _) rfl) ?_
    refine aops_q rfl (q_extractE0 rfl) ?_
    refine aops_q rfl (q_extractE1 rfl) ?_
    refine aops_q rfl (q_a rfl) ?_
    refine aops_q rfl (q_assign (x := _) rfl) ?_
    refine aops_nil (xq (awp_seq ?_))
    refine xa 14 ?_
    refine rg_q (q_move (x := _) rfl) ?_
    refine rg_q (q_neqErr (by kernel_rfl) rfl) ?_
    refine rg_q (q_m rfl) ?_
    refine rg_g rfl rfl (fun hG => (q_m rfl)) ?_
    refine rg_g rfl rfl (fun hGu => (q_callG en37 (.cons rfl .nil) rfl hG (itoa_p (aI y).1 (aI_in (by have hg0 := T.bool_inj (a := _) hGu.1; simpa using hg0))))) ?_
    refine rg_g rfl rfl (fun hG => (q_m rfl)) ?_
    refine rg_g rfl rfl (fun hG => (q_neqs rfl rfl)) ?_
    refine rg_pick rfl rfl rfl rfl rfl rfl ?_
    refine rg_q (q_m rfl) ?_
    refine rg_g rfl rfl (fun hG => (q_m rfl)) ?_
    refine rg_g rfl rfl (fun hG => (q_call en107 (.cons rfl (.cons rfl .nil)) rfl (trim_p y))) ?_
    refine rg_g rfl rfl (fun hG => (q_len_str str9 rfl)) ?_
    refine rg_g rfl rfl (fun hG => (q_gtr rfl rfl)) ?_
    refine rg_pick rfl rfl rfl rfl rfl rfl ?_
    refine xc (awp_cond rfl (fun hc9 => ?_) (fun hc9 => ?_))
    ·
     (try simp only [nb, ne_eq] at hc9)
     have hbad : (numI y).2 = false := nI_bad hc9
     have hz : rnR ((pcs s).drop 1) = ([], false) := rnR_bad hym hbad
     refine awp_seq ?_
     refine xa 2 ?_
     refine rg_q (q_assign (x := .d (.sl _ _)) rfl) (rg_q (q_a rfl) ?_)
     refine xc (awp_ret ?_)
     refine ⟨_, xk2, ?_⟩
     rw [hq, hz]; rfl
    ·
     (try simp only [nb, ne_eq] at hc9)
     have hgood : (numI y).2 = true := nI_good hc9
     have hsk : (((((pcs s).drop 1).take (k + 1)).map fun x => (numI x).1).map iC) = (((((pcs s).drop 1).take k).map fun x => (numI x).1).map iC) ++ [[.v (.int .i64 (aI y).1)]] := by rw [htk, List.map_append, List.map_append]; simp [iC, an1]
     refine awp_skip ?_
     change Awp _ _ _ _ _
     refine xa 3 ?_
     refine rg_q (q_move (x := .rs _) rfl) (rg_q (q_m rfl) ?_)
     refine rg_q (q_buildSlice sl29 zr3 rfl rfl (by decide) (.cons rfl (by exact .inl rfl) .nil) ⟨rfl, rfl, trivial⟩ rfl (by decide) rfl) ?_
     refine rg_nil ?_
     refine aops_append sl29 zr3 by3 rfl (by decide) rfl rfl rfl rfl (by (try simp only [List.length_map, List.length_append, List.length_cons, List.length_nil]); omega) (by (try simp only [List.length_map, List.length_append, List.length_cons, List.length_nil]); omega) rfl rfl ?_
     refine aops_q rfl (q_assign (x := .rs _) rfl) ?_
     refine aops_nil ?_
     change Awp _ _ _ _ _
     refine xa 2 ?_
     refine rg_q (q_add rfl rfl xi) ?_
     refine rg_q (q_m rfl) ?_
     refine rn ?_
     have hall2 : ∀ x ∈ ((pcs s).drop 1).take (k + 1), (numI x).2 = true := fun x hx => by
      rw [htk] at hx
      rcases List.mem_append.1 hx with hx | hx
      · exact hall x hx
      · rw [List.mem_singleton.1 hx]; exact hgood
     refine ⟨k + 1, ⟨by omega, hall2⟩, by omega, ?_⟩
     exact xh (ms := [7]) (by repeat (first | exact Out.head rfl rfl | (refine Out.put ?_ rfl) | (refine Out.site ?_ rfl) | (refine Out.killS ?_ rfl))) ⟨(by rfl), (by rfl), trivial⟩ ⟨(by (show Site.row 3 1 (_ ++ [_]) = Site.row 3 1 _; rw [hsk]; rfl)), trivial⟩
   ·
    (try simp only [nb, ne_eq] at hc6)
    have hkn : k = ((pcs s).drop 1).length := by (try simp only [List.length_map] at hc6); omega
    subst hkn
    have hz := rnR_good (fun x hx => hall x (by rw [List.take_length]; exact hx))
    refine awp_exit ?_
    change Awp _ _ _ _ _
    refine awp_seq ?_
    refine xa 3 ?_
    refine rg_q (q_move (x := .rs _) rfl) (rg_q (q_assign (x := .rs _) rfl) (rg_q (q_a rfl) ?_))
    refine xc (awp_ret ?_)
    refine ⟨_, (.cons (.tmp (by exact .rs rfl)) xk1), ?_⟩
    rw [hq, hz, List.take_length]; rfl
end Go.Proofs.YtkbdnkjjklbddaaGreatDoor.Am.M
