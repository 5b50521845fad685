/- Contracts over the abstract machine: a flaw is read: ParseFlaw of the code, and the reference. Conditions: none. -/
import Derived.Test.YtkbdnkjjklbddaaGreatDoorB8
set_option linter.unusedVariables false
set_option linter.unusedSimpArgs false
-- mini
set_option maxRecDepth 100000
namespace Go.Proofs.YtkbdnkjjklbddaaGreatDoor.Am.M
open Go
theorem at_of {l : List Int} (j : Nat) (hj : j < l.length) : l[j]? = some (l.getD j 0) := by
  rw [List.getD_eq_getElem?_getD, List.getElem?_eq_getElem hj]; rfl
theorem rwnums_p (w : List ByteArray) (hw : w.length ≤ 100001) (hs : ∀ x ∈ w, x.size ≤ 100000) : PC Tryz.prog 62 [.sl 1 (w.map strC)] (.tup [.sl 1 ((rnR w).1.map iC), .v (.bool (rnR w).2)]) := by
 refine pc_of_awpN Tryz.func62 rfl Tryz.ntmps62 (rs := [.tmp 2, .tmp 3]) Tryz.results62 (by simp) fun w0 hmine hrnd hpn => ?_
 refine awp_seq ?_
 refine xa 2 ?_
 refine rg_q (q_assign (x := .d (.sl _ _)) rfl) (rg_q (q_a rfl) ?_)
 refine rs (xa 1 ?_)
 refine rg_q (q_assign_nil) ?_
 refine rn ?_
 change Awp _ _ _ _ _
 refine Awp.le (le_own (k := 4) (e := 3) (sz := 1) rfl rfl) ?_
 refine awp_seq ?_
 refine awp_seq ?_
 refine xa 1 ?_
 refine rg_q (q_a rfl) ?_
 refine xc (awp_block ?_)
 refine awp_loopH [2, 3, 4, 5, 6, 7, 8, 9, 10, 11, 12, 13, 14, 15, 16, 17, 18, 19, 20, 21, 22, 23, 24, 25, 26, 27] [4] (α := Nat) (fun k => [(5, T.i (k : Int)), (4, .rs 4)]) (fun k => [(4, .row 3 1 (((w.take k).map fun x => (numI x).1).map iC))]) (fun k => k ≤ w.length ∧ ∀ x ∈ w.take k, (numI x).2 = true) (fun k => w.length - k) 0 ⟨Nat.zero_le _, fun x hx => by cases hx⟩ ?_ ?_
 · exact xh (ms := [4]) (by repeat (exact Out.refl _)) ⟨(by rfl), (by rfl), trivial⟩ ⟨(by rfl), trivial⟩
 ·
  intro k ⟨hk, hall⟩
  refine awp_seq ?_
  refine awp_seq ?_
  refine xa 4 ?_
  refine rg_q (q_m rfl) (rg_q (q_move (x := .d (.sl _ _)) rfl) ?_)
  refine rg_q (q_len isl90 rfl (by exact len_map _ _)) ?_
  refine rg_q (q_lss rfl rfl) ?_
  refine xc (awp_len (t := 9) rfl (fun hl9 => ?_))
  (try simp only [List.length_map] at hl9)
  refine awp_cond rfl (fun hc3 => ?_) (fun hc3 => ?_)
  ·
   (try simp only [nb, ne_eq] at hc3)
   have hlt : k < w.length := by (try simp only [List.length_map] at hc3); omega
   obtain ⟨y, hy⟩ : ∃ y, w[k]? = some y := ⟨_, List.getElem?_eq_getElem hlt⟩
   have hym := List.mem_of_getElem? hy
   have hys := hs y hym
   obtain ⟨nt1, nt2⟩ := num_tie y
   have htk : w.take (k + 1) = w.take k ++ [y] := by rw [List.take_succ_eq_append_getElem hlt, (List.getElem?_eq_some_iff.1 hy).2]
   have hln : (w.take k).length ≤ 100001 := by rw [List.length_take]; omega
   refine awp_skip ?_
   change Awp _ _ _ _ _
   refine awp_seq ?_
   refine awp_block ?_
   refine awp_seq ?_
   refine xa 10 ?_
   refine rg_q (q_move (x := .d (.sl _ _)) rfl) (rg_q (q_m rfl) ?_)
   refine rg_q (q_indexAddr sl90 rfl rfl (by omega) (map_at (by omega) hy)) ?_
   refine rg_q (q_load sz9 rfl rfl) ?_
   refine rg_q (q_call en93 (.cons rfl (.cons rfl .nil)) rfl (rnumber_p y (by omega))) ?_
   refine rg_q (q_move (x := .d (.tup _)) rfl) (rg_q (q_extract rfl rfl) (rg_q (q_extract rfl rfl) (rg_q (q_a rfl) (rg_q (q_a rfl) ?_))))
   refine rs (awp_seq ?_)
   refine xa 2 ?_
   refine rg_q (q_m rfl) (rg_q (q_not rfl) ?_)
   refine xc (awp_cond rfl (fun hc6 => ?_) (fun hc6 => ?_))
   ·
    (try simp only [nb, ne_eq] at hc6)
    have hz : rnR w = ([], false) := rnR_bad hym (by rw [nt1]; exact hc6)
    refine awp_seq ?_
    refine xa 2 ?_
    refine rg_q (q_assign (x := .d (.sl _ _)) rfl) (rg_q (q_a rfl) ?_)
    refine xc (awp_ret ?_)
    refine ⟨_, xk2, ?_⟩
    rw [hz]; rfl
   ·
    (try simp only [nb, ne_eq] at hc6)
    have hgood : (numI y).2 = true := by rw [nt1]; exact hc6
    have hnv := nt2 hc6
    have hsk : (((w.take (k + 1)).map fun x => (numI x).1).map iC) = (((w.take k).map fun x => (numI x).1).map iC) ++ [[.v (.int .i64 (nmL y.data.toList).1)]] := by rw [htk, List.map_append, List.map_append]; simp [iC, hnv]
    refine awp_skip ?_
    change Awp _ _ _ _ _
    refine xa 3 ?_
    refine rg_q (q_move (x := .rs _) rfl) (rg_q (q_m rfl) ?_)
    refine rg_q (q_buildSlice sl29 zr3 rfl rfl (by decide) (.cons rfl (by exact .inl rfl) .nil) ⟨rfl, rfl, trivial⟩ rfl (by decide) rfl) ?_
    refine rg_nil ?_
    refine aops_append sl29 zr3 by3 rfl (by decide) rfl rfl rfl rfl (by (try simp only [List.length_map, List.length_append, List.length_cons, List.length_nil]); omega) (by (try simp only [List.length_map, List.length_append, List.length_cons, List.length_nil]); omega) rfl rfl ?_
    refine aops_q rfl (q_assign (x := .rs _) rfl) ?_
    refine aops_nil ?_
    change Awp _ _ _ _ _
    refine xa 3 ?_
    refine rg_q (q_m rfl) ?_
    refine rg_q (q_add rfl rfl xi) ?_
    refine rg_q (q_a rfl) ?_
    refine rn ?_
    have hall2 : ∀ x ∈ w.take (k + 1), (numI x).2 = true := fun x hx => by
     rw [htk] at hx
     rcases List.mem_append.1 hx with hx | hx
     · exact hall x hx
     · rw [List.mem_singleton.1 hx]; exact hgood
    refine ⟨k + 1, ⟨by omega, hall2⟩, by omega, ?_⟩
    exact xh (ms := [4]) (by repeat (first | exact Out.head rfl rfl | (refine Out.put ?_ rfl) | (refine Out.site ?_ rfl) | (refine Out.killS ?_ rfl))) ⟨(by rfl), (by rfl), trivial⟩ ⟨(by (show Site.row 3 1 (_ ++ [_]) = Site.row 3 1 _; rw [hsk]; rfl)), trivial⟩
  ·
   (try simp only [nb, ne_eq] at hc3)
   have hkn : k = w.length := by (try simp only [List.length_map] at hc3); omega
   subst hkn
   have hz := rnR_good (fun x hx => hall x (by rw [List.take_length]; exact hx))
   refine awp_exit ?_
   change Awp _ _ _ _ _
   refine awp_seq ?_
   refine xa 3 ?_
   refine rg_q (q_move (x := .rs _) rfl) (rg_q (q_assign (x := .rs _) rfl) (rg_q (q_a rfl) ?_))
   refine xc (awp_ret ?_)
   refine ⟨_, (.cons (.tmp (by exact .rs rfl)) xk1), ?_⟩
   rw [hz, List.take_length]; rfl

theorem nbR_of {s wd : ByteArray} (h : (pcs s).getD 0 ⟨#[]⟩ = wd) : nbR s wd = rnR ((pcs s).drop 1) := by unfold nbR; rw [if_pos h]
theorem nbR_no {s wd : ByteArray} (h : ¬ (pcs s).getD 0 ⟨#[]⟩ = wd) : nbR s wd = ([], false) := by unfold nbR; rw [if_neg h]
theorem rdB_iff {s wd : ByteArray} {n : Nat} (hn : 0 < n) : rdB s wd n = true ↔ ((rnR ((pcs s).drop 1)).2 = true ∧ (pcs s).getD 0 ⟨#[]⟩ = wd) ∧ ((rnR ((pcs s).drop 1)).1.length : Int) = n := by
  unfold rdB
  by_cases h : (pcs s).getD 0 ⟨#[]⟩ = wd
  · rw [nbR_of h, Bool.and_eq_true, decide_eq_true_eq]
    constructor
    · rintro ⟨h1, h2⟩; exact ⟨⟨h1, h⟩, by omega⟩
    · rintro ⟨⟨h1, _⟩, h2⟩; exact ⟨h1, by omega⟩
  · rw [nbR_no h]
    constructor
    · intro q; simp at q
    · rintro ⟨⟨_, q⟩, _⟩; exact absurd q h
def pfR (s : ByteArray) : Flw × Int := if (flP s).2 = false then (zF 0, 7) else if flwE (flP s).1 ≠ 0 then (zF 0, flwE (flP s).1) else ((flP s).1, 0)
theorem rflawOf_p (s : ByteArray) (hs : s.size ≤ 100000) : PC Tryz.prog 34 [.v (.string (s))] (.tup [.agg (flwC (flP s).1), .v (.bool (flP s).2)]) := by
 obtain ⟨pl1, pl2⟩ := pcs_len s
 have hw0 : (pcs s)[0]? = some ((pcs s).getD 0 ⟨#[]⟩) := by rw [List.getD_eq_getElem?_getD, List.getElem?_eq_getElem (by omega)]; rfl
 have hps : ∀ x ∈ (pcs s).drop 1, x.size ≤ 100000 := fun x hx => by have := pcs_le (List.mem_of_mem_drop hx); omega
 have hpl : ((pcs s).drop 1).length ≤ 100001 := by rw [List.length_drop]; omega
 refine pc_of_awpN Tryz.func34 rfl Tryz.ntmps34 (rs := [.cell 2 39, .tmp 3]) Tryz.results34 (by simp) fun w0 hmine hrnd hpn => ?_
 refine awp_seq ?_
 refine xa 0 ?_
 refine rg_nil ?_
 refine aops_alloc zr39 rfl rfl rfl ?_
 refine aops_q rfl (q_a rfl) ?_
 refine aops_nil (xq (xa 3 ?_))
 refine rg_q (q_m rfl) ?_
 refine rg_q (q_call en46 (.cons rfl (.cons rfl .nil)) rfl ((by have h := cut_p s (by omega); rw [← pcs_cut] at h; exact h))) ?_
 refine rg_q (q_assign (x := .d (.sl _ _)) rfl) ?_
 refine rs (xa 8 ?_)
 refine rg_q (q_move (x := .d (.sl _ _)) rfl) ?_
 refine rg_q (q_slice sl90 rfl rfl rfl (by simp only [List.length_map]; omega) (by simp only [List.length_map]; omega) (by exact map_slice _ _ _ _)) ?_
 rw [show (List.map strC (pcs s)).length = (pcs s).length from List.length_map _, List.take_length]
 refine rg_q (q_call en62 (.cons rfl .nil) rfl (rwnums_p ((pcs s).drop 1) hpl hps)) ?_
 refine rg_q (q_move (x := .d (.tup _)) rfl) (rg_q (q_extract rfl rfl) (rg_q (q_extract rfl rfl) (rg_q (q_assign (x := .d (.sl _ _)) rfl) (rg_q (q_a rfl) ?_))))
 refine rs (awp_seq ?_)
 refine xa 12 ?_
 refine rg_q (q_m rfl) (rg_q (q_m rfl) ?_)
 refine rg_g rfl rfl (fun hG => (q_move (x := .d (.sl _ _)) rfl)) ?_
 refine rg_g rfl rfl (fun hG => (q_indexAddr sl90 rfl rfl (by (have hg0 := T.bool_inj (a := _) hG.1; (try simp only [nb, ne_eq] at hg0); omega)) (map_at (k := 0) (by omega) hw0))) ?_
 refine rg_g rfl rfl (fun hG => (q_load sz9 rfl rfl)) ?_
 refine rg_g rfl rfl (fun hG => (q_eqls rfl rfl)) ?_
 refine rg_pick rfl rfl rfl rfl rfl rfl ?_
 refine rg_q (q_m rfl) ?_
 refine rg_g rfl rfl (fun hG => (q_move (x := .d (.sl _ _)) rfl)) ?_
 refine rg_g rfl rfl (fun hG => (q_len isl29 rfl (by exact len_map _ _))) ?_
 refine rg_g rfl rfl (fun hG => (q_eql rfl rfl)) ?_
 refine rg_pick rfl rfl rfl rfl rfl rfl ?_
 refine xc (awp_cond rfl (fun hc3 => ?_) (fun hc3 => ?_))
 ·
  (try simp only [nb, ne_eq] at hc3)
  (try simp only [List.length_map] at hc3)
  have hb : rdB s porS 3 = true := (rdB_iff (by decide)).2 hc3
  have hl3 : (rnR ((pcs s).drop 1)).1.length = 3 := by have := hc3.2; omega
  have hz : flP s = (⟨0, ((rnR ((pcs s).drop 1)).1.getD 0 0, (rnR ((pcs s).drop 1)).1.getD 1 0), (0, 0), 0, (rnR ((pcs s).drop 1)).1.getD 2 0, 0⟩, true) := by unfold flP; rw [if_pos hb, nbR_of (wd := porS) hc3.1.2]
  refine awp_seq ?_
  refine xa 11 ?_
  refine rg_q (q_move (x := .d (.sl _ _)) rfl) ?_
  refine rg_q (q_indexAddr sl29 rfl rfl (by omega) (map_at (k := 0) (by omega) (at_of 0 (by omega)))) ?_
  refine rg_q (q_load sz3 rfl rfl) (rg_q (q_move (x := .d (.sl _ _)) rfl) ?_)
  refine rg_q (q_indexAddr sl29 rfl rfl (by omega) (map_at (k := 1) (by omega) (at_of 1 (by omega)))) ?_
  refine rg_q (q_load sz3 rfl rfl) ?_
  refine rg_q (q_build (cs := [_, _]) pl37 zr37 rfl (.cons rfl (by exact .inl rfl) (.cons rfl (by exact .inl rfl) .nil)) ⟨⟨rfl, by decide⟩, ⟨rfl, by decide⟩, trivial⟩ rfl) ?_
  refine rg_q (q_move (x := .d (.sl _ _)) rfl) ?_
  refine rg_q (q_indexAddr sl29 rfl rfl (by omega) (map_at (k := 2) (by omega) (at_of 2 (by omega)))) ?_
  refine rg_q (q_load sz3 rfl rfl) ?_
  refine rg_q (q_build (cs := [_, _, _, _, _, _, _, _]) pl39 zr39 rfl (.cons rfl (by exact .inl rfl) (.cons rfl (by exact .inr ⟨_, rfl⟩) (.cons rfl (by exact .inl rfl) .nil))) ⟨⟨rfl, by decide⟩, ⟨rfl, by decide⟩, ⟨rfl, by decide⟩, trivial⟩ rfl) ?_
  refine rg_nil ?_
  refine aops_store sz39 rfl rfl (by exact .inr ⟨_, rfl⟩) rfl rfl (by decide) rfl ?_
  refine aops_q rfl (q_a rfl) ?_
  refine aops_nil ?_
  change Awp _ _ _ _ _
  refine awp_ret ?_
  refine ⟨_, (.cons (.cellA rfl rfl sz39 rfl) xk1), ?_⟩
  rw [hz]; rfl
 ·
  (try simp only [nb, ne_eq] at hc3)
  (try simp only [List.length_map] at hc3)
  have hb : ¬ rdB s porS 3 = true := fun q => by
   obtain ⟨⟨q1, q2⟩, q3⟩ := (rdB_iff (by decide)).1 q
   rcases hc3 with (h | h) | h
   · rw [q1] at h; cases h
   · exact h q2
   · exact h q3
  refine awp_skip ?_
  change Awp _ _ _ _ _
  refine awp_seq ?_
  refine awp_seq ?_
  refine xa 12 ?_
  refine rg_q (q_m rfl) (rg_q (q_m rfl) ?_)
  refine rg_g rfl rfl (fun hG => (q_move (x := .d (.sl _ _)) rfl)) ?_
  refine rg_g rfl rfl (fun hG => (q_indexAddr sl90 rfl rfl (by (have hg0 := T.bool_inj (a := _) hG.1; (try simp only [nb, ne_eq] at hg0); omega)) (map_at (k := 0) (by omega) hw0))) ?_
  refine rg_g rfl rfl (fun hG => (q_load sz9 rfl rfl)) ?_
  refine rg_g rfl rfl (fun hG => (q_eqls rfl rfl)) ?_
  refine rg_pick rfl rfl rfl rfl rfl rfl ?_
  refine rg_q (q_m rfl) ?_
  refine rg_g rfl rfl (fun hG => (q_move (x := .d (.sl _ _)) rfl)) ?_
  refine rg_g rfl rfl (fun hG => (q_len isl29 rfl (by exact len_map _ _))) ?_
  refine rg_g rfl rfl (fun hG => (q_eql rfl rfl)) ?_
  refine rg_pick rfl rfl rfl rfl rfl rfl ?_
  refine xc (awp_cond rfl (fun hc5 => ?_) (fun hc5 => ?_))
  ·
   (try simp only [nb, ne_eq] at hc5)
   (try simp only [List.length_map] at hc5)
   have hb7 : rdB s plaS 7 = true := (rdB_iff (by decide)).2 hc5
   have hl7 : (rnR ((pcs s).drop 1)).1.length = 7 := by have := hc5.2; omega
   have hz : flP s = (⟨1, ((rnR ((pcs s).drop 1)).1.getD 0 0, (rnR ((pcs s).drop 1)).1.getD 1 0), ((rnR ((pcs s).drop 1)).1.getD 2 0, (rnR ((pcs s).drop 1)).1.getD 3 0), (rnR ((pcs s).drop 1)).1.getD 4 0, (rnR ((pcs s).drop 1)).1.getD 5 0, (rnR ((pcs s).drop 1)).1.getD 6 0⟩, true) := by unfold flP; rw [if_neg hb, if_pos hb7, nbR_of (wd := plaS) hc5.1.2]
   refine awp_seq ?_
   refine xa 24 ?_
   refine rg_q (q_move (x := .d (.sl _ _)) rfl) ?_
   refine rg_q (q_indexAddr sl29 rfl rfl (by omega) (map_at (k := 0) (by omega) (at_of 0 (by omega)))) ?_
   refine rg_q (q_load sz3 rfl rfl) (rg_q (q_move (x := .d (.sl _ _)) rfl) ?_)
   refine rg_q (q_indexAddr sl29 rfl rfl (by omega) (map_at (k := 1) (by omega) (at_of 1 (by omega)))) ?_
   refine rg_q (q_load sz3 rfl rfl) ?_
   refine rg_q (q_build (cs := [_, _]) pl37 zr37 rfl (.cons rfl (by exact .inl rfl) (.cons rfl (by exact .inl rfl) .nil)) ⟨⟨rfl, by decide⟩, ⟨rfl, by decide⟩, trivial⟩ rfl) ?_
   refine rg_q (q_move (x := .d (.sl _ _)) rfl) ?_
   refine rg_q (q_indexAddr sl29 rfl rfl (by omega) (map_at (k := 2) (by omega) (at_of 2 (by omega)))) ?_
   refine rg_q (q_load sz3 rfl rfl) (rg_q (q_move (x := .d (.sl _ _)) rfl) ?_)
   refine rg_q (q_indexAddr sl29 rfl rfl (by omega) (map_at (k := 3) (by omega) (at_of 3 (by omega)))) ?_
   refine rg_q (q_load sz3 rfl rfl) ?_
   refine rg_q (q_build (cs := [_, _]) pl37 zr37 rfl (.cons rfl (by exact .inl rfl) (.cons rfl (by exact .inl rfl) .nil)) ⟨⟨rfl, by decide⟩, ⟨rfl, by decide⟩, trivial⟩ rfl) ?_
   refine rg_q (q_move (x := .d (.sl _ _)) rfl) ?_
   refine rg_q (q_indexAddr sl29 rfl rfl (by omega) (map_at (k := 4) (by omega) (at_of 4 (by omega)))) ?_
   refine rg_q (q_load sz3 rfl rfl) (rg_q (q_move (x := .d (.sl _ _)) rfl) ?_)
   refine rg_q (q_indexAddr sl29 rfl rfl (by omega) (map_at (k := 5) (by omega) (at_of 5 (by omega)))) ?_
   refine rg_q (q_load sz3 rfl rfl) (rg_q (q_move (x := .d (.sl _ _)) rfl) ?_)
   refine rg_q (q_indexAddr sl29 rfl rfl (by omega) (map_at (k := 6) (by omega) (at_of 6 (by omega)))) ?_
   refine rg_q (q_load sz3 rfl rfl) ?_
   refine rg_q (q_build (cs := [_, _, _, _, _, _, _, _]) pl39 zr39 rfl (.cons rfl (by exact .inl rfl) (.cons rfl (by exact .inr ⟨_, rfl⟩) (.cons rfl (by exact .inr ⟨_, rfl⟩) (.cons rfl (by exact .inl rfl) (.cons rfl (by exact .inl rfl) (.cons rfl (by exact .inl rfl) .nil)))))) ⟨⟨rfl, by decide⟩, ⟨rfl, by decide⟩, ⟨rfl, by decide⟩, ⟨rfl, by decide⟩, ⟨rfl, by decide⟩, ⟨rfl, by decide⟩, trivial⟩ rfl) ?_
   refine rg_nil ?_
   refine aops_store sz39 rfl rfl (by exact .inr ⟨_, rfl⟩) rfl rfl (by decide) rfl ?_
   refine aops_q rfl (q_a rfl) ?_
   refine aops_nil ?_
   change Awp _ _ _ _ _
   refine awp_ret ?_
   refine ⟨_, (.cons (.cellA rfl rfl sz39 rfl) xk1), ?_⟩
   rw [hz]; rfl
  ·
   (try simp only [nb, ne_eq] at hc5)
   (try simp only [List.length_map] at hc5)
   have hb7 : ¬ rdB s plaS 7 = true := fun q => by
    obtain ⟨⟨q1, q2⟩, q3⟩ := (rdB_iff (by decide)).1 q
    rcases hc5 with (h | h) | h
    · rw [q1] at h; cases h
    · exact h q2
    · exact h q3
   have hz : flP s = (zF 0, false) := by unfold flP; rw [if_neg hb, if_neg hb7]
   refine awp_skip ?_
   change Awp _ _ _ _ _
   refine awp_seq ?_
   refine xa 1 ?_
   refine rg_q (q_build (cs := [_, _, _, _, _, _, _, _]) pl39 zr39 rfl .nil trivial rfl) ?_
   refine rg_nil ?_
   refine aops_store sz39 rfl rfl (by exact .inr ⟨_, rfl⟩) rfl rfl (by decide) rfl ?_
   refine aops_q rfl (q_a rfl) ?_
   refine aops_nil ?_
   change Awp _ _ _ _ _
   refine awp_ret ?_
   refine ⟨_, (.cons (.cellA rfl rfl sz39 rfl) xk1), ?_⟩
   rw [hz]; rfl
theorem parseFlaw_p (s : ByteArray) (hs : s.size ≤ 100000) : PCG Tryz.prog GB 7 [.v (.string (s))] (.tup [.agg (flwC (pfR s).1), .v (.int .i64 ((pfR s).2))]) := by
 refine pcg_of_awpO gb_low Tryz.func7 rfl Tryz.ntmps7 (rs := [.cell 2 39, .tmp 3]) Tryz.results7 (by simp) fun w0 hmine hrnd hpn hGB hNG => ?_
 have hG : ∀ w, ExtM w0 w → GW w := fun w h => (hGB w h).1
 refine awp_seq ?_
 refine xa 0 ?_
 refine rg_nil ?_
 refine aops_alloc zr39 rfl rfl rfl ?_
 refine aops_q rfl (q_a rfl) ?_
 refine aops_nil (xq (xa 5 ?_))
 refine rg_q (q_m rfl) ?_
 refine rg_q (q_callG en28 (.cons rfl .nil) rfl hGB (flaw_p _ (by omega))) ?_
 refine rg_q (q_move (x := .d (.tup _)) rfl) (rg_q (q_extract rfl rfl) (rg_q (q_extract rfl rfl) ?_))
 refine rg_nil ?_
 refine aops_alloc zr39 rfl rfl rfl ?_
 refine aops_store sz39 rfl rfl (by exact .inr ⟨_, rfl⟩) rfl rfl (by decide) rfl ?_
 refine aops_q rfl (q_a rfl) ?_
 refine aops_nil (xq (awp_seq ?_))
 refine xa 2 ?_
 refine rg_q (q_m rfl) (rg_q (q_not rfl) ?_)
 refine xc (awp_cond rfl (fun hc2 => ?_) (fun hc2 => ?_))
 ·
  (try simp only [nb, ne_eq] at hc2)
  have hz : pfR s = (zF 0, 7) := by unfold pfR; rw [if_pos hc2]
  refine awp_seq ?_
  refine xa 1 ?_
  refine rg_q (q_build (cs := [_, _, _, _, _, _, _, _]) pl39 zr39 rfl .nil trivial rfl) ?_
  refine rg_nil ?_
  refine aops_store sz39 rfl rfl (by exact .inr ⟨_, rfl⟩) rfl rfl (by decide) rfl ?_
  refine aops_q rfl (q_a rfl) ?_
  refine aops_nil ?_
  change Awp _ _ _ _ _
  refine awp_ret ?_
  refine ⟨_, (.cons (.cellA rfl rfl sz39 rfl) xk1), ?_⟩
  rw [hz]; rfl
 ·
  (try simp only [nb, ne_eq] at hc2)
  refine awp_skip ?_
  change Awp _ _ _ _ _
  refine awp_seq ?_
  refine awp_seq ?_
  refine xa 3 ?_
  refine rg_q (q_load_refA (ds := [_, _, _, _, _, _, _, _]) sz39 rfl rfl rfl rfl) ?_
  refine rg_q (q_call en29 (.cons rfl .nil) rfl (checkFlaw_p _)) ?_
  refine rg_q (q_a rfl) ?_
  refine rs (xa 2 ?_)
  refine rg_q (q_m rfl) (rg_q (q_neq rfl rfl) ?_)
  refine xc (awp_cond rfl (fun hc5 => ?_) (fun hc5 => ?_))
  ·
   (try simp only [nb, ne_eq] at hc5)
   have hz : pfR s = (zF 0, flwE (flP s).1) := by unfold pfR; rw [if_neg (by rw [hc2]; decide), if_pos hc5]
   refine awp_seq ?_
   refine xa 2 ?_
   refine rg_q (q_build (cs := [_, _, _, _, _, _, _, _]) pl39 zr39 rfl .nil trivial rfl) ?_
   refine rg_q (q_m rfl) ?_
   refine rg_nil ?_
   refine aops_store sz39 rfl rfl (by exact .inr ⟨_, rfl⟩) rfl rfl (by decide) rfl ?_
   refine aops_q rfl (q_a rfl) ?_
   refine aops_nil ?_
   change Awp _ _ _ _ _
   refine awp_ret ?_
   refine ⟨_, (.cons (.cellA rfl rfl sz39 rfl) xk1), ?_⟩
   rw [hz]; rfl
  ·
   (try simp only [nb, ne_eq] at hc5)
   have hz : pfR s = ((flP s).1, 0) := by unfold pfR; rw [if_neg (by rw [hc2]; decide), if_neg (fun h => h hc5)]
   refine awp_skip ?_
   change Awp _ _ _ _ _
   refine awp_seq ?_
   refine xa 1 ?_
   refine rg_q (q_load_refA (ds := [_, _, _, _, _, _, _, _]) sz39 rfl rfl rfl rfl) ?_
   refine rg_nil ?_
   refine aops_store sz39 rfl rfl (by exact .inr ⟨_, rfl⟩) rfl rfl (by decide) rfl ?_
   refine aops_q rfl (q_a rfl) ?_
   refine aops_nil ?_
   change Awp _ _ _ _ _
   refine awp_ret ?_
   refine ⟨_, (.cons (.cellA rfl rfl sz39 rfl) xk1), ?_⟩
   rw [hz]; rfl
theorem rparseFlaw_p (s : ByteArray) (hs : s.size ≤ 100000) : PC Tryz.prog 10 [.v (.string (s))] (.tup [.agg (flwC (pfR s).1), .v (.int .i64 ((pfR s).2))]) := by
 refine pc_of_awpN Tryz.func10 rfl Tryz.ntmps10 (rs := [.cell 2 39, .tmp 3]) Tryz.results10 (by simp) fun w0 hmine hrnd hpn => ?_
 refine awp_seq ?_
 refine xa 0 ?_
 refine rg_nil ?_
 refine aops_alloc zr39 rfl rfl rfl ?_
 refine aops_q rfl (q_a rfl) ?_
 refine aops_nil (xq (xa 5 ?_))
 refine rg_q (q_m rfl) ?_
 refine rg_q (q_call en34 (.cons rfl .nil) rfl (rflawOf_p _ (by omega))) ?_
 refine rg_q (q_move (x := .d (.tup _)) rfl) (rg_q (q_extract rfl rfl) (rg_q (q_extract rfl rfl) ?_))
 refine rg_nil ?_
 refine aops_alloc zr39 rfl rfl rfl ?_
 refine aops_store sz39 rfl rfl (by exact .inr ⟨_, rfl⟩) rfl rfl (by decide) rfl ?_
 refine aops_q rfl (q_a rfl) ?_
 refine aops_nil (xq (awp_seq ?_))
 refine xa 2 ?_
 refine rg_q (q_m rfl) (rg_q (q_not rfl) ?_)
 refine xc (awp_cond rfl (fun hc2 => ?_) (fun hc2 => ?_))
 ·
  (try simp only [nb, ne_eq] at hc2)
  have hz : pfR s = (zF 0, 7) := by unfold pfR; rw [if_pos hc2]
  refine awp_seq ?_
  refine xa 1 ?_
  refine rg_q (q_build (cs := [_, _, _, _, _, _, _, _]) pl39 zr39 rfl .nil trivial rfl) ?_
  refine rg_nil ?_
  refine aops_store sz39 rfl rfl (by exact .inr ⟨_, rfl⟩) rfl rfl (by decide) rfl ?_
  refine aops_q rfl (q_a rfl) ?_
  refine aops_nil ?_
  change Awp _ _ _ _ _
  refine awp_ret ?_
  refine ⟨_, (.cons (.cellA rfl rfl sz39 rfl) xk1), ?_⟩
  rw [hz]; rfl
 ·
  (try simp only [nb, ne_eq] at hc2)
  refine awp_skip ?_
  change Awp _ _ _ _ _
  refine awp_seq ?_
  refine awp_seq ?_
  refine xa 3 ?_
  refine rg_q (q_load_refA (ds := [_, _, _, _, _, _, _, _]) sz39 rfl rfl rfl rfl) ?_
  refine rg_q (q_call en9 (.cons rfl .nil) rfl (rcheckFlaw_p _)) ?_
  refine rg_q (q_a rfl) ?_
  refine rs (xa 2 ?_)
  refine rg_q (q_m rfl) (rg_q (q_neq rfl rfl) ?_)
  refine xc (awp_cond rfl (fun hc5 => ?_) (fun hc5 => ?_))
  ·
   (try simp only [nb, ne_eq] at hc5)
   have hz : pfR s = (zF 0, flwE (flP s).1) := by unfold pfR; rw [if_neg (by rw [hc2]; decide), if_pos hc5]
   refine awp_seq ?_
   refine xa 2 ?_
   refine rg_q (q_build (cs := [_, _, _, _, _, _, _, _]) pl39 zr39 rfl .nil trivial rfl) ?_
   refine rg_q (q_m rfl) ?_
   refine rg_nil ?_
   refine aops_store sz39 rfl rfl (by exact .inr ⟨_, rfl⟩) rfl rfl (by decide) rfl ?_
   refine aops_q rfl (q_a rfl) ?_
   refine aops_nil ?_
   change Awp _ _ _ _ _
   refine awp_ret ?_
   refine ⟨_, (.cons (.cellA rfl rfl sz39 rfl) xk1), ?_⟩
   rw [hz]; rfl
  ·
   (try simp only [nb, ne_eq] at hc5)
   have hz : pfR s = ((flP s).1, 0) := by unfold pfR; rw [if_neg (by rw [hc2]; decide), if_neg (fun h => h hc5)]
   refine awp_skip ?_
   change Awp _ _ _ _ _
   refine awp_seq ?_
   refine xa 1 ?_
   refine rg_q (q_load_refA (ds := [_, _, _, _, _, _, _, _]) sz39 rfl rfl rfl rfl) ?_
   refine rg_nil ?_
   refine aops_store sz39 rfl rfl (by exact .inr ⟨_, rfl⟩) rfl rfl (by decide) rfl ?_
   refine aops_q rfl (q_a rfl) ?_
   refine aops_nil ?_
   change Awp _ _ _ _ _
   refine awp_ret ?_
   refine ⟨_, (.cons (.cellA rfl rfl sz39 rfl) xk1), ?_⟩
   rw [hz]; rfl
end Go.Proofs.YtkbdnkjjklbddaaGreatDoor.Am.M
