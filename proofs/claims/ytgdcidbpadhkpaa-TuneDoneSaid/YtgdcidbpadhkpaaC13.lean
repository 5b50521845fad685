/- Contracts over the abstract machine: events of the reference. Conditions: none. -/
import Derived.Test.YtgdcidbpadhkpaaP7
set_option linter.unusedVariables false
set_option linter.unusedSimpArgs false
-- mini
namespace Go.Proofs.Ytgdcidbpadhkpaa.Am.M
open Go

def bC (b : Bool) : List D := [.v (.bool b)]
set_option maxRecDepth 100000 in
theorem last_p (ev : List Evt) (i : Int) (hl : ev.length ≤ 1000) : PC Try.prog 102 [.sl 3 (ev.map evC), .v (.int .i64 (i))] (.v (.int .i64 (lastR ev i))) := by
  refine pc_of_awp Try.func102 rfl Try.ntmps102 (rs := [.tmp 4]) Try.results102 (by simp) fun w0 => ?_
  refine awp_seq ?_
  refine awp_region 1 mixed (by kernel_rfl) ?_
  refine rg_q (q_assign (x := .d (.v _)) rfl) ?_
  refine rg_nil ?_
  refine aops_nil ?_
  change Awp _ _ _ _ _
  refine awp_seq ?_
  refine awp_seq ?_
  refine awp_region 4 mixed (by kernel_rfl) ?_
  refine rg_q (q_move (x := .d (.sl _ _)) rfl) ?_
  refine rg_q (q_len isl41 rfl (by exact len_map _ _)) ?_
  refine rg_q (q_sub rfl rfl (In64.mk (by (omega)) (by (omega)))) ?_
  refine rg_q (q_assign (x := .d (.v _)) rfl) ?_
  refine rg_nil ?_
  refine aops_nil ?_
  change Awp _ _ _ _ _
  refine awp_len (t := 6) rfl (fun hl6 => ?_)
  (try simp only [List.length_map] at hl6)
  refine awp_block ?_
  refine awp_loopH [4, 5, 9, 10, 11, 12, 13, 14, 15, 16, 17, 18, 19, 20] [] (α := Nat) (fun j => [(5, T.i ((j : Int) - 1))]) (fun j => []) (fun j => j ≤ ev.length ∧ lastR ev i = lastTo ev i j) (fun j => j) ev.length ⟨Nat.le_refl _, rfl⟩ ?_ ?_
  · exact le_head (ms := []) (by repeat (exact Out.refl _)) ⟨(by rfl), trivial⟩ trivial rfl rfl rfl rfl
  ·
    intro j ⟨hj, hh⟩
    refine awp_seq ?_
    refine awp_seq ?_
    refine awp_region 2 mixed (by kernel_rfl) ?_
    refine rg_q (q_move (x := .d (.v _)) rfl) ?_
    refine rg_q (q_geq rfl rfl) ?_
    refine rg_nil ?_
    refine aops_nil ?_
    change Awp _ _ _ _ _
    refine awp_cond rfl (fun hc2 => ?_) (fun hc2 => ?_)
    ·
      (try simp only [decide_eq_true_eq, decide_eq_false_iff_not, Bool.and_eq_true, Bool.or_eq_true, Bool.and_eq_false_iff, Bool.or_eq_false_iff, Bool.not_eq_true', Bool.not_eq_false', Bool.not_true, Bool.not_false, bif_and, bif_or, Bool.not_not, ne_eq, Decidable.not_not, not_true_eq_false, not_false_eq_true, Int.not_le, Int.not_lt] at hc2)
      obtain ⟨k, rfl⟩ : ∃ k, j = k + 1 := ⟨j - 1, by omega⟩
      have hk1 : ((k + 1 : Nat) : Int) - 1 = (k : Int) := by omega
      rw [hk1]
      obtain ⟨x, hx⟩ : ∃ x, ev[k]? = some x := ⟨_, List.getElem?_eq_getElem (by omega)⟩
      have hst : lastTo ev i (k + 1) = if x.step = i then (k : Int) else lastTo ev i k := by rw [show lastTo ev i (k + 1) = if (ev.getD k zeroE).step = i then (k : Int) else lastTo ev i k from rfl, getD_at hx]
      refine awp_skip ?_
      change Awp _ _ _ _ _
      refine awp_seq ?_
      refine awp_block ?_
      refine awp_seq ?_
      refine awp_region 7 mixed (by kernel_rfl) ?_
      refine rg_q (q_move (x := .d (.sl _ _)) rfl) ?_
      refine rg_q (q_move (x := .d (.v _)) rfl) ?_
      refine rg_q (q_indexAddr sl41 rfl rfl (by (omega)) (map_at (by (omega)) hx)) ?_
      refine rg_q (q_fieldAddr fld90_1 rfl) ?_
      refine rg_q (q_load sz3 rfl rfl) ?_
      refine rg_q (q_move (x := .d (.v _)) rfl) ?_
      refine rg_q (q_eql rfl rfl) ?_
      refine rg_nil ?_
      refine aops_nil ?_
      change Awp _ _ _ _ _
      refine awp_cond rfl (fun hc4 => ?_) (fun hc4 => ?_)
      ·
        (try simp only [decide_eq_true_eq, decide_eq_false_iff_not, Bool.and_eq_true, Bool.or_eq_true, Bool.and_eq_false_iff, Bool.or_eq_false_iff, Bool.not_eq_true', Bool.not_eq_false', Bool.not_true, Bool.not_false, bif_and, bif_or, Bool.not_not, ne_eq, Decidable.not_not, not_true_eq_false, not_false_eq_true, Int.not_le, Int.not_lt] at hc4)
        refine awp_seq ?_
        refine awp_region 2 mixed (by kernel_rfl) ?_
        refine rg_q (q_move (x := .d (.v _)) rfl) ?_
        refine rg_q (q_assign (x := .d (.v _)) rfl) ?_
        refine rg_nil ?_
        refine aops_nil ?_
        change Awp _ _ _ _ _
        refine awp_ret ?_
        refine ⟨_, (.cons (.tmp (by exact .d _)) .nil), ?_⟩
        rw [hh, hst, if_pos hc4]; rfl
      ·
        (try simp only [decide_eq_true_eq, decide_eq_false_iff_not, Bool.and_eq_true, Bool.or_eq_true, Bool.and_eq_false_iff, Bool.or_eq_false_iff, Bool.not_eq_true', Bool.not_eq_false', Bool.not_true, Bool.not_false, bif_and, bif_or, Bool.not_not, ne_eq, Decidable.not_not, not_true_eq_false, not_false_eq_true, Int.not_le, Int.not_lt] at hc4)
        refine awp_skip ?_
        change Awp _ _ _ _ _
        refine awp_region 3 mixed (by kernel_rfl) ?_
        refine rg_q (q_move (x := .d (.v _)) rfl) ?_
        refine rg_q (q_sub rfl rfl (In64.mk (by (omega)) (by (omega)))) ?_
        refine rg_q (q_assign (x := .d (.v _)) rfl) ?_
        refine rg_nil ?_
        refine aops_nil ?_
        refine ⟨k, ⟨by omega, by rw [hh, hst, if_neg hc4]⟩, by omega, ?_⟩
        exact le_head (ms := []) (by repeat (first | exact Out.head rfl rfl | (refine Out.put ?_ rfl))) ⟨(by rfl), trivial⟩ trivial rfl rfl rfl rfl
    ·
      (try simp only [decide_eq_true_eq, decide_eq_false_iff_not, Bool.and_eq_true, Bool.or_eq_true, Bool.and_eq_false_iff, Bool.or_eq_false_iff, Bool.not_eq_true', Bool.not_eq_false', Bool.not_true, Bool.not_false, bif_and, bif_or, Bool.not_not, ne_eq, Decidable.not_not, not_true_eq_false, not_false_eq_true, Int.not_le, Int.not_lt] at hc2)
      have hj0 : j = 0 := by omega
      subst hj0
      refine awp_exit ?_
      change Awp _ _ _ _ _
      refine awp_seq ?_
      refine awp_region 1 mixed (by kernel_rfl) ?_
      refine rg_q (q_assign (x := .d (.v _)) rfl) ?_
      refine rg_nil ?_
      refine aops_nil ?_
      change Awp _ _ _ _ _
      refine awp_ret ?_
      refine ⟨_, (.cons (.tmp (by exact .d _)) .nil), ?_⟩
      rw [hh]; rfl
set_option maxRecDepth 100000 in
theorem Kept_p (l : List Stp) (ev : List Evt) (i : Nat) (s : Stp) (y : Lst) (hs : l[i]? = some s) (hy : (bookOf l ev)[i]? = some y) (hl : ev.length ≤ 1000) (hev : ∀ e ∈ ev, EvOk e) : PC Try.prog 104 [.sl 4 (l.map stepC), .sl 3 (ev.map evC), .v (.int .i64 (i))] (.v (.bool (y.don && y.kept))) := by
  have hil := (List.getElem?_eq_some_iff.1 hs).1
  have hlp := last_p ev (i : Int) hl
  have hca := last_case hs hy
  generalize lastR ev (i : Int) = r at *
  refine pc_of_awp Try.func104 rfl Try.ntmps104 (rs := [.tmp 6]) Try.results104 (by simp) fun w0 => ?_
  refine awp_seq ?_
  refine awp_region 1 mixed (by kernel_rfl) ?_
  refine rg_q (q_assign (x := .d (.v _)) rfl) ?_
  refine rg_nil ?_
  refine aops_nil ?_
  change Awp _ _ _ _ _
  refine awp_seq ?_
  refine awp_region 4 mixed (by kernel_rfl) ?_
  refine rg_q (q_move (x := .d (.sl _ _)) rfl) ?_
  refine rg_q (q_move (x := .d (.v _)) rfl) ?_
  refine rg_q (q_call en102 (.cons rfl (.cons rfl .nil)) rfl (hlp)) ?_
  refine rg_q (q_assign (x := .d (.v _)) rfl) ?_
  refine rg_nil ?_
  refine aops_nil ?_
  change Awp _ _ _ _ _
  refine awp_seq ?_
  refine awp_seq ?_
  refine awp_region 2 mixed (by kernel_rfl) ?_
  refine rg_q (q_move (x := .d (.v _)) rfl) ?_
  refine rg_q (q_lss rfl rfl) ?_
  refine rg_nil ?_
  refine aops_nil ?_
  change Awp _ _ _ _ _
  refine awp_cond rfl (fun hc2 => ?_) (fun hc2 => ?_)
  ·
    (try simp only [decide_eq_true_eq, decide_eq_false_iff_not, Bool.and_eq_true, Bool.or_eq_true, Bool.and_eq_false_iff, Bool.or_eq_false_iff, Bool.not_eq_true', Bool.not_eq_false', Bool.not_true, Bool.not_false, bif_and, bif_or, Bool.not_not, ne_eq, Decidable.not_not, not_true_eq_false, not_false_eq_true, Int.not_le, Int.not_lt] at hc2)
    have hz : (y.don && y.kept) = false := by
      rcases hca with ⟨_, h⟩ | ⟨a, x, h, _⟩
      · rw [h]; rfl
      · omega
    refine awp_seq ?_
    refine awp_region 1 mixed (by kernel_rfl) ?_
    refine rg_q (q_assign (x := .d (.v _)) rfl) ?_
    refine rg_nil ?_
    refine aops_nil ?_
    change Awp _ _ _ _ _
    refine awp_ret ?_
    refine ⟨_, (.cons (.tmp (by exact .d _)) .nil), ?_⟩
    rw [hz]; rfl
  ·
    (try simp only [decide_eq_true_eq, decide_eq_false_iff_not, Bool.and_eq_true, Bool.or_eq_true, Bool.and_eq_false_iff, Bool.or_eq_false_iff, Bool.not_eq_true', Bool.not_eq_false', Bool.not_true, Bool.not_false, bif_and, bif_or, Bool.not_not, ne_eq, Decidable.not_not, not_true_eq_false, not_false_eq_true, Int.not_le, Int.not_lt] at hc2)
    obtain ⟨a, x, rfl, hxa, hd, hmin, hwa, hke⟩ := hca.resolve_left (fun h => by omega)
    have hal := (List.getElem?_eq_some_iff.1 hxa).1
    have hz : (y.don && y.kept) = (ev.drop (a + 1)).all fun e => !hitB s x e := by rw [hd, hke]; rfl
    obtain ⟨w1, w2, w3, w4⟩ := hev x (List.mem_of_getElem? hxa)
    refine awp_skip ?_
    change Awp _ _ _ _ _
    refine awp_seq ?_
    refine awp_seq ?_
    refine awp_region 3 mixed (by kernel_rfl) ?_
    refine rg_q (q_move (x := .d (.v _)) rfl) ?_
    refine rg_q (q_add rfl rfl (In64.mk (by (omega)) (by (omega)))) ?_
    refine rg_q (q_assign (x := .d (.v _)) rfl) ?_
    refine rg_nil ?_
    refine aops_nil ?_
    change Awp _ _ _ _ _
    refine awp_block ?_
    refine awp_loopH [6, 8, 16, 17, 18, 19, 20, 21, 22, 23, 24, 25, 26, 27, 28, 29, 30, 31, 32, 33, 34, 35, 36, 37, 38, 39, 40, 41, 42, 43, 44, 45, 46, 47, 48, 49, 50, 51, 52] [] (α := Nat) (fun k => [(8, T.i (k : Int))]) (fun k => []) (fun k => a + 1 ≤ k ∧ k ≤ ev.length ∧ ((ev.drop (a + 1)).all fun e => !hitB s x e) = (ev.drop k).all fun e => !hitB s x e) (fun k => ev.length - k) (a + 1) ⟨Nat.le_refl _, by omega, rfl⟩ ?_ ?_
    · exact le_head (ms := []) (by repeat (exact Out.refl _)) ⟨(by rfl), trivial⟩ trivial rfl rfl rfl rfl
    ·
      intro k ⟨hk1, hk, hh⟩
      refine awp_seq ?_
      refine awp_seq ?_
      refine awp_region 4 mixed (by kernel_rfl) ?_
      refine rg_q (q_move (x := .d (.v _)) rfl) ?_
      refine rg_q (q_move (x := .d (.sl _ _)) rfl) ?_
      refine rg_q (q_len isl41 rfl (by exact len_map _ _)) ?_
      refine rg_q (q_lss rfl rfl) ?_
      refine rg_nil ?_
      refine aops_nil ?_
      change Awp _ _ _ _ _
      refine awp_len (t := 17) rfl (fun hl17 => ?_)
      (try simp only [List.length_map] at hl17)
      refine awp_cond rfl (fun hc5 => ?_) (fun hc5 => ?_)
      ·
        (try simp only [decide_eq_true_eq, decide_eq_false_iff_not, Bool.and_eq_true, Bool.or_eq_true, Bool.and_eq_false_iff, Bool.or_eq_false_iff, Bool.not_eq_true', Bool.not_eq_false', Bool.not_true, Bool.not_false, bif_and, bif_or, Bool.not_not, ne_eq, Decidable.not_not, not_true_eq_false, not_false_eq_true, Int.not_le, Int.not_lt] at hc5)
        have hlt : k < ev.length := by omega
        obtain ⟨e, he⟩ : ∃ e, ev[k]? = some e := ⟨_, List.getElem?_eq_getElem hlt⟩
        obtain ⟨v1, v2, v3, v4⟩ := hev e (List.mem_of_getElem? he)
        have hst := all_drop (f := fun e => !hitB s x e) he
        refine awp_skip ?_
        change Awp _ _ _ _ _
        refine awp_seq ?_
        refine awp_block ?_
        refine awp_seq ?_
        refine awp_region 31 mixed (by kernel_rfl) ?_
        refine rg_q (q_move (x := .d (.sl _ _)) rfl) ?_
        refine rg_q (q_move (x := .d (.v _)) rfl) ?_
        refine rg_q (q_indexAddr sl41 rfl rfl (by (omega)) (map_at (by (omega)) he)) ?_
        refine rg_q (q_fieldAddr fld90_2 rfl) ?_
        refine rg_q (q_load sz3 rfl rfl) ?_
        refine rg_q (q_move (x := .d (.sl _ _)) rfl) ?_
        refine rg_q (q_move (x := .d (.v _)) rfl) ?_
        refine rg_q (q_indexAddr sl41 rfl rfl (by (omega)) (map_at (by (omega)) hxa)) ?_
        refine rg_q (q_fieldAddr fld90_2 rfl) ?_
        refine rg_q (q_load sz3 rfl rfl) ?_
        refine rg_q (q_sub rfl rfl (In64.mk (by (omega)) (by (omega)))) ?_
        refine rg_q (q_call en76 (.cons rfl .nil) rfl (Size_p _ ⟨by omega, by omega⟩)) ?_
        refine rg_q (q_move (x := .d (.sl _ _)) rfl) ?_
        refine rg_q (q_move (x := .d (.v _)) rfl) ?_
        refine rg_q (q_indexAddr sl40 rfl rfl (by (omega)) (map_at (by (omega)) hs)) ?_
        refine rg_q (q_fieldAddr fld87_2 rfl) ?_
        refine rg_q (q_load sz3 rfl rfl) ?_
        refine rg_q (q_gtr rfl rfl) ?_
        refine rg_q (q_move (x := .d (.v _)) rfl) ?_
        refine rg_g rfl rfl (fun hG => (q_move (x := .d (.sl _ _)) rfl)) ?_
        refine rg_g rfl rfl (fun hG => (q_move (x := .d (.v _)) rfl)) ?_
        refine rg_g rfl rfl (fun hG => (q_indexAddr sl40 rfl rfl (by (have hg0 := T.bool_inj (a := _) hG.1; (try simp only [decide_eq_true_eq, decide_eq_false_iff_not, Bool.and_eq_true, Bool.or_eq_true, Bool.and_eq_false_iff, Bool.or_eq_false_iff, Bool.not_eq_true', Bool.not_eq_false', Bool.not_true, Bool.not_false, bif_and, bif_or, Bool.not_not, ne_eq, Decidable.not_not, not_true_eq_false, not_false_eq_true, Int.not_le, Int.not_lt] at hg0); (omega))) (map_at (by (have hg0 := T.bool_inj (a := _) hG.1; (try simp only [decide_eq_true_eq, decide_eq_false_iff_not, Bool.and_eq_true, Bool.or_eq_true, Bool.and_eq_false_iff, Bool.or_eq_false_iff, Bool.not_eq_true', Bool.not_eq_false', Bool.not_true, Bool.not_false, bif_and, bif_or, Bool.not_not, ne_eq, Decidable.not_not, not_true_eq_false, not_false_eq_true, Int.not_le, Int.not_lt] at hg0); (omega))) hs))) ?_
        refine rg_g rfl rfl (fun hG => (q_fieldAddr fld87_3 rfl)) ?_
        refine rg_g rfl rfl (fun hG => (q_load sz25 rfl rfl)) ?_
        refine rg_g rfl rfl (fun hG => (q_move (x := .d (.sl _ _)) rfl)) ?_
        refine rg_g rfl rfl (fun hG => (q_move (x := .d (.v _)) rfl)) ?_
        refine rg_g rfl rfl (fun hG => (q_indexAddr sl41 rfl rfl (by (have hg0 := T.bool_inj (a := _) hG.1; (try simp only [decide_eq_true_eq, decide_eq_false_iff_not, Bool.and_eq_true, Bool.or_eq_true, Bool.and_eq_false_iff, Bool.or_eq_false_iff, Bool.not_eq_true', Bool.not_eq_false', Bool.not_true, Bool.not_false, bif_and, bif_or, Bool.not_not, ne_eq, Decidable.not_not, not_true_eq_false, not_false_eq_true, Int.not_le, Int.not_lt] at hg0); (omega))) (map_at (by (have hg0 := T.bool_inj (a := _) hG.1; (try simp only [decide_eq_true_eq, decide_eq_false_iff_not, Bool.and_eq_true, Bool.or_eq_true, Bool.and_eq_false_iff, Bool.or_eq_false_iff, Bool.not_eq_true', Bool.not_eq_false', Bool.not_true, Bool.not_false, bif_and, bif_or, Bool.not_not, ne_eq, Decidable.not_not, not_true_eq_false, not_false_eq_true, Int.not_le, Int.not_lt] at hg0); (omega))) he))) ?_
        refine rg_g rfl rfl (fun hG => (q_fieldAddr fld90_1 rfl)) ?_
        refine rg_g rfl rfl (fun hG => (q_load sz3 rfl rfl)) ?_
        refine rg_g rfl rfl (fun hG => (q_call en125 (.cons rfl (.cons rfl .nil)) rfl (Has_p _ _))) ?_
        refine rg_pick rfl rfl rfl rfl rfl rfl ?_
        refine rg_nil ?_
        refine aops_nil ?_
        change Awp _ _ _ _ _
        refine awp_cond rfl (fun hc7 => ?_) (fun hc7 => ?_)
        ·
          have hv : hitB s x e = true := by unfold hitB; simpa [bif_or] using hc7
          refine awp_seq ?_
          refine awp_region 1 mixed (by kernel_rfl) ?_
          refine rg_q (q_assign (x := .d (.v _)) rfl) ?_
          refine rg_nil ?_
          refine aops_nil ?_
          change Awp _ _ _ _ _
          refine awp_ret ?_
          refine ⟨_, (.cons (.tmp (by exact .d _)) .nil), ?_⟩
          rw [hz, hh, hst, hv]; rfl
        ·
          have hv : hitB s x e = false := by unfold hitB; simpa [bif_or] using hc7
          refine awp_skip ?_
          change Awp _ _ _ _ _
          refine awp_region 3 mixed (by kernel_rfl) ?_
          refine rg_q (q_move (x := .d (.v _)) rfl) ?_
          refine rg_q (q_add rfl rfl (In64.mk (by (omega)) (by (omega)))) ?_
          refine rg_q (q_assign (x := .d (.v _)) rfl) ?_
          refine rg_nil ?_
          refine aops_nil ?_
          refine ⟨k + 1, ⟨by omega, by omega, by rw [hh, hst, hv]; rfl⟩, by omega, ?_⟩
          exact le_head (ms := []) (by repeat (first | exact Out.head rfl rfl | (refine Out.put ?_ rfl))) ⟨(by rfl), trivial⟩ trivial rfl rfl rfl rfl
      ·
        (try simp only [decide_eq_true_eq, decide_eq_false_iff_not, Bool.and_eq_true, Bool.or_eq_true, Bool.and_eq_false_iff, Bool.or_eq_false_iff, Bool.not_eq_true', Bool.not_eq_false', Bool.not_true, Bool.not_false, bif_and, bif_or, Bool.not_not, ne_eq, Decidable.not_not, not_true_eq_false, not_false_eq_true, Int.not_le, Int.not_lt] at hc5)
        refine awp_exit ?_
        change Awp _ _ _ _ _
        refine awp_seq ?_
        refine awp_region 1 mixed (by kernel_rfl) ?_
        refine rg_q (q_assign (x := .d (.v _)) rfl) ?_
        refine rg_nil ?_
        refine aops_nil ?_
        change Awp _ _ _ _ _
        refine awp_ret ?_
        refine ⟨_, (.cons (.tmp (by exact .d _)) .nil), ?_⟩
        rw [hz, hh, List.drop_of_length_le (by omega)]; rfl

def validL (l : List Stp) (L : List Lst) (m : Int) : List Bool := (List.range l.length).map fun i => validS l L i m
def validK (l : List Stp) (L : List Lst) (m : Int) (k : Nat) : List Bool := (List.range l.length).map fun i => if i < k then validS l L i m else false
theorem validK_len (l : List Stp) (L : List Lst) (m : Int) (k : Nat) : (validK l L m k).length = l.length := by simp [validK]
theorem validK_at {l : List Stp} {L : List Lst} {m : Int} {k i : Nat} (hi : i < l.length) : (validK l L m k)[i]? = some (if i < k then validS l L i m else false) := by
  simp [validK, hi]
theorem validK_zero (l : List Stp) (L : List Lst) (m : Int) : validK l L m 0 = List.replicate l.length false := by
  refine List.ext_getElem? fun i => ?_
  by_cases hi : i < l.length
  · rw [validK_at hi, List.getElem?_replicate, if_pos hi]; rfl
  · rw [List.getElem?_eq_none (by rw [validK_len]; omega), List.getElem?_eq_none (by simp; omega)]
theorem validK_next {l : List Stp} {L : List Lst} {m : Int} {k : Nat} (hk : k < l.length) {b : Bool} (hb : b = validS l L k m) : (validK l L m k).set k b = validK l L m (k + 1) := by
  refine List.ext_getElem? fun i => ?_
  rw [List.getElem?_set]
  by_cases hi : i < l.length
  · rw [validK_at hi, validK_at hi, validK_len]
    by_cases e : k = i
    · subst e; rw [if_pos rfl, if_pos hk, if_pos (by omega), hb]
    · rw [if_neg e]
      by_cases h1 : i < k
      · rw [if_pos h1, if_pos (by omega)]
      · rw [if_neg h1, if_neg (by omega)]
  · rw [if_neg (by omega), List.getElem?_eq_none (by rw [validK_len]; omega), List.getElem?_eq_none (by rw [validK_len]; omega)]
theorem validK_all (l : List Stp) (L : List Lst) (m : Int) : validK l L m l.length = validL l L m := by
  unfold validK validL
  refine List.map_congr_left fun i hi => ?_
  rw [if_pos (List.mem_range.1 hi)]
set_option maxRecDepth 100000 in
theorem rValidAt_p (l : List Stp) (ev : List Evt) (m : Int) (hr : RightS l) (hl : ev.length ≤ 1000) (hev : ∀ e ∈ ev, EvOk e) : PC Try.prog 54 [.sl 4 (l.map stepC), .sl 3 (ev.map evC), .v (.int .i64 (m))] (.sl 1 ((validL l (bookOf l ev) m).map bC)) := by
  have hfew := hr.few
  have hLlen := bookOf_len l ev
  generalize hL : bookOf l ev = L at *
  refine pc_of_awp Try.func54 rfl Try.ntmps54 (rs := [.tmp 6]) Try.results54 (by simp) fun w0 => ?_
  refine awp_seq ?_
  refine awp_region 1 mixed (by kernel_rfl) ?_
  refine rg_q (q_assign (x := .d (.sl _ _)) rfl) ?_
  refine rg_nil ?_
  refine aops_nil ?_
  change Awp _ _ _ _ _
  refine awp_seq ?_
  refine awp_region 2 mixed (by kernel_rfl) ?_
  refine rg_q (q_move (x := .d (.sl _ _)) rfl) ?_
  refine rg_q (q_len isl40 rfl (by exact len_map _ _)) ?_
  refine rg_nil ?_
  refine aops_make sl77 zr4 by4 rfl rfl rfl rfl (by (try simp only [List.length_map]); omega) (by (try simp only [List.length_map]); omega) rfl rfl ?_
  refine aops_q rfl (q_assign (x := .rs _) rfl) ?_
  refine aops_nil ?_
  change Awp _ _ _ _ _
  refine awp_len (t := 10) rfl (fun hl10 => ?_)
  (try simp only [List.length_map] at hl10)
  refine awp_seq ?_
  refine awp_seq ?_
  refine awp_region 1 mixed (by kernel_rfl) ?_
  refine rg_q (q_assign (x := .d (.v _)) rfl) ?_
  refine rg_nil ?_
  refine aops_nil ?_
  change Awp _ _ _ _ _
  refine awp_block ?_
  refine awp_loopH [8, 9, 13, 14, 15, 16, 17, 18, 19, 20, 21, 22, 23, 24, 25, 26, 27, 28, 29, 30, 31, 32, 33, 34, 35, 36, 37, 38, 39, 40, 41, 42, 43, 44, 45, 46, 47, 48, 49, 50, 51, 52, 53, 54, 55, 56, 57, 58, 59, 60, 61, 62, 63, 64, 65, 66, 67, 68, 69, 70, 71, 72] [12] (α := Nat) (fun k => [(8, T.i (k : Int))]) (fun k => [(12, .row 4 1 ((validK l L m k).map bC))]) (fun k => k ≤ l.length) (fun k => l.length - k) 0 (Nat.zero_le _) ?_ ?_
  · exact le_head (ms := [12]) (by repeat (exact Out.refl _)) ⟨(by rfl), trivial⟩ ⟨(by (show Site.row 4 1 _ = Site.row 4 1 _; (rw [validK_zero, List.map_replicate]; rfl))), trivial⟩ rfl rfl rfl rfl
  ·
    intro k hk
    refine awp_seq ?_
    refine awp_seq ?_
    refine awp_region 4 mixed (by kernel_rfl) ?_
    refine rg_q (q_move (x := .d (.v _)) rfl) ?_
    refine rg_q (q_move (x := .d (.sl _ _)) rfl) ?_
    refine rg_q (q_len isl40 rfl (by exact len_map _ _)) ?_
    refine rg_q (q_lss rfl rfl) ?_
    refine rg_nil ?_
    refine aops_nil ?_
    change Awp _ _ _ _ _
    refine awp_len (t := 14) rfl (fun hl14 => ?_)
    (try simp only [List.length_map] at hl14)
    refine awp_cond rfl (fun hc3 => ?_) (fun hc3 => ?_)
    ·
      (try simp only [decide_eq_true_eq, decide_eq_false_iff_not, Bool.and_eq_true, Bool.or_eq_true, Bool.and_eq_false_iff, Bool.or_eq_false_iff, Bool.not_eq_true', Bool.not_eq_false', Bool.not_true, Bool.not_false, bif_and, bif_or, Bool.not_not, ne_eq, Decidable.not_not, not_true_eq_false, not_false_eq_true, Int.not_le, Int.not_lt] at hc3)
      have hlt : k < l.length := by omega
      obtain ⟨s, hs⟩ : ∃ s, l[k]? = some s := ⟨_, List.getElem?_eq_getElem hlt⟩
      obtain ⟨y, hy⟩ : ∃ y, L[k]? = some y := ⟨_, List.getElem?_eq_getElem (by omega)⟩
      obtain ⟨c1, c2, c3, c4, hse⟩ := hr.each k s hs
      have hKe := Kept_p l ev k s y hs (by rw [hL]; exact hy) hl hev
      have hlp := last_p ev (k : Int) hl
      have hca := last_case (ev := ev) hs (by rw [hL]; exact hy)
      have hvs := validS_eq (m := m) hr hs hy
      generalize lastR ev (k : Int) = r at *
      obtain ⟨a, x, hx1, hla, hxa⟩ : ∃ (a : Nat) (x : Evt), EvOk x ∧ (y.don = true → r = (a : Int)) ∧ (y.don = true → ev[a]? = some x ∧ y.minute = x.minute) := by
        rcases hca with ⟨_, h⟩ | ⟨a, x, h1, h2, h3, h4, h5⟩
        · exact ⟨0, ⟨0, 0, 0⟩, ⟨by decide, by decide, by decide, by decide⟩, fun h' => (by rw [h] at h'; cases h'), fun h' => (by rw [h] at h'; cases h')⟩
        · exact ⟨a, x, hev x (List.mem_of_getElem? h2), fun _ => h1, fun _ => ⟨h2, h4⟩⟩
      obtain ⟨x1, x2, x3, x4⟩ := hx1
      have hvk : (validK l L m k)[k]? = some false := by rw [validK_at hlt, if_neg (by omega)]
      have hbase : (bif (y.don && y.kept) then decide (m ≤ x.minute + s.lasts) else false) = (y.don && y.kept && decide (m ≤ y.minute + s.lasts)) := by
        cases hd : y.don with
        | false => rfl
        | true => rw [(hxa hd).2]; cases y.kept <;> rfl
      refine awp_skip ?_
      change Awp _ _ _ _ _
      refine awp_seq ?_
      refine awp_block ?_
      refine awp_seq ?_
      refine awp_region 24 mixed (by kernel_rfl) ?_
      refine rg_q (q_move (x := .rs _) rfl) ?_
      refine rg_q (q_move (x := .d (.v _)) rfl) ?_
      refine rg_q (q_move (x := .d (.sl _ _)) rfl) ?_
      refine rg_q (q_move (x := .d (.sl _ _)) rfl) ?_
      refine rg_q (q_move (x := .d (.v _)) rfl) ?_
      refine rg_q (q_call en104 (.cons rfl (.cons rfl (.cons rfl .nil))) rfl (hKe)) ?_
      refine rg_q (q_move (x := .d (.v _)) rfl) ?_
      refine rg_g rfl rfl (fun hG => (q_move (x := .d (.v _)) rfl)) ?_
      refine rg_g rfl rfl (fun hG => (q_move (x := .d (.sl _ _)) rfl)) ?_
      refine rg_g rfl rfl (fun hG => (q_move (x := .d (.sl _ _)) rfl)) ?_
      refine rg_g rfl rfl (fun hG => (q_move (x := .d (.v _)) rfl)) ?_
      refine rg_g rfl rfl (fun hG => (q_call en102 (.cons rfl (.cons rfl .nil)) rfl (hlp))) ?_
      refine rg_g rfl rfl (fun hG => (q_indexAddr sl41 rfl rfl (by (have hg0 := T.bool_inj (a := _) hG.1; (try simp only [decide_eq_true_eq, decide_eq_false_iff_not, Bool.and_eq_true, Bool.or_eq_true, Bool.and_eq_false_iff, Bool.or_eq_false_iff, Bool.not_eq_true', Bool.not_eq_false', Bool.not_true, Bool.not_false, bif_and, bif_or, Bool.not_not, ne_eq, Decidable.not_not, not_true_eq_false, not_false_eq_true, Int.not_le, Int.not_lt] at hg0); ((have h1 := hla hg0.1; omega)))) (map_at (k := a) (by have hg0 := T.bool_inj (a := _) hG.1; simp only [Bool.and_eq_true] at hg0; exact hla hg0.1) (by have hg0 := T.bool_inj (a := _) hG.1; simp only [Bool.and_eq_true] at hg0; exact (hxa hg0.1).1)))) ?_
      refine rg_g rfl rfl (fun hG => (q_fieldAddr fld90_0 rfl)) ?_
      refine rg_g rfl rfl (fun hG => (q_load sz3 rfl rfl)) ?_
      refine rg_g rfl rfl (fun hG => (q_move (x := .d (.sl _ _)) rfl)) ?_
      refine rg_g rfl rfl (fun hG => (q_move (x := .d (.v _)) rfl)) ?_
      refine rg_g rfl rfl (fun hG => (q_indexAddr sl40 rfl rfl (by (have hg0 := T.bool_inj (a := _) hG.1; (try simp only [decide_eq_true_eq, decide_eq_false_iff_not, Bool.and_eq_true, Bool.or_eq_true, Bool.and_eq_false_iff, Bool.or_eq_false_iff, Bool.not_eq_true', Bool.not_eq_false', Bool.not_true, Bool.not_false, bif_and, bif_or, Bool.not_not, ne_eq, Decidable.not_not, not_true_eq_false, not_false_eq_true, Int.not_le, Int.not_lt] at hg0); (omega))) (map_at (by (have hg0 := T.bool_inj (a := _) hG.1; (try simp only [decide_eq_true_eq, decide_eq_false_iff_not, Bool.and_eq_true, Bool.or_eq_true, Bool.and_eq_false_iff, Bool.or_eq_false_iff, Bool.not_eq_true', Bool.not_eq_false', Bool.not_true, Bool.not_false, bif_and, bif_or, Bool.not_not, ne_eq, Decidable.not_not, not_true_eq_false, not_false_eq_true, Int.not_le, Int.not_lt] at hg0); (omega))) hs))) ?_
      refine rg_g rfl rfl (fun hG => (q_fieldAddr fld87_1 rfl)) ?_
      refine rg_g rfl rfl (fun hG => (q_load sz3 rfl rfl)) ?_
      refine rg_g rfl rfl (fun hG => (q_add rfl rfl (In64.mk (by (have hg0 := T.bool_inj (a := _) hG.1; (try simp only [decide_eq_true_eq, decide_eq_false_iff_not, Bool.and_eq_true, Bool.or_eq_true, Bool.and_eq_false_iff, Bool.or_eq_false_iff, Bool.not_eq_true', Bool.not_eq_false', Bool.not_true, Bool.not_false, bif_and, bif_or, Bool.not_not, ne_eq, Decidable.not_not, not_true_eq_false, not_false_eq_true, Int.not_le, Int.not_lt] at hg0); (omega))) (by (have hg0 := T.bool_inj (a := _) hG.1; (try simp only [decide_eq_true_eq, decide_eq_false_iff_not, Bool.and_eq_true, Bool.or_eq_true, Bool.and_eq_false_iff, Bool.or_eq_false_iff, Bool.not_eq_true', Bool.not_eq_false', Bool.not_true, Bool.not_false, bif_and, bif_or, Bool.not_not, ne_eq, Decidable.not_not, not_true_eq_false, not_false_eq_true, Int.not_le, Int.not_lt] at hg0); (omega)))))) ?_
      refine rg_g rfl rfl (fun hG => (q_leq rfl rfl)) ?_
      refine rg_pick rfl rfl rfl rfl rfl rfl ?_
      refine rg_q (q_indexAddr_rs sl77 rfl rfl rfl (by (omega)) (by ((simp only [List.length_map, List.length_set, List.length_append, List.length_take, List.length_range, validK_len]; omega)))) ?_
      refine rg_nil ?_
      refine aops_store_row sz4 rfl rfl (by exact .inl rfl) rfl rfl (i := k) (j := 0) (es' := ((validK l L m k).set k (y.don && y.kept && decide (m ≤ y.minute + s.lasts))).map bC) (by omega) (map_get hvk) (by decide) (set_map bC _ _ _ (congrArg (fun b => [D.v (.bool b)]) hbase)) ?_
      refine aops_nil ?_
      change Awp _ _ _ _ _
      refine awp_seq ?_
      refine awp_region 1 mixed (by kernel_rfl) ?_
      refine rg_q (q_assign (x := .d (.v _)) rfl) ?_
      refine rg_nil ?_
      refine aops_nil ?_
      change Awp _ _ _ _ _
      refine awp_block ?_
      refine awp_loopH [9, 43, 44, 45, 46, 47, 48, 49, 50, 51, 52, 53, 54, 55, 56, 57, 58, 59, 60, 61, 62, 63, 64, 65, 66, 67, 68, 69, 70, 71, 72] [12] (α := Nat × Bool) (fun p => [(9, T.i (p.1 : Int))]) (fun p => [(12, .row 4 1 (((validK l L m k).set k p.2).map bC))]) (fun p => p.1 ≤ s.needs.length ∧ p.2 = ((y.don && y.kept && decide (m ≤ y.minute + s.lasts)) && (s.needs.take p.1).all fun n => validS l L n.toNat m)) (fun p => s.needs.length - p.1) (0, y.don && y.kept && decide (m ≤ y.minute + s.lasts)) ⟨Nat.zero_le _, by simp⟩ ?_ ?_
      · exact le_head (ms := [12]) (by repeat (exact Out.refl _)) ⟨(by rfl), trivial⟩ ⟨(by rfl), trivial⟩ rfl rfl rfl rfl
      ·
        intro ⟨j, acc⟩ ⟨hj, ha⟩
        simp only at hj ha
        refine awp_seq ?_
        refine awp_seq ?_
        refine awp_region 8 mixed (by kernel_rfl) ?_
        refine rg_q (q_move (x := .d (.v _)) rfl) ?_
        refine rg_q (q_move (x := .d (.sl _ _)) rfl) ?_
        refine rg_q (q_move (x := .d (.v _)) rfl) ?_
        refine rg_q (q_indexAddr sl40 rfl rfl (by (omega)) (map_at (by (omega)) hs)) ?_
        refine rg_q (q_fieldAddr fld87_3 rfl) ?_
        refine rg_q (q_load sz25 rfl rfl) ?_
        refine rg_q (q_len isl25 rfl (by exact len_map _ _)) ?_
        refine rg_q (q_lss rfl rfl) ?_
        refine rg_nil ?_
        refine aops_nil ?_
        change Awp _ _ _ _ _
        refine awp_len (t := 48) rfl (fun hl48 => ?_)
        (try simp only [List.length_map] at hl48)
        refine awp_cond rfl (fun hc7 => ?_) (fun hc7 => ?_)
        ·
          (try simp only [decide_eq_true_eq, decide_eq_false_iff_not, Bool.and_eq_true, Bool.or_eq_true, Bool.and_eq_false_iff, Bool.or_eq_false_iff, Bool.not_eq_true', Bool.not_eq_false', Bool.not_true, Bool.not_false, bif_and, bif_or, Bool.not_not, ne_eq, Decidable.not_not, not_true_eq_false, not_false_eq_true, Int.not_le, Int.not_lt] at hc7)
          have hjlt : j < s.needs.length := by omega
          obtain ⟨z, hn⟩ : ∃ z, s.needs[j]? = some z := ⟨_, List.getElem?_eq_getElem hjlt⟩
          obtain ⟨hz1, hz2⟩ := hse z (List.mem_of_getElem? hn)
          obtain ⟨q, rfl⟩ : ∃ q : Nat, z = (q : Int) := ⟨z.toNat, by omega⟩
          have hvq : ((validK l L m k).set k acc)[q]? = some (validS l L q m) := by rw [List.getElem?_set_ne (by omega), validK_at (by omega), if_pos (by omega)]
          have hva : ((validK l L m k).set k acc)[k]? = some acc := List.getElem?_set_self (by rw [validK_len]; exact hlt)
          have hnx : (acc && validS l L q m) = ((y.don && y.kept && decide (m ≤ y.minute + s.lasts)) && (s.needs.take (j + 1)).all fun n => validS l L n.toNat m) := by
            rw [List.take_add_one, hn, Option.toList_some, List.all_append, ha]
            simp only [List.all_cons, List.all_nil, Bool.and_true, Int.toNat_natCast, Bool.and_assoc]
          refine awp_skip ?_
          change Awp _ _ _ _ _
          refine awp_seq ?_
          refine awp_block ?_
          refine awp_region 20 mixed (by kernel_rfl) ?_
          refine rg_q (q_move (x := .rs _) rfl) ?_
          refine rg_q (q_move (x := .d (.v _)) rfl) ?_
          refine rg_q (q_move (x := .rs _) rfl) ?_
          refine rg_q (q_move (x := .d (.v _)) rfl) ?_
          refine rg_q (q_indexAddr_rs sl77 rfl rfl rfl (by (omega)) (by ((simp only [List.length_map, List.length_set, List.length_append, List.length_take, List.length_range, validK_len]; omega)))) ?_
          refine rg_q (q_load_row sz4 rfl rfl (i := k) (j := 0) (by omega) (map_get hva) rfl) ?_
          refine rg_q (q_move (x := .d (.v _)) rfl) ?_
          refine rg_g rfl rfl (fun hG => (q_move (x := .rs _) rfl)) ?_
          refine rg_g rfl rfl (fun hG => (q_move (x := .d (.sl _ _)) rfl)) ?_
          refine rg_g rfl rfl (fun hG => (q_move (x := .d (.v _)) rfl)) ?_
          refine rg_g rfl rfl (fun hG => (q_indexAddr sl40 rfl rfl (by (have hg0 := T.bool_inj (a := _) hG.1; (try simp only [decide_eq_true_eq, decide_eq_false_iff_not, Bool.and_eq_true, Bool.or_eq_true, Bool.and_eq_false_iff, Bool.or_eq_false_iff, Bool.not_eq_true', Bool.not_eq_false', Bool.not_true, Bool.not_false, bif_and, bif_or, Bool.not_not, ne_eq, Decidable.not_not, not_true_eq_false, not_false_eq_true, Int.not_le, Int.not_lt] at hg0); (omega))) (map_at (by (have hg0 := T.bool_inj (a := _) hG.1; (try simp only [decide_eq_true_eq, decide_eq_false_iff_not, Bool.and_eq_true, Bool.or_eq_true, Bool.and_eq_false_iff, Bool.or_eq_false_iff, Bool.not_eq_true', Bool.not_eq_false', Bool.not_true, Bool.not_false, bif_and, bif_or, Bool.not_not, ne_eq, Decidable.not_not, not_true_eq_false, not_false_eq_true, Int.not_le, Int.not_lt] at hg0); (omega))) hs))) ?_
          refine rg_g rfl rfl (fun hG => (q_fieldAddr fld87_3 rfl)) ?_
          refine rg_g rfl rfl (fun hG => (q_load sz25 rfl rfl)) ?_
          refine rg_g rfl rfl (fun hG => (q_move (x := .d (.v _)) rfl)) ?_
          refine rg_g rfl rfl (fun hG => (q_indexAddr sl25 rfl rfl (by (have hg0 := T.bool_inj (a := _) hG.1; (try simp only [decide_eq_true_eq, decide_eq_false_iff_not, Bool.and_eq_true, Bool.or_eq_true, Bool.and_eq_false_iff, Bool.or_eq_false_iff, Bool.not_eq_true', Bool.not_eq_false', Bool.not_true, Bool.not_false, bif_and, bif_or, Bool.not_not, ne_eq, Decidable.not_not, not_true_eq_false, not_false_eq_true, Int.not_le, Int.not_lt] at hg0); (omega))) (map_at (by (have hg0 := T.bool_inj (a := _) hG.1; (try simp only [decide_eq_true_eq, decide_eq_false_iff_not, Bool.and_eq_true, Bool.or_eq_true, Bool.and_eq_false_iff, Bool.or_eq_false_iff, Bool.not_eq_true', Bool.not_eq_false', Bool.not_true, Bool.not_false, bif_and, bif_or, Bool.not_not, ne_eq, Decidable.not_not, not_true_eq_false, not_false_eq_true, Int.not_le, Int.not_lt] at hg0); (omega))) hn))) ?_
          refine rg_g rfl rfl (fun hG => (q_load sz3 rfl rfl)) ?_
          refine rg_g rfl rfl (fun hG => (q_indexAddr_rs sl77 rfl rfl rfl (by (have hg0 := T.bool_inj (a := _) hG.1; (try simp only [decide_eq_true_eq, decide_eq_false_iff_not, Bool.and_eq_true, Bool.or_eq_true, Bool.and_eq_false_iff, Bool.or_eq_false_iff, Bool.not_eq_true', Bool.not_eq_false', Bool.not_true, Bool.not_false, bif_and, bif_or, Bool.not_not, ne_eq, Decidable.not_not, not_true_eq_false, not_false_eq_true, Int.not_le, Int.not_lt] at hg0); (omega))) (by (have hg0 := T.bool_inj (a := _) hG.1; (try simp only [decide_eq_true_eq, decide_eq_false_iff_not, Bool.and_eq_true, Bool.or_eq_true, Bool.and_eq_false_iff, Bool.or_eq_false_iff, Bool.not_eq_true', Bool.not_eq_false', Bool.not_true, Bool.not_false, bif_and, bif_or, Bool.not_not, ne_eq, Decidable.not_not, not_true_eq_false, not_false_eq_true, Int.not_le, Int.not_lt] at hg0); ((simp only [List.length_map, List.length_set, List.length_append, List.length_take, List.length_range, validK_len]; omega)))))) ?_
          refine rg_g rfl rfl (fun hG => (q_load_row sz4 rfl rfl (i := q) (j := 0) (by omega) (map_get hvq) rfl)) ?_
          refine rg_pick rfl rfl rfl rfl rfl rfl ?_
          refine rg_q (q_indexAddr_rs sl77 rfl rfl rfl (by (omega)) (by ((simp only [List.length_map, List.length_set, List.length_append, List.length_take, List.length_range, validK_len]; omega)))) ?_
          refine rg_nil ?_
          refine aops_store_row sz4 rfl rfl (by exact .inl rfl) rfl rfl (i := k) (j := 0) (es' := ((validK l L m k).set k (acc && validS l L q m)).map bC) (by omega) (map_get hva) (by decide) ((set_map bC _ _ (acc && validS l L q m) (congrArg (fun b => [D.v (.bool b)]) (by cases acc <;> rfl))).trans (by rw [List.set_set])) ?_
          refine aops_nil ?_
          change Awp _ _ _ _ _
          refine awp_region 3 mixed (by kernel_rfl) ?_
          refine rg_q (q_move (x := .d (.v _)) rfl) ?_
          refine rg_q (q_add rfl rfl (In64.mk (by (omega)) (by (omega)))) ?_
          refine rg_q (q_assign (x := .d (.v _)) rfl) ?_
          refine rg_nil ?_
          refine aops_nil ?_
          refine ⟨(j + 1, acc && validS l L q m), ⟨by simp only; omega, by simp only; exact hnx⟩, by simp only; omega, ?_⟩
          exact le_head (ms := [12]) (by repeat (first | exact Out.head rfl rfl | (refine Out.put ?_ rfl) | (refine Out.site ?_ rfl))) ⟨(by rfl), trivial⟩ ⟨(by rfl), trivial⟩ rfl rfl rfl rfl
        ·
          (try simp only [decide_eq_true_eq, decide_eq_false_iff_not, Bool.and_eq_true, Bool.or_eq_true, Bool.and_eq_false_iff, Bool.or_eq_false_iff, Bool.not_eq_true', Bool.not_eq_false', Bool.not_true, Bool.not_false, bif_and, bif_or, Bool.not_not, ne_eq, Decidable.not_not, not_true_eq_false, not_false_eq_true, Int.not_le, Int.not_lt] at hc7)
          have hjn : s.needs.length ≤ j := by omega
          rw [List.take_of_length_le hjn, ← hvs] at ha
          have hnk := validK_next hlt ha
          refine awp_exit ?_
          change Awp _ _ _ _ _
          refine awp_region 3 mixed (by kernel_rfl) ?_
          refine rg_q (q_move (x := .d (.v _)) rfl) ?_
          refine rg_q (q_add rfl rfl (In64.mk (by (omega)) (by (omega)))) ?_
          refine rg_q (q_assign (x := .d (.v _)) rfl) ?_
          refine rg_nil ?_
          refine aops_nil ?_
          refine ⟨k + 1, by omega, by omega, ?_⟩
          exact le_head (ms := [12]) (by repeat (first | exact Out.head rfl rfl | (refine Out.put ?_ rfl) | (refine Out.site ?_ rfl) | (refine Out.headIn ?_ rfl rfl rfl))) ⟨(by rfl), trivial⟩ ⟨(by (show Site.row 4 1 _ = Site.row 4 1 _; (rw [hnk]; done))), trivial⟩ rfl rfl rfl rfl
    ·
      (try simp only [decide_eq_true_eq, decide_eq_false_iff_not, Bool.and_eq_true, Bool.or_eq_true, Bool.and_eq_false_iff, Bool.or_eq_false_iff, Bool.not_eq_true', Bool.not_eq_false', Bool.not_true, Bool.not_false, bif_and, bif_or, Bool.not_not, ne_eq, Decidable.not_not, not_true_eq_false, not_false_eq_true, Int.not_le, Int.not_lt] at hc3)
      have hkl : k = l.length := by omega
      refine awp_exit ?_
      change Awp _ _ _ _ _
      refine awp_seq ?_
      refine awp_region 2 mixed (by kernel_rfl) ?_
      refine rg_q (q_move (x := .rs _) rfl) ?_
      refine rg_q (q_assign (x := .rs _) rfl) ?_
      refine rg_nil ?_
      refine aops_nil ?_
      change Awp _ _ _ _ _
      refine awp_ret ?_
      refine ⟨_, (.cons (.tmp (by exact .rs rfl)) .nil), ?_⟩
      rw [hkl, validK_all]; rfl
end Go.Proofs.Ytgdcidbpadhkpaa.Am.M
