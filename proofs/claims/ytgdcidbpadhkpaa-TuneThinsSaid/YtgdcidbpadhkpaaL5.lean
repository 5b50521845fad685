/- Contracts over the abstract machine: TuneThins. Conditions: none. -/
import Derived.Test.YtgdcidbpadhkpaaP5
set_option linter.unusedVariables false
set_option linter.unusedSimpArgs false
namespace Go.Proofs.Ytgdcidbpadhkpaa.Am.M
open Go

theorem near_drop {l few : List (Int × Int)} {s : Int} {k : Nat} {x : Int × Int} (hx : l[k]? = some x) : nearS (l.drop k) few s = (devQ (refQ few x.1) x.2 s && nearS (l.drop (k + 1)) few s) := by
  obtain ⟨h, rfl⟩ := List.getElem?_eq_some_iff.1 hx
  unfold nearS; rw [List.drop_eq_getElem_cons h]; rfl
theorem near_dep {l : List (Int × Int)} {i k : Nat} {x y : Int × Int} (hT : Tab l) (hx : l[i]? = some x) (hy : l[k]? = some y) (hik : i < k) : ∀ r ∈ (l.take (k + 1)).drop i, RowIn r ∧ depE [x, y] r.1 = 0 := by
  intro r hr
  obtain ⟨j, hj⟩ := List.getElem?_of_mem hr
  rw [List.getElem?_drop, List.getElem?_take] at hj
  split at hj
  · have hR := hT.rows r (List.mem_of_getElem? hj)
    have h1 : x.1 ≤ r.1 := by
      by_cases e : i + j = i
      · rw [e, hx] at hj; cases hj; exact Int.le_refl _
      · have := asc_lt hT.asc hx hj (by omega); omega
    have h2 : r.1 ≤ y.1 := by
      by_cases e : i + j = k
      · rw [e, hy] at hj; cases hj; exact Int.le_refl _
      · have := asc_lt hT.asc hj hy (by omega); omega
    refine ⟨hR, ?_⟩
    obtain ⟨a1, a2, a3, a4⟩ := hR
    have e1 : inR 0 r.1 100000 = true := by simp [inR]; omega
    have e2 : inR x.1 r.1 y.1 = true := by simp [inR]; omega
    unfold depE
    rw [e1, if_neg (by simp)]
    rw [if_neg]
    simpa using e2
  · cases hj
set_option maxRecDepth 100000 in
theorem Near_p (l few : List (Int × Int)) (s : Int) (hr : ∀ x ∈ l, RowIn x ∧ depE few x.1 = 0) (hck : (ckT few).2 = 0) (hs : 0 ≤ s ∧ s ≤ 1000000) : PC Try.prog 25 [.sl 2 (l.map rowC), .sl 2 (few.map rowC), .v (.int .i64 (s))] (.v (.bool (nearS l few s))) := by
  have hT := ckT_tab hck
  obtain ⟨s1, s2⟩ := hs
  refine pc_of_awp Try.func25 rfl Try.ntmps25 (rs := [.tmp 6]) Try.results25 (by simp) fun w0 => ?_
  refine awp_seq ?_
  refine awp_region 1 mixed (by kernel_rfl) ?_
  refine rg_q (q_assign (x := .d (.v _)) rfl) ?_
  refine rg_nil ?_
  refine aops_nil ?_
  change Awp _ _ _ _ _
  refine awp_seq ?_
  refine awp_seq ?_
  refine awp_region 1 mixed (by kernel_rfl) ?_
  refine rg_q (q_assign (x := .d (.v _)) rfl) ?_
  refine rg_nil ?_
  refine aops_nil ?_
  change Awp _ _ _ _ _
  refine awp_block ?_
  refine awp_loopH [6, 7, 8, 9, 10, 11, 12, 13, 14, 15, 16, 17, 18, 19, 20, 21, 22, 23, 24, 25, 26, 27, 28, 29, 30, 31, 32, 33, 34, 35, 36, 37, 38] [] (α := Nat) (fun k => [(7, T.i (k : Int))]) (fun k => []) (fun k => k ≤ l.length ∧ nearS l few s = nearS (l.drop k) few s) (fun k => l.length - k) 0 ⟨Nat.zero_le _, rfl⟩ ?_ ?_
  · exact le_head (ms := []) (by repeat (first | exact Out.refl _ | exact Out.head rfl rfl | (refine Out.put ?_ rfl) | (refine Out.site ?_ rfl) | (refine Out.putn ?_) | (refine Out.headIn ?_ rfl rfl rfl) | (refine Out.called ?_ rfl rfl))) ⟨(by first | rfl | (simp; done)), trivial⟩ trivial rfl rfl rfl rfl
  ·
    intro k ⟨hk, hh⟩
    refine awp_seq ?_
    refine awp_seq ?_
    refine awp_region 4 mixed (by kernel_rfl) ?_
    refine rg_q (q_move (x := .d (.v _)) rfl) ?_
    first | refine rg_q (q_move (x := .d (.sl _ _)) rfl) ?_ | refine rg_q (q_move (x := .rs _) rfl) ?_ | refine rg_q (q_move (x := .d (.v _)) rfl) ?_
    first | refine rg_q (q_len isl22 rfl (by first | exact len_map _ _ | rfl)) ?_ | refine rg_q (q_len_rs isl22 rfl rfl) ?_ | refine rg_q (q_len_nil isl22 rfl) ?_
    refine rg_q (q_lss rfl rfl) ?_
    refine rg_nil ?_
    refine aops_nil ?_
    change Awp _ _ _ _ _
    first | refine awp_len (t := 10) rfl (fun hl10 => ?_) | skip
    (try simp only [List.length_map] at hl10)
    refine awp_cond rfl (fun hc2 => ?_) (fun hc2 => ?_)
    ·
      (try simp only [decide_eq_true_eq, decide_eq_false_iff_not, Bool.and_eq_true, Bool.or_eq_true, Bool.and_eq_false_iff, Bool.or_eq_false_iff, Bool.not_eq_true', Bool.not_eq_false', Bool.not_true, Bool.not_false, bif_and, bif_or, Bool.not_not, ne_eq, Decidable.not_not, not_true_eq_false, not_false_eq_true, Int.not_le, Int.not_lt] at hc2)
      have hlt : k < l.length := by omega
      obtain ⟨x, hx⟩ : ∃ x, l[k]? = some x := ⟨_, List.getElem?_eq_getElem hlt⟩
      obtain ⟨⟨x1, x2, x3, x4⟩, hd⟩ := hr x (List.mem_of_getElem? hx)
      have hst := near_drop (few := few) (s := s) hx
      obtain ⟨q1, q2, q3, q4, -, -⟩ := refQ_in hck hd
      have hcq := echo_p few x.1 hT hd
      generalize refQ few x.1 = S at *
      obtain ⟨n, m⟩ := S
      simp only at q1 q2 q3 q4
      have m1 := mulb (a := x.2) (b := m) (A := 1000000) (B := 100000) (by omega) (by omega) (by omega) (by omega)
      have m2 := mulb (a := s) (b := m) (A := 1000000) (B := 100000) (by omega) (by omega) (by omega) (by omega)
      refine awp_skip ?_
      change Awp _ _ _ _ _
      refine awp_seq ?_
      refine awp_block ?_
      refine awp_seq ?_
      refine awp_region 7 mixed (by kernel_rfl) ?_
      first | refine rg_q (q_move (x := .d (.sl _ _)) rfl) ?_ | refine rg_q (q_move (x := .rs _) rfl) ?_ | refine rg_q (q_move (x := .d (.v _)) rfl) ?_
      first | refine rg_q (q_move (x := .d (.sl _ _)) rfl) ?_ | refine rg_q (q_move (x := .rs _) rfl) ?_ | refine rg_q (q_move (x := .d (.v _)) rfl) ?_
      refine rg_q (q_move (x := .d (.v _)) rfl) ?_
      first | refine rg_q (q_indexAddr sl22 rfl rfl (by (first | omega | (simp only; omega) | (simp only [List.length_map, List.length_set]; omega))) (map_at (by (first | omega | (simp only; omega) | (simp only [List.length_map, List.length_set]; omega))) hx)) ?_ | refine rg_q (q_indexAddr_rs sl22 rfl rfl rfl (by (first | omega | (simp only; omega) | (simp only [List.length_map, List.length_set]; omega))) (by (first | omega | (simp only; omega) | (simp only [List.length_map, List.length_set]; omega)))) ?_
      first | refine rg_q (q_fieldAddr fld59_0 rfl) ?_ | refine rg_q (q_fieldAddr_ref fld59_0 rfl) ?_
      first | refine rg_q (q_load sz3 rfl rfl) ?_ | refine rg_q (q_load_ref sz3 rfl rfl rfl) ?_ | refine rg_q (q_load_tb (x := .d _) sz3 rfl rfl rfl) ?_ | refine rg_q (q_load_tb (x := .rs _) sz3 rfl rfl rfl) ?_
      first | refine rg_q (q_call en75 (.cons rfl (.cons rfl .nil)) rfl (hcq)) ?_ | refine rg_q (q_callF en75 (.cons (by first | exact .d _ | exact .rs rfl | exact .ref rfl | exact .nil _ | exact .tref rfl (by repeat (first | exact .nil | refine .cons (.d _ rfl) ?_ | refine .cons (.rs rfl) ?_))) (.cons (by first | exact .d _ | exact .rs rfl | exact .ref rfl | exact .nil _ | exact .tref rfl (by repeat (first | exact .nil | refine .cons (.d _ rfl) ?_ | refine .cons (.rs rfl) ?_))) .nil)) rfl (hcq) (by first | exact .v _ | exact D.Flat.tupF (by repeat first | exact trivial | refine ⟨.v _, ?_⟩) | exact D.Flat.aggF (by repeat first | exact trivial | refine ⟨.v _, ?_⟩))) ?_
      refine rg_nil ?_
      refine aops_alloc zr116 rfl rfl rfl ?_
      first | refine aops_store sz116 rfl rfl (by first | exact .inl rfl | exact .inr ⟨_, rfl⟩) rfl rfl (by first | decide | simp) rfl ?_ | refine aops_storeT (z := .rs _) sz116 rfl rfl rfl rfl (by first | decide | simp) rfl ?_ | refine aops_storeT (z := .d _) sz116 rfl rfl rfl rfl (by first | decide | simp) rfl ?_ | refine aops_storeTA sz116 rfl rfl (by first | exact .inl rfl | exact .inr ⟨_, rfl⟩) rfl rfl (by first | decide | simp) rfl ?_
      refine aops_nil ?_
      change Awp _ _ _ _ _
      refine awp_seq ?_
      refine awp_region 17 mixed (by kernel_rfl) ?_
      first | refine rg_q (q_fieldAddr fld116_0 rfl) ?_ | refine rg_q (q_fieldAddr_ref fld116_0 rfl) ?_
      first | refine rg_q (q_load sz3 rfl rfl) ?_ | refine rg_q (q_load_ref sz3 rfl rfl rfl) ?_ | refine rg_q (q_load_tb (x := .d _) sz3 rfl rfl rfl) ?_ | refine rg_q (q_load_tb (x := .rs _) sz3 rfl rfl rfl) ?_
      first | refine rg_q (q_move (x := .d (.sl _ _)) rfl) ?_ | refine rg_q (q_move (x := .rs _) rfl) ?_ | refine rg_q (q_move (x := .d (.v _)) rfl) ?_
      refine rg_q (q_move (x := .d (.v _)) rfl) ?_
      first | refine rg_q (q_indexAddr sl22 rfl rfl (by (first | omega | (simp only; omega) | (simp only [List.length_map, List.length_set]; omega))) (map_at (by (first | omega | (simp only; omega) | (simp only [List.length_map, List.length_set]; omega))) hx)) ?_ | refine rg_q (q_indexAddr_rs sl22 rfl rfl rfl (by (first | omega | (simp only; omega) | (simp only [List.length_map, List.length_set]; omega))) (by (first | omega | (simp only; omega) | (simp only [List.length_map, List.length_set]; omega)))) ?_
      first | refine rg_q (q_fieldAddr fld59_1 rfl) ?_ | refine rg_q (q_fieldAddr_ref fld59_1 rfl) ?_
      first | refine rg_q (q_load sz3 rfl rfl) ?_ | refine rg_q (q_load_ref sz3 rfl rfl rfl) ?_ | refine rg_q (q_load_tb (x := .d _) sz3 rfl rfl rfl) ?_ | refine rg_q (q_load_tb (x := .rs _) sz3 rfl rfl rfl) ?_
      first | refine rg_q (q_fieldAddr fld116_1 rfl) ?_ | refine rg_q (q_fieldAddr_ref fld116_1 rfl) ?_
      first | refine rg_q (q_load sz3 rfl rfl) ?_ | refine rg_q (q_load_ref sz3 rfl rfl rfl) ?_ | refine rg_q (q_load_tb (x := .d _) sz3 rfl rfl rfl) ?_ | refine rg_q (q_load_tb (x := .rs _) sz3 rfl rfl rfl) ?_
      refine rg_q (q_mul rfl rfl (In64.mk (by (first | omega | (simp only; omega) | (simp only [List.length_map, List.length_set]; omega))) (by (first | omega | (simp only; omega) | (simp only [List.length_map, List.length_set]; omega))))) ?_
      refine rg_q (q_sub rfl rfl (In64.mk (by (first | omega | (simp only; omega) | (simp only [List.length_map, List.length_set]; omega))) (by (first | omega | (simp only; omega) | (simp only [List.length_map, List.length_set]; omega))))) ?_
      first | refine rg_q (q_call en76 (.cons rfl .nil) rfl (Size_p _ ⟨by first | omega | (simp only; omega), by first | omega | (simp only; omega)⟩)) ?_ | refine rg_q (q_callF en76 (.cons (by first | exact .d _ | exact .rs rfl | exact .ref rfl | exact .nil _ | exact .tref rfl (by repeat (first | exact .nil | refine .cons (.d _ rfl) ?_ | refine .cons (.rs rfl) ?_))) .nil) rfl (Size_p _ ⟨by first | omega | (simp only; omega), by first | omega | (simp only; omega)⟩) (by first | exact .v _ | exact D.Flat.tupF (by repeat first | exact trivial | refine ⟨.v _, ?_⟩) | exact D.Flat.aggF (by repeat first | exact trivial | refine ⟨.v _, ?_⟩))) ?_
      refine rg_q (q_move (x := .d (.v _)) rfl) ?_
      first | refine rg_q (q_fieldAddr fld116_1 rfl) ?_ | refine rg_q (q_fieldAddr_ref fld116_1 rfl) ?_
      first | refine rg_q (q_load sz3 rfl rfl) ?_ | refine rg_q (q_load_ref sz3 rfl rfl rfl) ?_ | refine rg_q (q_load_tb (x := .d _) sz3 rfl rfl rfl) ?_ | refine rg_q (q_load_tb (x := .rs _) sz3 rfl rfl rfl) ?_
      refine rg_q (q_mul rfl rfl (In64.mk (by (first | omega | (simp only; omega) | (simp only [List.length_map, List.length_set]; omega))) (by (first | omega | (simp only; omega) | (simp only [List.length_map, List.length_set]; omega))))) ?_
      refine rg_q (q_gtr rfl rfl) ?_
      refine rg_nil ?_
      refine aops_nil ?_
      change Awp _ _ _ _ _
      refine awp_cond rfl (fun hc5 => ?_) (fun hc5 => ?_)
      ·
        (try simp only [decide_eq_true_eq, decide_eq_false_iff_not, Bool.and_eq_true, Bool.or_eq_true, Bool.and_eq_false_iff, Bool.or_eq_false_iff, Bool.not_eq_true', Bool.not_eq_false', Bool.not_true, Bool.not_false, bif_and, bif_or, Bool.not_not, ne_eq, Decidable.not_not, not_true_eq_false, not_false_eq_true, Int.not_le, Int.not_lt] at hc5)
        have hv : devQ (n, m) x.2 s = false := decide_eq_false (by simp only; omega)
        refine awp_seq ?_
        refine awp_region 1 mixed (by kernel_rfl) ?_
        refine rg_q (q_assign (x := .d (.v _)) rfl) ?_
        refine rg_nil ?_
        refine aops_nil ?_
        change Awp _ _ _ _ _
        refine awp_ret ?_
        refine ⟨_, (.cons (.tmp (by first | exact .d _ | exact .rs rfl | exact .ref rfl | exact .tref rfl (.cons (.d _ rfl) (.cons (.rs rfl) .nil)))) .nil), ?_⟩
        rw [hh, hst, hv]; rfl
      ·
        (try simp only [decide_eq_true_eq, decide_eq_false_iff_not, Bool.and_eq_true, Bool.or_eq_true, Bool.and_eq_false_iff, Bool.or_eq_false_iff, Bool.not_eq_true', Bool.not_eq_false', Bool.not_true, Bool.not_false, bif_and, bif_or, Bool.not_not, ne_eq, Decidable.not_not, not_true_eq_false, not_false_eq_true, Int.not_le, Int.not_lt] at hc5)
        have hv : devQ (n, m) x.2 s = true := decide_eq_true (by simp only; omega)
        refine awp_skip ?_
        change Awp _ _ _ _ _
        refine awp_region 3 mixed (by kernel_rfl) ?_
        refine rg_q (q_move (x := .d (.v _)) rfl) ?_
        refine rg_q (q_add rfl rfl (In64.mk (by (first | omega | (simp only; omega) | (simp only [List.length_map, List.length_set]; omega))) (by (first | omega | (simp only; omega) | (simp only [List.length_map, List.length_set]; omega))))) ?_
        refine rg_q (q_assign (x := .d (.v _)) rfl) ?_
        refine rg_nil ?_
        refine aops_nil ?_
        refine ⟨k + 1, ⟨by omega, by rw [hh, hst, hv, Bool.true_and]⟩, by omega, ?_⟩
        exact le_head (ms := []) (by repeat (first | exact Out.refl _ | exact Out.head rfl rfl | (refine Out.put ?_ rfl) | (refine Out.site ?_ rfl) | (refine Out.putn ?_) | (refine Out.headIn ?_ rfl rfl rfl) | (refine Out.called ?_ rfl rfl))) ⟨(by first | rfl | (simp; done)), trivial⟩ trivial rfl rfl rfl rfl
    ·
      (try simp only [decide_eq_true_eq, decide_eq_false_iff_not, Bool.and_eq_true, Bool.or_eq_true, Bool.and_eq_false_iff, Bool.or_eq_false_iff, Bool.not_eq_true', Bool.not_eq_false', Bool.not_true, Bool.not_false, bif_and, bif_or, Bool.not_not, ne_eq, Decidable.not_not, not_true_eq_false, not_false_eq_true, Int.not_le, Int.not_lt] at hc2)
      refine awp_exit ?_
      change Awp _ _ _ _ _
      refine awp_seq ?_
      refine awp_region 1 mixed (by kernel_rfl) ?_
      refine rg_q (q_assign (x := .d (.v _)) rfl) ?_
      refine rg_nil ?_
      refine aops_nil ?_
      change Awp _ _ _ _ _
      refine awp_ret ?_
      refine ⟨_, (.cons (.tmp (by first | exact .d _ | exact .rs rfl | exact .ref rfl | exact .tref rfl (.cons (.d _ rfl) (.cons (.rs rfl) .nil)))) .nil), ?_⟩
      rw [hh, List.drop_of_length_le (by omega)]; rfl
set_option maxRecDepth 100000 in
theorem rThinned_p (l : List (Int × Int)) (s : Int) (hck : (ckT l).2 = 0) (hs : 0 ≤ s ∧ s ≤ 1000000) : PC Try.prog 23 [.sl 2 (l.map rowC), .v (.int .i64 (s))] (.sl 1 (((thinL l s).map fun (n : Nat) => (n : Int)).map iC)) := by
  have hT := ckT_tab hck
  have hpos := hT.pos
  have hfew := hT.few
  have hS := dp_sh l s hpos
  have hM : ∀ i, i ≤ l.length - 1 → gM (dpF l s) i ≤ l.length - 1 - i := fun i hi => hS.le (fun i => spans_next l i s) _ i hi rfl
  have hR0 := rest_first (l := l) (s := s)
  have hNe : ∀ i, (dpF l s).2.getD i 0 = gN (dpF l s) i := fun i => rfl
  generalize gM (dpF l s) = M at *
  generalize gN (dpF l s) = N at *
  generalize hTl : thinL l s = Tl at *
  refine pc_of_awp Try.func23 rfl Try.ntmps23 (rs := [.tmp 4]) Try.results23 (by simp) fun w0 => ?_
  refine awp_seq ?_
  refine awp_region 1 mixed (by kernel_rfl) ?_
  first | refine rg_q (q_assign (x := .d (.sl _ _)) rfl) ?_ | refine rg_q (q_assign (x := .rs _) rfl) ?_ | refine rg_q (q_assign (x := .d (.v _)) rfl) ?_
  refine rg_nil ?_
  refine aops_nil ?_
  change Awp _ _ _ _ _
  refine awp_seq ?_
  refine awp_region 3 mixed (by kernel_rfl) ?_
  first | refine rg_q (q_move (x := .d (.sl _ _)) rfl) ?_ | refine rg_q (q_move (x := .rs _) rfl) ?_ | refine rg_q (q_move (x := .d (.v _)) rfl) ?_
  first | refine rg_q (q_len isl22 rfl (by first | exact len_map _ _ | rfl)) ?_ | refine rg_q (q_len_rs isl22 rfl rfl) ?_ | refine rg_q (q_len_nil isl22 rfl) ?_
  refine rg_q (q_assign (x := .d (.v _)) rfl) ?_
  refine rg_nil ?_
  refine aops_nil ?_
  change Awp _ _ _ _ _
  first | refine awp_len (t := 12) rfl (fun hl12 => ?_) | skip
  (try simp only [List.length_map] at hl12)
  refine awp_seq ?_
  refine awp_regionM 6 [none, some 15, none, some 17, none, none] mixed (by kernel_rfl) ?_
  refine rgm_q rfl (q_move (x := .d (.v _)) rfl) ?_
  refine rgm_m (k := 15) rfl rfl (by rfl) (m_make sl25 zr3 by3 rfl rfl rfl rfl (by (try simp only [List.length_map]); omega) (by (try simp only [List.length_map]); omega) rfl) ?_
  refine rgm_q rfl (q_move (x := .d (.v _)) rfl) ?_
  refine rgm_m (k := 17) rfl rfl (by rfl) (m_make sl25 zr3 by3 rfl rfl rfl rfl (by (try simp only [List.length_map]); omega) (by (try simp only [List.length_map]); omega) rfl) ?_
  first | refine rgm_q rfl (q_assign (x := .d (.sl _ _)) rfl) ?_ | refine rgm_q rfl (q_assign (x := .rs _) rfl) ?_ | refine rgm_q rfl (q_assign (x := .d (.v _)) rfl) ?_
  first | refine rgm_q rfl (q_assign (x := .d (.sl _ _)) rfl) ?_ | refine rgm_q rfl (q_assign (x := .rs _) rfl) ?_ | refine rgm_q rfl (q_assign (x := .d (.v _)) rfl) ?_
  refine rgm_nil ?_
  refine aops_nil ?_
  change Awp _ _ _ _ _
  refine awp_seq ?_
  refine awp_seq ?_
  refine awp_region 3 mixed (by kernel_rfl) ?_
  refine rg_q (q_move (x := .d (.v _)) rfl) ?_
  refine rg_q (q_sub rfl rfl (In64.mk (by (first | omega | (simp only; omega) | (simp only [List.length_map, List.length_set]; omega))) (by (first | omega | (simp only; omega) | (simp only [List.length_map, List.length_set]; omega))))) ?_
  refine rg_q (q_assign (x := .d (.v _)) rfl) ?_
  refine rg_nil ?_
  refine aops_nil ?_
  change Awp _ _ _ _ _
  refine awp_block ?_
  refine awp_loopH [8, 9, 20, 21, 22, 23, 24, 25, 26, 27, 28, 29, 30, 31, 32, 33, 34, 35, 36, 37, 38, 39, 40, 41, 42, 43, 44, 45, 46, 47, 48, 49, 50, 51, 52, 53, 54, 55, 56, 57, 58, 59, 60, 61, 62, 63, 64, 65, 66, 67, 68, 69, 70, 71, 72, 73, 74, 75, 76, 77, 78, 79, 80, 81, 82, 83, 84, 85, 86] [15, 17] (α := Nat × List Int × List Int) (fun p => [(8, T.i ((p.1 : Int) - 1))]) (fun p => [(15, .row 3 1 (p.2.1.map iC)), (17, .row 3 1 (p.2.2.map iC))]) (fun p => p.1 ≤ l.length ∧ p.2.1.length = l.length ∧ p.2.2.length = l.length ∧ (∀ m, p.1 ≤ m → m < l.length → p.2.1[m]? = some ((M m : Int) + 1)) ∧ (∀ m, p.1 ≤ m → m < l.length - 1 → p.2.2[m]? = some (N m : Int)) ∧ (p.1 ≤ l.length - 1 → p.2.2[l.length - 1]? = some (l.length : Int))) (fun p => p.1) (l.length, List.replicate l.length 0, List.replicate l.length 0) ⟨Nat.le_refl _, by simp, by simp, fun m h1 h2 => by simp only at h1; omega, fun m h1 h2 => by simp only at h1; omega, fun h => by simp only at h; omega⟩ ?_ ?_
  · exact le_head (ms := [15, 17]) (by repeat (first | exact Out.refl _ | exact Out.head rfl rfl | (refine Out.put ?_ rfl) | (refine Out.site ?_ rfl) | (refine Out.putn ?_) | (refine Out.headIn ?_ rfl rfl rfl) | (refine Out.called ?_ rfl rfl) | (refine Out.killS ?_ rfl))) ⟨(by first | rfl | (show Site.row 3 1 (List.replicate l.length [D.v (.int .i64 0)]) = _; simp [iC]; done)), trivial⟩ ⟨(by first | rfl | (show Site.row 3 1 (List.replicate l.length [D.v (.int .i64 0)]) = _; simp [iC]; done)), (by first | rfl | (show Site.row 3 1 (List.replicate l.length [D.v (.int .i64 0)]) = _; simp [iC]; done)), trivial⟩ rfl rfl rfl rfl
  ·
    intro ⟨j, c, x⟩ ⟨hj, lc, lx, ic, ix, iz⟩
    simp only at hj lc lx ic ix iz
    refine awp_seq ?_
    refine awp_seq ?_
    refine awp_region 2 mixed (by kernel_rfl) ?_
    refine rg_q (q_move (x := .d (.v _)) rfl) ?_
    refine rg_q (q_geq rfl rfl) ?_
    refine rg_nil ?_
    refine aops_nil ?_
    change Awp _ _ _ _ _
    refine awp_cond rfl (fun hc4 => ?_) (fun hc4 => ?_)
    ·
      (try simp only [decide_eq_true_eq, decide_eq_false_iff_not, Bool.and_eq_true, Bool.or_eq_true, Bool.and_eq_false_iff, Bool.or_eq_false_iff, Bool.not_eq_true', Bool.not_eq_false', Bool.not_true, Bool.not_false, bif_and, bif_or, Bool.not_not, ne_eq, Decidable.not_not, not_true_eq_false, not_false_eq_true, Int.not_le, Int.not_lt] at hc4)
      obtain ⟨i, rfl⟩ : ∃ i, j = i + 1 := ⟨j - 1, by omega⟩
      have hji : ((i + 1 : Nat) : Int) - 1 = (i : Int) := by omega
      rw [hji]
      have hlt : i < l.length := by omega
      obtain ⟨ci, hci⟩ : ∃ y, c[i]? = some y := ⟨_, List.getElem?_eq_getElem (by omega)⟩
      obtain ⟨xi, hxi⟩ : ∃ y, x[i]? = some y := ⟨_, List.getElem?_eq_getElem (by omega)⟩
      have hci1 : (c.set i 1)[i]? = some 1 := List.getElem?_set_self (by omega)
      refine awp_skip ?_
      change Awp _ _ _ _ _
      refine awp_seq ?_
      refine awp_block ?_
      refine awp_seq ?_
      refine awp_region 6 mixed (by kernel_rfl) ?_
      first | refine rg_q (q_move (x := .d (.sl _ _)) rfl) ?_ | refine rg_q (q_move (x := .rs _) rfl) ?_ | refine rg_q (q_move (x := .d (.v _)) rfl) ?_
      refine rg_q (q_move (x := .d (.v _)) rfl) ?_
      first | refine rg_q (q_move (x := .d (.sl _ _)) rfl) ?_ | refine rg_q (q_move (x := .rs _) rfl) ?_ | refine rg_q (q_move (x := .d (.v _)) rfl) ?_
      refine rg_q (q_move (x := .d (.v _)) rfl) ?_
      refine rg_q (q_move (x := .d (.v _)) rfl) ?_
      first | refine rg_q (q_indexAddr sl25 rfl rfl (by (first | omega | (simp only; omega) | (simp only [List.length_map, List.length_set]; omega))) (map_at (by (first | omega | (simp only; omega) | (simp only [List.length_map, List.length_set]; omega))) ha)) ?_ | refine rg_q (q_indexAddr sl25 rfl rfl (by (first | omega | (simp only; omega) | (simp only [List.length_map, List.length_set]; omega))) (map_at (by (first | omega | (simp only; omega) | (simp only [List.length_map, List.length_set]; omega))) hb)) ?_ | refine rg_q (q_indexAddr_rs sl25 rfl rfl rfl (by (first | omega | (simp only; omega) | (simp only [List.length_map, List.length_set]; omega))) (by (first | omega | (simp only; omega) | (simp only [List.length_map, List.length_set]; omega)))) ?_
      refine rg_nil ?_
      refine aops_store_row sz3 rfl rfl (by first | exact .inl rfl | exact .inr ⟨_, rfl⟩) rfl rfl (i := i) (j := 0) (es' := (c.set i 1).map iC) (by omega) (map_get hci) (by decide) (set_map iC _ _ _ rfl) ?_
      first | refine aops_q rfl (q_indexAddr sl25 rfl rfl (by (first | omega | (simp only; omega) | (simp only [List.length_map, List.length_set]; omega))) (map_at (by (first | omega | (simp only; omega) | (simp only [List.length_map, List.length_set]; omega))) ha)) ?_ | refine aops_q rfl (q_indexAddr sl25 rfl rfl (by (first | omega | (simp only; omega) | (simp only [List.length_map, List.length_set]; omega))) (map_at (by (first | omega | (simp only; omega) | (simp only [List.length_map, List.length_set]; omega))) hb)) ?_ | refine aops_q rfl (q_indexAddr_rs sl25 rfl rfl rfl (by (first | omega | (simp only; omega) | (simp only [List.length_map, List.length_set]; omega))) (by (first | omega | (simp only; omega) | (simp only [List.length_map, List.length_set]; omega)))) ?_
      refine aops_store_row sz3 rfl rfl (by first | exact .inl rfl | exact .inr ⟨_, rfl⟩) rfl rfl (i := i) (j := 0) (es' := (x.set i (l.length : Int)).map iC) (by omega) (map_get hxi) (by decide) (set_map iC _ _ _ rfl) ?_
      refine aops_nil ?_
      change Awp _ _ _ _ _
      refine awp_seq ?_
      refine awp_seq ?_
      refine awp_region 4 mixed (by kernel_rfl) ?_
      refine rg_q (q_move (x := .d (.v _)) rfl) ?_
      refine rg_q (q_move (x := .d (.v _)) rfl) ?_
      refine rg_q (q_sub rfl rfl (In64.mk (by (first | omega | (simp only; omega) | (simp only [List.length_map, List.length_set]; omega))) (by (first | omega | (simp only; omega) | (simp only [List.length_map, List.length_set]; omega))))) ?_
      refine rg_q (q_eql rfl rfl) ?_
      refine rg_nil ?_
      refine aops_nil ?_
      change Awp _ _ _ _ _
      refine awp_cond rfl (fun hc7 => ?_) (fun hc7 => ?_)
      ·
        (try simp only [decide_eq_true_eq, decide_eq_false_iff_not, Bool.and_eq_true, Bool.or_eq_true, Bool.and_eq_false_iff, Bool.or_eq_false_iff, Bool.not_eq_true', Bool.not_eq_false', Bool.not_true, Bool.not_false, bif_and, bif_or, Bool.not_not, ne_eq, Decidable.not_not, not_true_eq_false, not_false_eq_true, Int.not_le, Int.not_lt] at hc7)
        have hil : i = l.length - 1 := by omega
        have hM0 : M i = 0 := by rw [hil]; exact hS.top
        refine awp_exit ?_
        change Awp _ _ _ _ _
        refine awp_region 3 mixed (by kernel_rfl) ?_
        refine rg_q (q_move (x := .d (.v _)) rfl) ?_
        refine rg_q (q_sub rfl rfl (In64.mk (by (first | omega | (simp only; omega) | (simp only [List.length_map, List.length_set]; omega))) (by (first | omega | (simp only; omega) | (simp only [List.length_map, List.length_set]; omega))))) ?_
        refine rg_q (q_assign (x := .d (.v _)) rfl) ?_
        refine rg_nil ?_
        refine aops_nil ?_
        refine ⟨(i, c.set i 1, x.set i (l.length : Int)), ⟨by simp only; omega, by simp [lc], by simp [lx], (fun m h1 h2 => if e : i = m then (by subst e; simp only; rw [List.getElem?_set_self (by omega), hM0]; rfl) else (by simp only at h1 ⊢; rw [List.getElem?_set_ne e]; exact ic m (by omega) h2)), (fun m h1 h2 => by simp only at h1; omega), (fun h => by simp only; rw [hil]; exact List.getElem?_set_self (by omega))⟩, by simp only; omega, ?_⟩
        exact le_head (ms := [15, 17]) (by repeat (first | exact Out.refl _ | exact Out.head rfl rfl | (refine Out.put ?_ rfl) | (refine Out.site ?_ rfl) | (refine Out.putn ?_) | (refine Out.headIn ?_ rfl rfl rfl) | (refine Out.called ?_ rfl rfl) | (refine Out.killS ?_ rfl))) ⟨(by first | rfl | (show Site.row 3 1 (List.replicate l.length [D.v (.int .i64 0)]) = _; simp [iC]; done)), trivial⟩ ⟨(by first | rfl | (show Site.row 3 1 (List.replicate l.length [D.v (.int .i64 0)]) = _; simp [iC]; done)), (by first | rfl | (show Site.row 3 1 (List.replicate l.length [D.v (.int .i64 0)]) = _; simp [iC]; done)), trivial⟩ rfl rfl rfl rfl
      ·
        (try simp only [decide_eq_true_eq, decide_eq_false_iff_not, Bool.and_eq_true, Bool.or_eq_true, Bool.and_eq_false_iff, Bool.or_eq_false_iff, Bool.not_eq_true', Bool.not_eq_false', Bool.not_true, Bool.not_false, bif_and, bif_or, Bool.not_not, ne_eq, Decidable.not_not, not_true_eq_false, not_false_eq_true, Int.not_le, Int.not_lt] at hc7)
        have hil : i < l.length - 1 := by omega
        refine awp_skip ?_
        change Awp _ _ _ _ _
        refine awp_seq ?_
        refine awp_region 5 mixed (by kernel_rfl) ?_
        first | refine rg_q (q_move (x := .d (.sl _ _)) rfl) ?_ | refine rg_q (q_move (x := .rs _) rfl) ?_ | refine rg_q (q_move (x := .d (.v _)) rfl) ?_
        refine rg_q (q_move (x := .d (.v _)) rfl) ?_
        refine rg_q (q_move (x := .d (.v _)) rfl) ?_
        refine rg_q (q_add rfl rfl (In64.mk (by (first | omega | (simp only; omega) | (simp only [List.length_map, List.length_set]; omega))) (by (first | omega | (simp only; omega) | (simp only [List.length_map, List.length_set]; omega))))) ?_
        first | refine rg_q (q_indexAddr sl25 rfl rfl (by (first | omega | (simp only; omega) | (simp only [List.length_map, List.length_set]; omega))) (map_at (by (first | omega | (simp only; omega) | (simp only [List.length_map, List.length_set]; omega))) ha)) ?_ | refine rg_q (q_indexAddr sl25 rfl rfl (by (first | omega | (simp only; omega) | (simp only [List.length_map, List.length_set]; omega))) (map_at (by (first | omega | (simp only; omega) | (simp only [List.length_map, List.length_set]; omega))) hb)) ?_ | refine rg_q (q_indexAddr_rs sl25 rfl rfl rfl (by (first | omega | (simp only; omega) | (simp only [List.length_map, List.length_set]; omega))) (by (first | omega | (simp only; omega) | (simp only [List.length_map, List.length_set]; omega)))) ?_
        refine rg_nil ?_
        refine aops_store_row sz3 rfl rfl (by first | exact .inl rfl | exact .inr ⟨_, rfl⟩) rfl rfl (i := i) (j := 0) (es' := (c.set i ((l.length : Int) + 1)).map iC) (by omega) (map_get hci1) (by decide) ((set_map iC _ _ ((l.length : Int) + 1) rfl).trans (by rw [List.set_set])) ?_
        refine aops_nil ?_
        change Awp _ _ _ _ _
        refine awp_seq ?_
        refine awp_region 3 mixed (by kernel_rfl) ?_
        refine rg_q (q_move (x := .d (.v _)) rfl) ?_
        refine rg_q (q_add rfl rfl (In64.mk (by (first | omega | (simp only; omega) | (simp only [List.length_map, List.length_set]; omega))) (by (first | omega | (simp only; omega) | (simp only [List.length_map, List.length_set]; omega))))) ?_
        refine rg_q (q_assign (x := .d (.v _)) rfl) ?_
        refine rg_nil ?_
        refine aops_nil ?_
        change Awp _ _ _ _ _
        refine awp_block ?_
        refine awp_loopH [9, 42, 43, 44, 45, 46, 47, 48, 49, 50, 51, 52, 53, 54, 55, 56, 57, 58, 59, 60, 61, 62, 63, 64, 65, 66, 67, 68, 69, 70, 71, 72, 73, 74, 75, 76, 77, 78, 79, 80, 81, 82, 83, 84, 85, 86] [15, 17] (α := Nat × List Int × List Int) (fun p => [(9, T.i (p.1 : Int))]) (fun p => [(15, .row 3 1 (p.2.1.map iC)), (17, .row 3 1 (p.2.2.map iC))]) (fun p => i + 1 ≤ p.1 ∧ p.1 ≤ l.length ∧ p.2.1.length = l.length ∧ p.2.2.length = l.length ∧ (∀ m, i < m → m < l.length → p.2.1[m]? = some ((M m : Int) + 1)) ∧ (∀ m, i < m → m < l.length - 1 → p.2.2[m]? = some (N m : Int)) ∧ p.2.2[l.length - 1]? = some (l.length : Int) ∧ ∃ ci xi, p.2.1[i]? = some ci ∧ p.2.2[i]? = some xi ∧ ci ≤ (l.length : Int) + 1 ∧ 0 ≤ ci ∧ Fst (spansS l · · s) l.length i p.1 M ci xi) (fun p => l.length - p.1) (i + 1, c.set i ((l.length : Int) + 1), x.set i (l.length : Int)) ⟨Nat.le_refl _, by simp only; omega, by simp [lc], by simp [lx], (fun m h1 h2 => by simp only; rw [List.getElem?_set_ne (by omega)]; exact ic m (by omega) h2), (fun m h1 h2 => by simp only; rw [List.getElem?_set_ne (by omega)]; exact ix m (by omega) h2), by simp only; rw [List.getElem?_set_ne (by omega)]; exact iz (by omega), _, _, List.getElem?_set_self (by omega), List.getElem?_set_self (by omega), Int.le_refl _, by omega, .inl ⟨rfl, fun j h1 h2 => by simp only at h2; omega⟩⟩ ?_ ?_
        · exact le_head (ms := [15, 17]) (by repeat (first | exact Out.refl _ | exact Out.head rfl rfl | (refine Out.put ?_ rfl) | (refine Out.site ?_ rfl) | (refine Out.putn ?_) | (refine Out.headIn ?_ rfl rfl rfl) | (refine Out.called ?_ rfl rfl) | (refine Out.killS ?_ rfl))) ⟨(by first | rfl | (simp; done)), trivial⟩ ⟨(by first | rfl | (simp; done)), (by first | rfl | (simp; done)), trivial⟩ rfl rfl rfl rfl
        ·
          intro ⟨k, c2, x2⟩ ⟨hk1, hk2, lc2, lx2, ic2, ix2, iz2, ci2, xi2, hci2, hxi2, hb1, hb2, hF⟩
          simp only at hk1 hk2 lc2 lx2 ic2 ix2 iz2 hci2 hxi2 hF
          refine awp_seq ?_
          refine awp_seq ?_
          refine awp_region 3 mixed (by kernel_rfl) ?_
          refine rg_q (q_move (x := .d (.v _)) rfl) ?_
          refine rg_q (q_move (x := .d (.v _)) rfl) ?_
          refine rg_q (q_lss rfl rfl) ?_
          refine rg_nil ?_
          refine aops_nil ?_
          change Awp _ _ _ _ _
          refine awp_cond rfl (fun hc10 => ?_) (fun hc10 => ?_)
          ·
            (try simp only [decide_eq_true_eq, decide_eq_false_iff_not, Bool.and_eq_true, Bool.or_eq_true, Bool.and_eq_false_iff, Bool.or_eq_false_iff, Bool.not_eq_true', Bool.not_eq_false', Bool.not_true, Bool.not_false, bif_and, bif_or, Bool.not_not, ne_eq, Decidable.not_not, not_true_eq_false, not_false_eq_true, Int.not_le, Int.not_lt] at hc10)
            have hkl : k < l.length := by omega
            have hck2 := ic2 k (by omega) hkl
            obtain ⟨a, ha⟩ : ∃ a, l[i]? = some a := ⟨_, List.getElem?_eq_getElem (by omega)⟩
            obtain ⟨b, hb⟩ : ∃ b, l[k]? = some b := ⟨_, List.getElem?_eq_getElem hkl⟩
            have hMk := hM k (by omega)
            have hab := asc_lt hT.asc ha hb (by omega)
            have h2 := tab2 (hT.rows a (List.mem_of_getElem? ha)) (hT.rows b (List.mem_of_getElem? hb)) hab
            have hN := Near_p ((l.take (k + 1)).drop i) [a, b] s (near_dep hT ha hb (by omega)) (by rw [tab_ckT h2]) hs
            rw [spans_near hT ha hb (by omega) hs.1] at hN
            obtain ⟨f1, f2⟩ := fst_step (k := k) (by omega) (by omega) hF
            refine awp_skip ?_
            change Awp _ _ _ _ _
            refine awp_seq ?_
            refine awp_block ?_
            refine awp_seq ?_
            refine awp_region 28 mixed (by kernel_rfl) ?_
            first | refine rg_q (q_move (x := .d (.sl _ _)) rfl) ?_ | refine rg_q (q_move (x := .rs _) rfl) ?_ | refine rg_q (q_move (x := .d (.v _)) rfl) ?_
            refine rg_q (q_move (x := .d (.v _)) rfl) ?_
            refine rg_q (q_move (x := .d (.v _)) rfl) ?_
            refine rg_q (q_add rfl rfl (In64.mk (by (first | omega | (simp only; omega) | (simp only [List.length_map, List.length_set]; omega))) (by (first | omega | (simp only; omega) | (simp only [List.length_map, List.length_set]; omega))))) ?_
            refine rg_q (q_slice (lo := i) (hi := k + 1) sl22 rfl rfl rfl (by (first | omega | (simp only; omega) | (simp only [List.length_map, List.length_set]; omega))) (by (first | omega | (simp only; omega) | (simp only [List.length_map, List.length_set]; omega))) (by first | exact map_slice _ _ _ _ | rfl)) ?_
            first | refine rg_q (q_move (x := .d (.sl _ _)) rfl) ?_ | refine rg_q (q_move (x := .rs _) rfl) ?_ | refine rg_q (q_move (x := .d (.v _)) rfl) ?_
            refine rg_q (q_move (x := .d (.v _)) rfl) ?_
            first | refine rg_q (q_indexAddr sl22 rfl rfl (by (first | omega | (simp only; omega) | (simp only [List.length_map, List.length_set]; omega))) (map_at (by (first | omega | (simp only; omega) | (simp only [List.length_map, List.length_set]; omega))) ha)) ?_ | refine rg_q (q_indexAddr sl22 rfl rfl (by (first | omega | (simp only; omega) | (simp only [List.length_map, List.length_set]; omega))) (map_at (by (first | omega | (simp only; omega) | (simp only [List.length_map, List.length_set]; omega))) hb)) ?_ | refine rg_q (q_indexAddr_rs sl22 rfl rfl rfl (by (first | omega | (simp only; omega) | (simp only [List.length_map, List.length_set]; omega))) (by (first | omega | (simp only; omega) | (simp only [List.length_map, List.length_set]; omega)))) ?_
            first | refine rg_q (q_loadA (ds := [_, _]) sz59 rfl rfl rfl) ?_ | refine rg_q (q_load_refA (ds := [_, _]) sz59 rfl rfl rfl rfl) ?_
            first | refine rg_q (q_move (x := .d (.sl _ _)) rfl) ?_ | refine rg_q (q_move (x := .rs _) rfl) ?_ | refine rg_q (q_move (x := .d (.v _)) rfl) ?_
            refine rg_q (q_move (x := .d (.v _)) rfl) ?_
            first | refine rg_q (q_indexAddr sl22 rfl rfl (by (first | omega | (simp only; omega) | (simp only [List.length_map, List.length_set]; omega))) (map_at (by (first | omega | (simp only; omega) | (simp only [List.length_map, List.length_set]; omega))) ha)) ?_ | refine rg_q (q_indexAddr sl22 rfl rfl (by (first | omega | (simp only; omega) | (simp only [List.length_map, List.length_set]; omega))) (map_at (by (first | omega | (simp only; omega) | (simp only [List.length_map, List.length_set]; omega))) hb)) ?_ | refine rg_q (q_indexAddr_rs sl22 rfl rfl rfl (by (first | omega | (simp only; omega) | (simp only [List.length_map, List.length_set]; omega))) (by (first | omega | (simp only; omega) | (simp only [List.length_map, List.length_set]; omega)))) ?_
            first | refine rg_q (q_loadA (ds := [_, _]) sz59 rfl rfl rfl) ?_ | refine rg_q (q_load_refA (ds := [_, _]) sz59 rfl rfl rfl rfl) ?_
            refine rg_q (q_buildSlice sl22 zr59 rfl rfl (by decide) (.cons rfl (by first | exact .inl rfl | exact .inr ⟨_, rfl⟩) (.cons rfl (by first | exact .inl rfl | exact .inr ⟨_, rfl⟩) .nil)) ⟨rfl, rfl, rfl, rfl, trivial⟩ rfl (by decide) rfl) ?_
            refine rg_q (q_move (x := .d (.v _)) rfl) ?_
            first | refine rg_q (q_call en25 (.cons rfl (.cons rfl (.cons rfl .nil))) rfl (hN)) ?_ | refine rg_q (q_callF en25 (.cons (by first | exact .d _ | exact .rs rfl | exact .ref rfl | exact .nil _ | exact .tref rfl (by repeat (first | exact .nil | refine .cons (.d _ rfl) ?_ | refine .cons (.rs rfl) ?_))) (.cons (by first | exact .d _ | exact .rs rfl | exact .ref rfl | exact .nil _ | exact .tref rfl (by repeat (first | exact .nil | refine .cons (.d _ rfl) ?_ | refine .cons (.rs rfl) ?_))) (.cons (by first | exact .d _ | exact .rs rfl | exact .ref rfl | exact .nil _ | exact .tref rfl (by repeat (first | exact .nil | refine .cons (.d _ rfl) ?_ | refine .cons (.rs rfl) ?_))) .nil))) rfl (hN) (by first | exact .v _ | exact D.Flat.tupF (by repeat first | exact trivial | refine ⟨.v _, ?_⟩) | exact D.Flat.aggF (by repeat first | exact trivial | refine ⟨.v _, ?_⟩))) ?_
            refine rg_q (q_move (x := .d (.v _)) rfl) ?_
            first | refine rg_g rfl rfl (fun hG => (q_move (x := .d (.sl _ _)) rfl)) ?_ | refine rg_g rfl rfl (fun hG => (q_move (x := .rs _) rfl)) ?_ | refine rg_g rfl rfl (fun hG => (q_move (x := .d (.v _)) rfl)) ?_
            refine rg_g rfl rfl (fun hG => (q_move (x := .d (.v _)) rfl)) ?_
            first | refine rg_g rfl rfl (fun hG => (q_indexAddr sl25 rfl rfl (by (have hg0 := T.bool_inj (a := _) hG.1; (try simp only [decide_eq_true_eq, decide_eq_false_iff_not, Bool.and_eq_true, Bool.or_eq_true, Bool.and_eq_false_iff, Bool.or_eq_false_iff, Bool.not_eq_true', Bool.not_eq_false', Bool.not_true, Bool.not_false, bif_and, bif_or, Bool.not_not, ne_eq, Decidable.not_not, not_true_eq_false, not_false_eq_true, Int.not_le, Int.not_lt] at hg0); (first | omega | (simp only; omega) | (simp only [List.length_map, List.length_set]; omega)))) (map_at (by (have hg0 := T.bool_inj (a := _) hG.1; (try simp only [decide_eq_true_eq, decide_eq_false_iff_not, Bool.and_eq_true, Bool.or_eq_true, Bool.and_eq_false_iff, Bool.or_eq_false_iff, Bool.not_eq_true', Bool.not_eq_false', Bool.not_true, Bool.not_false, bif_and, bif_or, Bool.not_not, ne_eq, Decidable.not_not, not_true_eq_false, not_false_eq_true, Int.not_le, Int.not_lt] at hg0); (first | omega | (simp only; omega) | (simp only [List.length_map, List.length_set]; omega)))) ha))) ?_ | refine rg_g rfl rfl (fun hG => (q_indexAddr sl25 rfl rfl (by (have hg0 := T.bool_inj (a := _) hG.1; (try simp only [decide_eq_true_eq, decide_eq_false_iff_not, Bool.and_eq_true, Bool.or_eq_true, Bool.and_eq_false_iff, Bool.or_eq_false_iff, Bool.not_eq_true', Bool.not_eq_false', Bool.not_true, Bool.not_false, bif_and, bif_or, Bool.not_not, ne_eq, Decidable.not_not, not_true_eq_false, not_false_eq_true, Int.not_le, Int.not_lt] at hg0); (first | omega | (simp only; omega) | (simp only [List.length_map, List.length_set]; omega)))) (map_at (by (have hg0 := T.bool_inj (a := _) hG.1; (try simp only [decide_eq_true_eq, decide_eq_false_iff_not, Bool.and_eq_true, Bool.or_eq_true, Bool.and_eq_false_iff, Bool.or_eq_false_iff, Bool.not_eq_true', Bool.not_eq_false', Bool.not_true, Bool.not_false, bif_and, bif_or, Bool.not_not, ne_eq, Decidable.not_not, not_true_eq_false, not_false_eq_true, Int.not_le, Int.not_lt] at hg0); (first | omega | (simp only; omega) | (simp only [List.length_map, List.length_set]; omega)))) hb))) ?_ | refine rg_g rfl rfl (fun hG => (q_indexAddr_rs sl25 rfl rfl rfl (by (have hg0 := T.bool_inj (a := _) hG.1; (try simp only [decide_eq_true_eq, decide_eq_false_iff_not, Bool.and_eq_true, Bool.or_eq_true, Bool.and_eq_false_iff, Bool.or_eq_false_iff, Bool.not_eq_true', Bool.not_eq_false', Bool.not_true, Bool.not_false, bif_and, bif_or, Bool.not_not, ne_eq, Decidable.not_not, not_true_eq_false, not_false_eq_true, Int.not_le, Int.not_lt] at hg0); (first | omega | (simp only; omega) | (simp only [List.length_map, List.length_set]; omega)))) (by (have hg0 := T.bool_inj (a := _) hG.1; (try simp only [decide_eq_true_eq, decide_eq_false_iff_not, Bool.and_eq_true, Bool.or_eq_true, Bool.and_eq_false_iff, Bool.or_eq_false_iff, Bool.not_eq_true', Bool.not_eq_false', Bool.not_true, Bool.not_false, bif_and, bif_or, Bool.not_not, ne_eq, Decidable.not_not, not_true_eq_false, not_false_eq_true, Int.not_le, Int.not_lt] at hg0); (first | omega | (simp only; omega) | (simp only [List.length_map, List.length_set]; omega)))))) ?_
            first | refine rg_g rfl rfl (fun hG => (q_load_row sz3 rfl rfl (i := k) (j := 0) (by omega) (map_get hck2) rfl)) ?_ | refine rg_g rfl rfl (fun hG => (q_load sz3 rfl rfl)) ?_ | refine rg_g rfl rfl (fun hG => (q_load_ref sz3 rfl rfl rfl)) ?_ | refine rg_g rfl rfl (fun hG => (q_load_tb (x := .d _) sz3 rfl rfl rfl)) ?_ | refine rg_g rfl rfl (fun hG => (q_load_tb (x := .rs _) sz3 rfl rfl rfl)) ?_
            refine rg_g rfl rfl (fun hG => (q_add rfl rfl (In64.mk (by (have hg0 := T.bool_inj (a := _) hG.1; (try simp only [decide_eq_true_eq, decide_eq_false_iff_not, Bool.and_eq_true, Bool.or_eq_true, Bool.and_eq_false_iff, Bool.or_eq_false_iff, Bool.not_eq_true', Bool.not_eq_false', Bool.not_true, Bool.not_false, bif_and, bif_or, Bool.not_not, ne_eq, Decidable.not_not, not_true_eq_false, not_false_eq_true, Int.not_le, Int.not_lt] at hg0); (first | omega | (simp only; omega) | (simp only [List.length_map, List.length_set]; omega)))) (by (have hg0 := T.bool_inj (a := _) hG.1; (try simp only [decide_eq_true_eq, decide_eq_false_iff_not, Bool.and_eq_true, Bool.or_eq_true, Bool.and_eq_false_iff, Bool.or_eq_false_iff, Bool.not_eq_true', Bool.not_eq_false', Bool.not_true, Bool.not_false, bif_and, bif_or, Bool.not_not, ne_eq, Decidable.not_not, not_true_eq_false, not_false_eq_true, Int.not_le, Int.not_lt] at hg0); (first | omega | (simp only; omega) | (simp only [List.length_map, List.length_set]; omega))))))) ?_
            first | refine rg_g rfl rfl (fun hG => (q_move (x := .d (.sl _ _)) rfl)) ?_ | refine rg_g rfl rfl (fun hG => (q_move (x := .rs _) rfl)) ?_ | refine rg_g rfl rfl (fun hG => (q_move (x := .d (.v _)) rfl)) ?_
            refine rg_g rfl rfl (fun hG => (q_move (x := .d (.v _)) rfl)) ?_
            first | refine rg_g rfl rfl (fun hG => (q_indexAddr sl25 rfl rfl (by (have hg0 := T.bool_inj (a := _) hG.1; (try simp only [decide_eq_true_eq, decide_eq_false_iff_not, Bool.and_eq_true, Bool.or_eq_true, Bool.and_eq_false_iff, Bool.or_eq_false_iff, Bool.not_eq_true', Bool.not_eq_false', Bool.not_true, Bool.not_false, bif_and, bif_or, Bool.not_not, ne_eq, Decidable.not_not, not_true_eq_false, not_false_eq_true, Int.not_le, Int.not_lt] at hg0); (first | omega | (simp only; omega) | (simp only [List.length_map, List.length_set]; omega)))) (map_at (by (have hg0 := T.bool_inj (a := _) hG.1; (try simp only [decide_eq_true_eq, decide_eq_false_iff_not, Bool.and_eq_true, Bool.or_eq_true, Bool.and_eq_false_iff, Bool.or_eq_false_iff, Bool.not_eq_true', Bool.not_eq_false', Bool.not_true, Bool.not_false, bif_and, bif_or, Bool.not_not, ne_eq, Decidable.not_not, not_true_eq_false, not_false_eq_true, Int.not_le, Int.not_lt] at hg0); (first | omega | (simp only; omega) | (simp only [List.length_map, List.length_set]; omega)))) ha))) ?_ | refine rg_g rfl rfl (fun hG => (q_indexAddr sl25 rfl rfl (by (have hg0 := T.bool_inj (a := _) hG.1; (try simp only [decide_eq_true_eq, decide_eq_false_iff_not, Bool.and_eq_true, Bool.or_eq_true, Bool.and_eq_false_iff, Bool.or_eq_false_iff, Bool.not_eq_true', Bool.not_eq_false', Bool.not_true, Bool.not_false, bif_and, bif_or, Bool.not_not, ne_eq, Decidable.not_not, not_true_eq_false, not_false_eq_true, Int.not_le, Int.not_lt] at hg0); (first | omega | (simp only; omega) | (simp only [List.length_map, List.length_set]; omega)))) (map_at (by (have hg0 := T.bool_inj (a := _) hG.1; (try simp only [decide_eq_true_eq, decide_eq_false_iff_not, Bool.and_eq_true, Bool.or_eq_true, Bool.and_eq_false_iff, Bool.or_eq_false_iff, Bool.not_eq_true', Bool.not_eq_false', Bool.not_true, Bool.not_false, bif_and, bif_or, Bool.not_not, ne_eq, Decidable.not_not, not_true_eq_false, not_false_eq_true, Int.not_le, Int.not_lt] at hg0); (first | omega | (simp only; omega) | (simp only [List.length_map, List.length_set]; omega)))) hb))) ?_ | refine rg_g rfl rfl (fun hG => (q_indexAddr_rs sl25 rfl rfl rfl (by (have hg0 := T.bool_inj (a := _) hG.1; (try simp only [decide_eq_true_eq, decide_eq_false_iff_not, Bool.and_eq_true, Bool.or_eq_true, Bool.and_eq_false_iff, Bool.or_eq_false_iff, Bool.not_eq_true', Bool.not_eq_false', Bool.not_true, Bool.not_false, bif_and, bif_or, Bool.not_not, ne_eq, Decidable.not_not, not_true_eq_false, not_false_eq_true, Int.not_le, Int.not_lt] at hg0); (first | omega | (simp only; omega) | (simp only [List.length_map, List.length_set]; omega)))) (by (have hg0 := T.bool_inj (a := _) hG.1; (try simp only [decide_eq_true_eq, decide_eq_false_iff_not, Bool.and_eq_true, Bool.or_eq_true, Bool.and_eq_false_iff, Bool.or_eq_false_iff, Bool.not_eq_true', Bool.not_eq_false', Bool.not_true, Bool.not_false, bif_and, bif_or, Bool.not_not, ne_eq, Decidable.not_not, not_true_eq_false, not_false_eq_true, Int.not_le, Int.not_lt] at hg0); (first | omega | (simp only; omega) | (simp only [List.length_map, List.length_set]; omega)))))) ?_
            first | refine rg_g rfl rfl (fun hG => (q_load_row sz3 rfl rfl (i := i) (j := 0) (by omega) (map_get hci2) rfl)) ?_ | refine rg_g rfl rfl (fun hG => (q_load sz3 rfl rfl)) ?_ | refine rg_g rfl rfl (fun hG => (q_load_ref sz3 rfl rfl rfl)) ?_ | refine rg_g rfl rfl (fun hG => (q_load_tb (x := .d _) sz3 rfl rfl rfl)) ?_ | refine rg_g rfl rfl (fun hG => (q_load_tb (x := .rs _) sz3 rfl rfl rfl)) ?_
            refine rg_g rfl rfl (fun hG => (q_lss rfl rfl)) ?_
            first | refine rg_pick rfl rfl rfl rfl rfl rfl ?_ | refine rg_q (q_pick rfl rfl rfl) ?_
            refine rg_nil ?_
            refine aops_nil ?_
            change Awp _ _ _ _ _
            refine awp_cond rfl (fun hc12 => ?_) (fun hc12 => ?_)
            ·
              (try simp only [decide_eq_true_eq, decide_eq_false_iff_not, Bool.and_eq_true, Bool.or_eq_true, Bool.and_eq_false_iff, Bool.or_eq_false_iff, Bool.not_eq_true', Bool.not_eq_false', Bool.not_true, Bool.not_false, bif_and, bif_or, Bool.not_not, ne_eq, Decidable.not_not, not_true_eq_false, not_false_eq_true, Int.not_le, Int.not_lt] at hc12)
              have hF2 := f1 hc12.1 hc12.2
              refine awp_region 11 mixed (by kernel_rfl) ?_
              first | refine rg_q (q_move (x := .d (.sl _ _)) rfl) ?_ | refine rg_q (q_move (x := .rs _) rfl) ?_ | refine rg_q (q_move (x := .d (.v _)) rfl) ?_
              refine rg_q (q_move (x := .d (.v _)) rfl) ?_
              first | refine rg_q (q_move (x := .d (.sl _ _)) rfl) ?_ | refine rg_q (q_move (x := .rs _) rfl) ?_ | refine rg_q (q_move (x := .d (.v _)) rfl) ?_
              refine rg_q (q_move (x := .d (.v _)) rfl) ?_
              first | refine rg_q (q_move (x := .d (.sl _ _)) rfl) ?_ | refine rg_q (q_move (x := .rs _) rfl) ?_ | refine rg_q (q_move (x := .d (.v _)) rfl) ?_
              refine rg_q (q_move (x := .d (.v _)) rfl) ?_
              first | refine rg_q (q_indexAddr sl25 rfl rfl (by (first | omega | (simp only; omega) | (simp only [List.length_map, List.length_set]; omega))) (map_at (by (first | omega | (simp only; omega) | (simp only [List.length_map, List.length_set]; omega))) ha)) ?_ | refine rg_q (q_indexAddr sl25 rfl rfl (by (first | omega | (simp only; omega) | (simp only [List.length_map, List.length_set]; omega))) (map_at (by (first | omega | (simp only; omega) | (simp only [List.length_map, List.length_set]; omega))) hb)) ?_ | refine rg_q (q_indexAddr_rs sl25 rfl rfl rfl (by (first | omega | (simp only; omega) | (simp only [List.length_map, List.length_set]; omega))) (by (first | omega | (simp only; omega) | (simp only [List.length_map, List.length_set]; omega)))) ?_
              first | refine rg_q (q_load_row sz3 rfl rfl (i := k) (j := 0) (by omega) (map_get hck2) rfl) ?_ | refine rg_q (q_load sz3 rfl rfl) ?_ | refine rg_q (q_load_ref sz3 rfl rfl rfl) ?_ | refine rg_q (q_load_tb (x := .d _) sz3 rfl rfl rfl) ?_ | refine rg_q (q_load_tb (x := .rs _) sz3 rfl rfl rfl) ?_
              refine rg_q (q_add rfl rfl (In64.mk (by (first | omega | (simp only; omega) | (simp only [List.length_map, List.length_set]; omega))) (by (first | omega | (simp only; omega) | (simp only [List.length_map, List.length_set]; omega))))) ?_
              refine rg_q (q_move (x := .d (.v _)) rfl) ?_
              first | refine rg_q (q_indexAddr sl25 rfl rfl (by (first | omega | (simp only; omega) | (simp only [List.length_map, List.length_set]; omega))) (map_at (by (first | omega | (simp only; omega) | (simp only [List.length_map, List.length_set]; omega))) ha)) ?_ | refine rg_q (q_indexAddr sl25 rfl rfl (by (first | omega | (simp only; omega) | (simp only [List.length_map, List.length_set]; omega))) (map_at (by (first | omega | (simp only; omega) | (simp only [List.length_map, List.length_set]; omega))) hb)) ?_ | refine rg_q (q_indexAddr_rs sl25 rfl rfl rfl (by (first | omega | (simp only; omega) | (simp only [List.length_map, List.length_set]; omega))) (by (first | omega | (simp only; omega) | (simp only [List.length_map, List.length_set]; omega)))) ?_
              refine rg_nil ?_
              refine aops_store_row sz3 rfl rfl (by first | exact .inl rfl | exact .inr ⟨_, rfl⟩) rfl rfl (i := i) (j := 0) (es' := (c2.set i (1 + ((M k : Int) + 1))).map iC) (by omega) (map_get hci2) (by decide) (set_map iC _ _ _ rfl) ?_
              first | refine aops_q rfl (q_indexAddr sl25 rfl rfl (by (first | omega | (simp only; omega) | (simp only [List.length_map, List.length_set]; omega))) (map_at (by (first | omega | (simp only; omega) | (simp only [List.length_map, List.length_set]; omega))) ha)) ?_ | refine aops_q rfl (q_indexAddr sl25 rfl rfl (by (first | omega | (simp only; omega) | (simp only [List.length_map, List.length_set]; omega))) (map_at (by (first | omega | (simp only; omega) | (simp only [List.length_map, List.length_set]; omega))) hb)) ?_ | refine aops_q rfl (q_indexAddr_rs sl25 rfl rfl rfl (by (first | omega | (simp only; omega) | (simp only [List.length_map, List.length_set]; omega))) (by (first | omega | (simp only; omega) | (simp only [List.length_map, List.length_set]; omega)))) ?_
              refine aops_store_row sz3 rfl rfl (by first | exact .inl rfl | exact .inr ⟨_, rfl⟩) rfl rfl (i := i) (j := 0) (es' := (x2.set i (k : Int)).map iC) (by omega) (map_get hxi2) (by decide) (set_map iC _ _ _ rfl) ?_
              refine aops_nil ?_
              change Awp _ _ _ _ _
              refine awp_region 3 mixed (by kernel_rfl) ?_
              refine rg_q (q_move (x := .d (.v _)) rfl) ?_
              refine rg_q (q_add rfl rfl (In64.mk (by (first | omega | (simp only; omega) | (simp only [List.length_map, List.length_set]; omega))) (by (first | omega | (simp only; omega) | (simp only [List.length_map, List.length_set]; omega))))) ?_
              refine rg_q (q_assign (x := .d (.v _)) rfl) ?_
              refine rg_nil ?_
              refine aops_nil ?_
              refine ⟨(k + 1, c2.set i (1 + ((M k : Int) + 1)), x2.set i (k : Int)), ⟨by simp only; omega, by simp only; omega, by simp [lc2], by simp [lx2], (fun m h1 h2 => by simp only; rw [List.getElem?_set_ne (by omega)]; exact ic2 m h1 h2), (fun m h1 h2 => by simp only; rw [List.getElem?_set_ne (by omega)]; exact ix2 m h1 h2), by simp only; rw [List.getElem?_set_ne (by omega)]; exact iz2, _, _, List.getElem?_set_self (by omega), List.getElem?_set_self (by omega), by omega, by omega, hF2⟩, by simp only; omega, ?_⟩
              exact le_head (ms := [15, 17]) (by repeat (first | exact Out.refl _ | exact Out.head rfl rfl | (refine Out.put ?_ rfl) | (refine Out.site ?_ rfl) | (refine Out.putn ?_) | (refine Out.headIn ?_ rfl rfl rfl) | (refine Out.called ?_ rfl rfl) | (refine Out.killS ?_ rfl))) ⟨(by first | rfl | (simp; done)), trivial⟩ ⟨(by first | rfl | (simp; done)), (by first | rfl | (simp; done)), trivial⟩ rfl rfl rfl rfl
            ·
              (try simp only [decide_eq_true_eq, decide_eq_false_iff_not, Bool.and_eq_true, Bool.or_eq_true, Bool.and_eq_false_iff, Bool.or_eq_false_iff, Bool.not_eq_true', Bool.not_eq_false', Bool.not_true, Bool.not_false, bif_and, bif_or, Bool.not_not, ne_eq, Decidable.not_not, not_true_eq_false, not_false_eq_true, Int.not_le, Int.not_lt] at hc12)
              have hF2 := f2 (fun ⟨h1, h2⟩ => by
                rcases hc12 with h | h
                · rw [h1] at h; cases h
                · omega)
              refine awp_skip ?_
              change Awp _ _ _ _ _
              refine awp_region 3 mixed (by kernel_rfl) ?_
              refine rg_q (q_move (x := .d (.v _)) rfl) ?_
              refine rg_q (q_add rfl rfl (In64.mk (by (first | omega | (simp only; omega) | (simp only [List.length_map, List.length_set]; omega))) (by (first | omega | (simp only; omega) | (simp only [List.length_map, List.length_set]; omega))))) ?_
              refine rg_q (q_assign (x := .d (.v _)) rfl) ?_
              refine rg_nil ?_
              refine aops_nil ?_
              refine ⟨(k + 1, c2, x2), ⟨by simp only; omega, by simp only; omega, lc2, lx2, ic2, ix2, iz2, ci2, xi2, hci2, hxi2, hb1, hb2, hF2⟩, by simp only; omega, ?_⟩
              exact le_head (ms := [15, 17]) (by repeat (first | exact Out.refl _ | exact Out.head rfl rfl | (refine Out.put ?_ rfl) | (refine Out.site ?_ rfl) | (refine Out.putn ?_) | (refine Out.headIn ?_ rfl rfl rfl) | (refine Out.called ?_ rfl rfl) | (refine Out.killS ?_ rfl))) ⟨(by first | rfl | (simp; done)), trivial⟩ ⟨(by first | rfl | (simp; done)), (by first | rfl | (simp; done)), trivial⟩ rfl rfl rfl rfl
          ·
            (try simp only [decide_eq_true_eq, decide_eq_false_iff_not, Bool.and_eq_true, Bool.or_eq_true, Bool.and_eq_false_iff, Bool.or_eq_false_iff, Bool.not_eq_true', Bool.not_eq_false', Bool.not_true, Bool.not_false, bif_and, bif_or, Bool.not_not, ne_eq, Decidable.not_not, not_true_eq_false, not_false_eq_true, Int.not_le, Int.not_lt] at hc10)
            have hkn : k = l.length := by omega
            rw [hkn] at hF
            obtain ⟨e1, e2⟩ := fst_end hS (spans_next l i s) hil hF
            refine awp_exit ?_
            change Awp _ _ _ _ _
            refine awp_region 3 mixed (by kernel_rfl) ?_
            refine rg_q (q_move (x := .d (.v _)) rfl) ?_
            refine rg_q (q_sub rfl rfl (In64.mk (by (first | omega | (simp only; omega) | (simp only [List.length_map, List.length_set]; omega))) (by (first | omega | (simp only; omega) | (simp only [List.length_map, List.length_set]; omega))))) ?_
            refine rg_q (q_assign (x := .d (.v _)) rfl) ?_
            refine rg_nil ?_
            refine aops_nil ?_
            refine ⟨(i, c2, x2), ⟨by simp only; omega, lc2, lx2, (fun m h1 h2 => if e : i = m then (by subst e; simp only; rw [hci2, e1]) else ic2 m (by simp only at h1; omega) h2), (fun m h1 h2 => if e : i = m then (by subst e; simp only; rw [hxi2, e2]) else ix2 m (by simp only at h1; omega) h2), fun _ => iz2⟩, by simp only; omega, ?_⟩
            exact le_head (ms := [15, 17]) (by repeat (first | exact Out.refl _ | exact Out.head rfl rfl | (refine Out.put ?_ rfl) | (refine Out.site ?_ rfl) | (refine Out.putn ?_) | (refine Out.headIn ?_ rfl rfl rfl) | (refine Out.called ?_ rfl rfl) | (refine Out.killS ?_ rfl))) ⟨(by first | rfl | (show Site.row 3 1 (List.replicate l.length [D.v (.int .i64 0)]) = _; simp [iC]; done)), trivial⟩ ⟨(by first | rfl | (show Site.row 3 1 (List.replicate l.length [D.v (.int .i64 0)]) = _; simp [iC]; done)), (by first | rfl | (show Site.row 3 1 (List.replicate l.length [D.v (.int .i64 0)]) = _; simp [iC]; done)), trivial⟩ rfl rfl rfl rfl
    ·
      (try simp only [decide_eq_true_eq, decide_eq_false_iff_not, Bool.and_eq_true, Bool.or_eq_true, Bool.and_eq_false_iff, Bool.or_eq_false_iff, Bool.not_eq_true', Bool.not_eq_false', Bool.not_true, Bool.not_false, bif_and, bif_or, Bool.not_not, ne_eq, Decidable.not_not, not_true_eq_false, not_false_eq_true, Int.not_le, Int.not_lt] at hc4)
      have hj0 : j = 0 := by omega
      subst hj0
      refine awp_exit ?_
      change Awp _ _ _ _ _
      refine awp_seq ?_
      refine awp_region 1 mixed (by kernel_rfl) ?_
      refine rg_q (q_assign_nil) ?_
      refine rg_nil ?_
      refine aops_nil ?_
      change Awp _ _ _ _ _
      refine Awp.le (le_own (k := 10) (e := 3) (sz := 1) rfl rfl) ?_
      refine awp_seq ?_
      refine awp_seq ?_
      refine awp_region 1 mixed (by kernel_rfl) ?_
      refine rg_q (q_assign (x := .d (.v _)) rfl) ?_
      refine rg_nil ?_
      refine aops_nil ?_
      change Awp _ _ _ _ _
      refine awp_block ?_
      refine awp_loopH [10, 11, 87, 88, 89, 90, 91, 92, 93, 94, 95, 96, 97] [10] (α := Nat × List Int) (fun p => [(11, T.i (p.1 : Int)), (10, .rs 10)]) (fun p => [(10, .row 3 1 (p.2.map iC))]) (fun p => p.1 ≤ l.length ∧ p.2.length ≤ p.1 ∧ ∃ r : List Nat, Tl.map (fun (n : Nat) => (n : Int)) = p.2 ++ r.map (fun (n : Nat) => (n : Int)) ∧ Rest (dpF l s).2 (l.length - 1) p.1 r) (fun p => l.length - p.1) (0, []) ⟨Nat.zero_le _, Nat.le_refl _, Tl, rfl, hR0⟩ ?_ ?_
      · exact le_head (ms := [10]) (by repeat (first | exact Out.refl _ | exact Out.head rfl rfl | (refine Out.put ?_ rfl) | (refine Out.site ?_ rfl) | (refine Out.putn ?_) | (refine Out.headIn ?_ rfl rfl rfl) | (refine Out.called ?_ rfl rfl) | (refine Out.killS ?_ rfl))) ⟨(by first | rfl | (show Site.row 3 1 (List.map iC out ++ [iC (i : Int)]) = _; simp; done)), (by first | rfl | (show Site.row 3 1 (List.map iC out ++ [iC (i : Int)]) = _; simp; done)), trivial⟩ ⟨(by first | rfl | (show Site.row 3 1 (List.map iC out ++ [iC (i : Int)]) = _; simp; done)), trivial⟩ rfl rfl rfl rfl
      ·
        intro ⟨i, out⟩ ⟨hi, ho, r, hr, hR⟩
        simp only at hi ho hr hR
        refine awp_seq ?_
        refine awp_seq ?_
        refine awp_region 3 mixed (by kernel_rfl) ?_
        refine rg_q (q_move (x := .d (.v _)) rfl) ?_
        refine rg_q (q_move (x := .d (.v _)) rfl) ?_
        refine rg_q (q_lss rfl rfl) ?_
        refine rg_nil ?_
        refine aops_nil ?_
        change Awp _ _ _ _ _
        refine awp_cond rfl (fun hc16 => ?_) (fun hc16 => ?_)
        ·
          (try simp only [decide_eq_true_eq, decide_eq_false_iff_not, Bool.and_eq_true, Bool.or_eq_true, Bool.and_eq_false_iff, Bool.or_eq_false_iff, Bool.not_eq_true', Bool.not_eq_false', Bool.not_true, Bool.not_false, bif_and, bif_or, Bool.not_not, ne_eq, Decidable.not_not, not_true_eq_false, not_false_eq_true, Int.not_le, Int.not_lt] at hc16)
          have hlt : i < l.length := by omega
          obtain ⟨i2, r2, hx2, hr2, hR2, g1, g2⟩ : ∃ (i2 : Nat) (r2 : List Nat), x[i]? = some (i2 : Int) ∧ r = i :: r2 ∧ Rest (dpF l s).2 (l.length - 1) i2 r2 ∧ i < i2 ∧ i2 ≤ l.length := by
            by_cases hil : i = l.length - 1
            · refine ⟨l.length, [], by rw [hil]; exact iz (by omega), by rw [hil] at hR ⊢; exact rest_last hR, .inl ⟨by omega, rfl⟩, hlt, Nat.le_refl _⟩
            · obtain ⟨b1, b2, _, _⟩ := hS.step i (by omega)
              obtain ⟨r2, q1, q2⟩ := rest_step hR (by omega) (by rw [hNe]; exact b1) (by rw [hNe]; exact b2)
              rw [hNe] at q2
              exact ⟨N i, r2, ix i (by omega) (by omega), q1, q2, b1, by omega⟩
          refine awp_skip ?_
          change Awp _ _ _ _ _
          refine awp_seq ?_
          refine awp_block ?_
          refine awp_region 3 mixed (by kernel_rfl) ?_
          first | refine rg_q (q_move (x := .d (.sl _ _)) rfl) ?_ | refine rg_q (q_move (x := .rs _) rfl) ?_ | refine rg_q (q_move (x := .d (.v _)) rfl) ?_
          refine rg_q (q_move (x := .d (.v _)) rfl) ?_
          refine rg_q (q_buildSlice sl25 zr3 rfl rfl (by decide) (.cons rfl (by first | exact .inl rfl | exact .inr ⟨_, rfl⟩) .nil) ⟨rfl, rfl, trivial⟩ rfl (by decide) rfl) ?_
          refine rg_nil ?_
          first | refine aops_append sl25 zr3 by3 rfl (by decide) rfl rfl rfl rfl (by (try simp only [List.length_map, List.length_append, List.length_cons, List.length_nil]); omega) (by (try simp only [List.length_map, List.length_append, List.length_cons, List.length_nil]); omega) rfl rfl ?_ | refine aops_appendR sl25 zr3 by3 rfl (by decide) rfl rfl rfl rfl rfl (by (try simp only [List.length_map, List.length_append, List.length_cons, List.length_nil]); omega) (by (try simp only [List.length_map, List.length_append, List.length_cons, List.length_nil]); omega) rfl rfl ?_
          first | refine aops_q rfl (q_assign (x := .d (.sl _ _)) rfl) ?_ | refine aops_q rfl (q_assign (x := .rs _) rfl) ?_ | refine aops_q rfl (q_assign (x := .d (.v _)) rfl) ?_
          refine aops_nil ?_
          change Awp _ _ _ _ _
          refine awp_region 5 mixed (by kernel_rfl) ?_
          first | refine rg_q (q_move (x := .d (.sl _ _)) rfl) ?_ | refine rg_q (q_move (x := .rs _) rfl) ?_ | refine rg_q (q_move (x := .d (.v _)) rfl) ?_
          refine rg_q (q_move (x := .d (.v _)) rfl) ?_
          first | refine rg_q (q_indexAddr sl25 rfl rfl (by (first | omega | (simp only; omega) | (simp only [List.length_map, List.length_set]; omega))) (map_at (by (first | omega | (simp only; omega) | (simp only [List.length_map, List.length_set]; omega))) ha)) ?_ | refine rg_q (q_indexAddr sl25 rfl rfl (by (first | omega | (simp only; omega) | (simp only [List.length_map, List.length_set]; omega))) (map_at (by (first | omega | (simp only; omega) | (simp only [List.length_map, List.length_set]; omega))) hb)) ?_ | refine rg_q (q_indexAddr_rs sl25 rfl rfl rfl (by (first | omega | (simp only; omega) | (simp only [List.length_map, List.length_set]; omega))) (by (first | omega | (simp only; omega) | (simp only [List.length_map, List.length_set]; omega)))) ?_
          first | refine rg_q (q_load_row sz3 rfl rfl (i := i) (j := 0) (by omega) (map_get hx2) rfl) ?_ | refine rg_q (q_load sz3 rfl rfl) ?_ | refine rg_q (q_load_ref sz3 rfl rfl rfl) ?_ | refine rg_q (q_load_tb (x := .d _) sz3 rfl rfl rfl) ?_ | refine rg_q (q_load_tb (x := .rs _) sz3 rfl rfl rfl) ?_
          refine rg_q (q_assign (x := .d (.v _)) rfl) ?_
          refine rg_nil ?_
          refine aops_nil ?_
          refine ⟨(i2, out ++ [(i : Int)]), ⟨g2, by simp only [List.length_append, List.length_singleton]; omega, r2, by rw [hr, hr2]; simp, hR2⟩, by simp only; omega, ?_⟩
          exact le_head (ms := [10]) (by repeat (first | exact Out.refl _ | exact Out.head rfl rfl | (refine Out.put ?_ rfl) | (refine Out.site ?_ rfl) | (refine Out.putn ?_) | (refine Out.headIn ?_ rfl rfl rfl) | (refine Out.called ?_ rfl rfl) | (refine Out.killS ?_ rfl))) ⟨(by first | rfl | (show Site.row 3 1 (List.map iC out ++ [iC (i : Int)]) = _; simp; done)), (by first | rfl | (show Site.row 3 1 (List.map iC out ++ [iC (i : Int)]) = _; simp; done)), trivial⟩ ⟨(by first | rfl | (show Site.row 3 1 (List.map iC out ++ [iC (i : Int)]) = _; simp; done)), trivial⟩ rfl rfl rfl rfl
        ·
          (try simp only [decide_eq_true_eq, decide_eq_false_iff_not, Bool.and_eq_true, Bool.or_eq_true, Bool.and_eq_false_iff, Bool.or_eq_false_iff, Bool.not_eq_true', Bool.not_eq_false', Bool.not_true, Bool.not_false, bif_and, bif_or, Bool.not_not, ne_eq, Decidable.not_not, not_true_eq_false, not_false_eq_true, Int.not_le, Int.not_lt] at hc16)
          have hin : i = (l.length - 1) + 1 := by omega
          rw [hin] at hR
          have hr0 := rest_end hR
          subst hr0
          have hz : Tl.map (fun (n : Nat) => (n : Int)) = out := by rw [hr]; simp
          refine awp_exit ?_
          change Awp _ _ _ _ _
          refine awp_seq ?_
          refine awp_region 2 mixed (by kernel_rfl) ?_
          first | refine rg_q (q_move (x := .d (.sl _ _)) rfl) ?_ | refine rg_q (q_move (x := .rs _) rfl) ?_ | refine rg_q (q_move (x := .d (.v _)) rfl) ?_
          first | refine rg_q (q_assign (x := .d (.sl _ _)) rfl) ?_ | refine rg_q (q_assign (x := .rs _) rfl) ?_ | refine rg_q (q_assign (x := .d (.v _)) rfl) ?_
          refine rg_nil ?_
          refine aops_nil ?_
          change Awp _ _ _ _ _
          refine awp_ret ?_
          refine ⟨_, (.cons (.tmp (by first | exact .d _ | exact .rs rfl | exact .ref rfl | exact .tref rfl (.cons (.d _ rfl) (.cons (.rs rfl) .nil)))) .nil), ?_⟩
          rw [hz]; rfl
set_option maxRecDepth 100000 in
theorem tuneThins_p (l : List (Int × Int)) (s : Int) : PC Try.prog 3 [.sl 2 (l.map rowC), .v (.int .i64 (s))] (.v (.bool true)) := by
  refine pc_of_awp Try.func3 rfl Try.ntmps3 (rs := [.tmp 4]) Try.results3 (by simp) fun w0 => ?_
  refine awp_seq ?_
  refine awp_region 1 mixed (by kernel_rfl) ?_
  refine rg_q (q_assign (x := .d (.v _)) rfl) ?_
  refine rg_nil ?_
  refine aops_nil ?_
  change Awp _ _ _ _ _
  refine awp_seq ?_
  refine awp_seq ?_
  refine awp_region 2 mixed (by kernel_rfl) ?_
  first | refine rg_q (q_call en16 .nil rfl (awake_p)) ?_ | refine rg_q (q_callF en16 .nil rfl (awake_p) (by first | exact .v _ | exact D.Flat.tupF (by repeat first | exact trivial | refine ⟨.v _, ?_⟩) | exact D.Flat.aggF (by repeat first | exact trivial | refine ⟨.v _, ?_⟩))) ?_
  refine rg_q (q_not rfl) ?_
  refine rg_nil ?_
  refine aops_nil ?_
  change Awp _ _ _ _ _
  refine awp_cond rfl (fun hc1 => ?_) (fun hc1 => ?_)
  ·
    exfalso; (try simp only [decide_eq_true_eq, decide_eq_false_iff_not, Bool.and_eq_true, Bool.or_eq_true, Bool.and_eq_false_iff, Bool.or_eq_false_iff, Bool.not_eq_true', Bool.not_eq_false', Bool.not_true, Bool.not_false, bif_and, bif_or, Bool.not_not, ne_eq, Decidable.not_not, not_true_eq_false, not_false_eq_true, Int.not_le, Int.not_lt] at hc1); first | omega | simp_all
  ·
    (try simp only [decide_eq_true_eq, decide_eq_false_iff_not, Bool.and_eq_true, Bool.or_eq_true, Bool.and_eq_false_iff, Bool.or_eq_false_iff, Bool.not_eq_true', Bool.not_eq_false', Bool.not_true, Bool.not_false, bif_and, bif_or, Bool.not_not, ne_eq, Decidable.not_not, not_true_eq_false, not_false_eq_true, Int.not_le, Int.not_lt] at hc1)
    refine awp_skip ?_
    change Awp _ _ _ _ _
    refine awp_seq ?_
    refine awp_seq ?_
    refine awp_region 3 mixed (by kernel_rfl) ?_
    first | refine rg_q (q_move (x := .d (.sl _ _)) rfl) ?_ | refine rg_q (q_move (x := .rs _) rfl) ?_ | refine rg_q (q_move (x := .d (.v _)) rfl) ?_
    first | refine rg_q (q_call en17 (.cons rfl .nil) rfl (rows_p rowC _)) ?_ | refine rg_q (q_callF en17 (.cons (by first | exact .d _ | exact .rs rfl | exact .ref rfl | exact .nil _ | exact .tref rfl (by repeat (first | exact .nil | refine .cons (.d _ rfl) ?_ | refine .cons (.rs rfl) ?_))) .nil) rfl (rows_p rowC _) (by first | exact .v _ | exact D.Flat.tupF (by repeat first | exact trivial | refine ⟨.v _, ?_⟩) | exact D.Flat.aggF (by repeat first | exact trivial | refine ⟨.v _, ?_⟩))) ?_
    refine rg_q (q_not rfl) ?_
    refine rg_nil ?_
    refine aops_nil ?_
    change Awp _ _ _ _ _
    refine awp_cond rfl (fun hc3 => ?_) (fun hc3 => ?_)
    ·
      (try simp only [decide_eq_true_eq, decide_eq_false_iff_not, Bool.and_eq_true, Bool.or_eq_true, Bool.and_eq_false_iff, Bool.or_eq_false_iff, Bool.not_eq_true', Bool.not_eq_false', Bool.not_true, Bool.not_false, bif_and, bif_or, Bool.not_not, ne_eq, Decidable.not_not, not_true_eq_false, not_false_eq_true, Int.not_le, Int.not_lt] at hc3)
      refine awp_seq ?_
      refine awp_region 1 mixed (by kernel_rfl) ?_
      refine rg_q (q_assign (x := .d (.v _)) rfl) ?_
      refine rg_nil ?_
      refine aops_nil ?_
      change Awp _ _ _ _ _
      refine awp_ret ?_
      refine ⟨_, (.cons (.tmp (by first | exact .d _ | exact .rs rfl | exact .ref rfl | exact .tref rfl (.cons (.d _ rfl) (.cons (.rs rfl) .nil)))) .nil), ?_⟩
      simp [retD]
    ·
      (try simp only [decide_eq_true_eq, decide_eq_false_iff_not, Bool.and_eq_true, Bool.or_eq_true, Bool.and_eq_false_iff, Bool.or_eq_false_iff, Bool.not_eq_true', Bool.not_eq_false', Bool.not_true, Bool.not_false, bif_and, bif_or, Bool.not_not, ne_eq, Decidable.not_not, not_true_eq_false, not_false_eq_true, Int.not_le, Int.not_lt] at hc3)
      have hl : l.length ≤ 1000 := by omega
      have hX := Thinned_p l s
      obtain ⟨X, hXe⟩ : ∃ X, thinR l s = X := ⟨_, rfl⟩
      rw [hXe] at hX
      obtain ⟨x, e⟩ := X
      simp only at hX
      refine awp_skip ?_
      change Awp _ _ _ _ _
      refine awp_seq ?_
      refine awp_region 9 mixed (by kernel_rfl) ?_
      first | refine rg_q (q_move (x := .d (.sl _ _)) rfl) ?_ | refine rg_q (q_move (x := .rs _) rfl) ?_ | refine rg_q (q_move (x := .d (.v _)) rfl) ?_
      first | refine rg_q (q_call en19 (.cons rfl .nil) rfl (copyTable_p _ (by omega))) ?_ | refine rg_q (q_callF en19 (.cons (by first | exact .d _ | exact .rs rfl | exact .ref rfl | exact .nil _ | exact .tref rfl (by repeat (first | exact .nil | refine .cons (.d _ rfl) ?_ | refine .cons (.rs rfl) ?_))) .nil) rfl (copyTable_p _ (by omega)) (by first | exact .v _ | exact D.Flat.tupF (by repeat first | exact trivial | refine ⟨.v _, ?_⟩) | exact D.Flat.aggF (by repeat first | exact trivial | refine ⟨.v _, ?_⟩))) ?_
      refine rg_q (q_move (x := .d (.v _)) rfl) ?_
      first | refine rg_q (q_call en18 (.cons rfl (.cons rfl .nil)) rfl (hX)) ?_ | refine rg_q (q_callF en18 (.cons (by first | exact .d _ | exact .rs rfl | exact .ref rfl | exact .nil _ | exact .tref rfl (by repeat (first | exact .nil | refine .cons (.d _ rfl) ?_ | refine .cons (.rs rfl) ?_))) (.cons (by first | exact .d _ | exact .rs rfl | exact .ref rfl | exact .nil _ | exact .tref rfl (by repeat (first | exact .nil | refine .cons (.d _ rfl) ?_ | refine .cons (.rs rfl) ?_))) .nil)) rfl (hX) (by first | exact .v _ | exact D.Flat.tupF (by repeat first | exact trivial | refine ⟨.v _, ?_⟩) | exact D.Flat.aggF (by repeat first | exact trivial | refine ⟨.v _, ?_⟩))) ?_
      refine rg_q (q_move (x := .d (.tup _)) rfl) ?_
      refine rg_q (q_extract rfl rfl) ?_
      refine rg_q (q_extract rfl rfl) ?_
      first | refine rg_q (q_assign (x := .d (.sl _ _)) rfl) ?_ | refine rg_q (q_assign (x := .rs _) rfl) ?_ | refine rg_q (q_assign (x := .d (.v _)) rfl) ?_
      refine rg_q (q_assign (x := .d (.v _)) rfl) ?_
      refine rg_nil ?_
      refine aops_nil ?_
      change Awp _ _ _ _ _
      refine awp_seq ?_
      refine awp_region 7 mixed (by kernel_rfl) ?_
      first | refine rg_q (q_move (x := .d (.sl _ _)) rfl) ?_ | refine rg_q (q_move (x := .rs _) rfl) ?_ | refine rg_q (q_move (x := .d (.v _)) rfl) ?_
      first | refine rg_q (q_call en20 (.cons rfl .nil) rfl (rcheckTable_p _)) ?_ | refine rg_q (q_callF en20 (.cons (by first | exact .d _ | exact .rs rfl | exact .ref rfl | exact .nil _ | exact .tref rfl (by repeat (first | exact .nil | refine .cons (.d _ rfl) ?_ | refine .cons (.rs rfl) ?_))) .nil) rfl (rcheckTable_p _) (by first | exact .v _ | exact D.Flat.tupF (by repeat first | exact trivial | refine ⟨.v _, ?_⟩) | exact D.Flat.aggF (by repeat first | exact trivial | refine ⟨.v _, ?_⟩))) ?_
      refine rg_q (q_move (x := .d (.tup _)) rfl) ?_
      refine rg_q (q_extract rfl rfl) ?_
      refine rg_q (q_extract rfl rfl) ?_
      refine rg_q (q_assign (x := .d (.v _)) rfl) ?_
      refine rg_q (q_assign (x := .d (.v _)) rfl) ?_
      refine rg_nil ?_
      refine aops_nil ?_
      change Awp _ _ _ _ _
      refine awp_seq ?_
      refine awp_seq ?_
      refine awp_region 7 mixed (by kernel_rfl) ?_
      refine rg_q (q_move (x := .d (.v _)) rfl) ?_
      refine rg_q (q_eql rfl rfl) ?_
      refine rg_q (q_move (x := .d (.v _)) rfl) ?_
      refine rg_g rfl rfl (fun hG => (q_move (x := .d (.v _)) rfl)) ?_
      first | refine rg_g rfl rfl (fun hG => (q_call en21 (.cons rfl (.cons rfl (.cons rfl .nil))) rfl (Within_p _ _ _))) ?_ | refine rg_g rfl rfl (fun hG => (q_callF en21 (.cons (by first | exact .d _ | exact .rs rfl | exact .ref rfl | exact .nil _ | exact .tref rfl (by repeat (first | exact .nil | refine .cons (.d _ rfl) ?_ | refine .cons (.rs rfl) ?_))) (.cons (by first | exact .d _ | exact .rs rfl | exact .ref rfl | exact .nil _ | exact .tref rfl (by repeat (first | exact .nil | refine .cons (.d _ rfl) ?_ | refine .cons (.rs rfl) ?_))) (.cons (by first | exact .d _ | exact .rs rfl | exact .ref rfl | exact .nil _ | exact .tref rfl (by repeat (first | exact .nil | refine .cons (.d _ rfl) ?_ | refine .cons (.rs rfl) ?_))) .nil))) rfl (Within_p _ _ _) (by first | exact .v _ | exact D.Flat.tupF (by repeat first | exact trivial | refine ⟨.v _, ?_⟩) | exact D.Flat.aggF (by repeat first | exact trivial | refine ⟨.v _, ?_⟩)))) ?_
      refine rg_g rfl rfl (fun hG => (q_not rfl)) ?_
      first | refine rg_pick rfl rfl rfl rfl rfl rfl ?_ | refine rg_q (q_pick rfl rfl rfl) ?_
      refine rg_nil ?_
      refine aops_nil ?_
      change Awp _ _ _ _ _
      refine awp_cond rfl (fun hc7 => ?_) (fun hc7 => ?_)
      ·
        (try simp only [decide_eq_true_eq, decide_eq_false_iff_not, Bool.and_eq_true, Bool.or_eq_true, Bool.and_eq_false_iff, Bool.or_eq_false_iff, Bool.not_eq_true', Bool.not_eq_false', Bool.not_true, Bool.not_false, bif_and, bif_or, Bool.not_not, ne_eq, Decidable.not_not, not_true_eq_false, not_false_eq_true, Int.not_le, Int.not_lt] at hc7)
        have hz : thinR l s = ([], 2) := by unfold thinR; rw [if_neg (by simp [hc7.1]), if_pos (by have := hc7.2; simp [inR] at this; omega)]
        rw [hz] at hXe
        cases hXe
        refine awp_region 1 mixed (by kernel_rfl) ?_
        refine rg_q (q_assign (x := .d (.v _)) rfl) ?_
        refine rg_nil ?_
        refine aops_nil ?_
        change Awp _ _ _ _ _
        refine awp_seq ?_
        refine awp_seq ?_
        refine awp_region 2 mixed (by kernel_rfl) ?_
        refine rg_q (q_move (x := .d (.v _)) rfl) ?_
        refine rg_q (q_neq rfl rfl) ?_
        refine rg_nil ?_
        refine aops_nil ?_
        change Awp _ _ _ _ _
        refine awp_cond rfl (fun hc9 => ?_) (fun hc9 => ?_)
        ·
          (try simp only [decide_eq_true_eq, decide_eq_false_iff_not, Bool.and_eq_true, Bool.or_eq_true, Bool.and_eq_false_iff, Bool.or_eq_false_iff, Bool.not_eq_true', Bool.not_eq_false', Bool.not_true, Bool.not_false, bif_and, bif_or, Bool.not_not, ne_eq, Decidable.not_not, not_true_eq_false, not_false_eq_true, Int.not_le, Int.not_lt] at hc9)
          refine awp_seq ?_
          refine awp_region 9 mixed (by kernel_rfl) ?_
          refine rg_q (q_move (x := .d (.v _)) rfl) ?_
          refine rg_q (q_move (x := .d (.v _)) rfl) ?_
          refine rg_q (q_eql rfl rfl) ?_
          refine rg_q (q_move (x := .d (.v _)) rfl) ?_
          first | refine rg_g rfl rfl (fun hG => (q_move (x := .d (.sl _ _)) rfl)) ?_ | refine rg_g rfl rfl (fun hG => (q_move (x := .rs _) rfl)) ?_ | refine rg_g rfl rfl (fun hG => (q_move (x := .d (.v _)) rfl)) ?_
          first | refine rg_g rfl rfl (fun hG => (q_len isl25 rfl (by first | exact len_map _ _ | rfl))) ?_ | refine rg_g rfl rfl (fun hG => (q_len_rs isl25 rfl rfl)) ?_ | refine rg_g rfl rfl (fun hG => (q_len_nil isl25 rfl)) ?_
          refine rg_g rfl rfl (fun hG => (q_eql rfl rfl)) ?_
          first | refine rg_pick rfl rfl rfl rfl rfl rfl ?_ | refine rg_q (q_pick rfl rfl rfl) ?_
          refine rg_q (q_assign (x := .d (.v _)) rfl) ?_
          refine rg_nil ?_
          refine aops_nil ?_
          change Awp _ _ _ _ _
          refine awp_ret ?_
          refine ⟨_, (.cons (.tmp (by first | exact .d _ | exact .rs rfl | exact .ref rfl | exact .tref rfl (.cons (.d _ rfl) (.cons (.rs rfl) .nil)))) .nil), ?_⟩
          simp [retD]
        ·
          exfalso; (try simp only [decide_eq_true_eq, decide_eq_false_iff_not, Bool.and_eq_true, Bool.or_eq_true, Bool.and_eq_false_iff, Bool.or_eq_false_iff, Bool.not_eq_true', Bool.not_eq_false', Bool.not_true, Bool.not_false, bif_and, bif_or, Bool.not_not, ne_eq, Decidable.not_not, not_true_eq_false, not_false_eq_true, Int.not_le, Int.not_lt] at hc9); first | omega | simp_all
      ·
        (try simp only [decide_eq_true_eq, decide_eq_false_iff_not, Bool.and_eq_true, Bool.or_eq_true, Bool.and_eq_false_iff, Bool.or_eq_false_iff, Bool.not_eq_true', Bool.not_eq_false', Bool.not_true, Bool.not_false, bif_and, bif_or, Bool.not_not, ne_eq, Decidable.not_not, not_true_eq_false, not_false_eq_true, Int.not_le, Int.not_lt] at hc7)
        refine awp_skip ?_
        change Awp _ _ _ _ _
        refine awp_seq ?_
        refine awp_seq ?_
        refine awp_region 2 mixed (by kernel_rfl) ?_
        refine rg_q (q_move (x := .d (.v _)) rfl) ?_
        refine rg_q (q_neq rfl rfl) ?_
        refine rg_nil ?_
        refine aops_nil ?_
        change Awp _ _ _ _ _
        refine awp_cond rfl (fun hc9 => ?_) (fun hc9 => ?_)
        ·
          (try simp only [decide_eq_true_eq, decide_eq_false_iff_not, Bool.and_eq_true, Bool.or_eq_true, Bool.and_eq_false_iff, Bool.or_eq_false_iff, Bool.not_eq_true', Bool.not_eq_false', Bool.not_true, Bool.not_false, bif_and, bif_or, Bool.not_not, ne_eq, Decidable.not_not, not_true_eq_false, not_false_eq_true, Int.not_le, Int.not_lt] at hc9)
          have hck : (ckT l).2 ≠ 0 := hc9
          have hz : thinR l s = ([], (ckT l).2) := by unfold thinR; rw [if_pos hck]
          rw [hz] at hXe
          cases hXe
          refine awp_seq ?_
          refine awp_region 9 mixed (by kernel_rfl) ?_
          refine rg_q (q_move (x := .d (.v _)) rfl) ?_
          refine rg_q (q_move (x := .d (.v _)) rfl) ?_
          refine rg_q (q_eql rfl rfl) ?_
          refine rg_q (q_move (x := .d (.v _)) rfl) ?_
          first | refine rg_g rfl rfl (fun hG => (q_move (x := .d (.sl _ _)) rfl)) ?_ | refine rg_g rfl rfl (fun hG => (q_move (x := .rs _) rfl)) ?_ | refine rg_g rfl rfl (fun hG => (q_move (x := .d (.v _)) rfl)) ?_
          first | refine rg_g rfl rfl (fun hG => (q_len isl25 rfl (by first | exact len_map _ _ | rfl))) ?_ | refine rg_g rfl rfl (fun hG => (q_len_rs isl25 rfl rfl)) ?_ | refine rg_g rfl rfl (fun hG => (q_len_nil isl25 rfl)) ?_
          refine rg_g rfl rfl (fun hG => (q_eql rfl rfl)) ?_
          first | refine rg_pick rfl rfl rfl rfl rfl rfl ?_ | refine rg_q (q_pick rfl rfl rfl) ?_
          refine rg_q (q_assign (x := .d (.v _)) rfl) ?_
          refine rg_nil ?_
          refine aops_nil ?_
          change Awp _ _ _ _ _
          refine awp_ret ?_
          refine ⟨_, (.cons (.tmp (by first | exact .d _ | exact .rs rfl | exact .ref rfl | exact .tref rfl (.cons (.d _ rfl) (.cons (.rs rfl) .nil)))) .nil), ?_⟩
          simp [retD]
        ·
          (try simp only [decide_eq_true_eq, decide_eq_false_iff_not, Bool.and_eq_true, Bool.or_eq_true, Bool.and_eq_false_iff, Bool.or_eq_false_iff, Bool.not_eq_true', Bool.not_eq_false', Bool.not_true, Bool.not_false, bif_and, bif_or, Bool.not_not, ne_eq, Decidable.not_not, not_true_eq_false, not_false_eq_true, Int.not_le, Int.not_lt] at hc9)
          have hck : (ckT l).2 = 0 := hc9
          have hs : 0 ≤ s ∧ s ≤ 1000000 := by
            have := hc7
            simp [hck, inR] at this
            exact this
          have hz : thinR l s = ((thinL l s).map fun (n : Nat) => (n : Int), 0) := by unfold thinR; rw [if_neg (by simpa using hck), if_neg (by simpa using hs)]
          rw [hz] at hXe
          cases hXe
          refine awp_skip ?_
          change Awp _ _ _ _ _
          refine awp_seq ?_
          refine awp_region 10 mixed (by kernel_rfl) ?_
          refine rg_q (q_move (x := .d (.v _)) rfl) ?_
          refine rg_q (q_eql rfl rfl) ?_
          refine rg_q (q_move (x := .d (.v _)) rfl) ?_
          first | refine rg_g rfl rfl (fun hG => (q_move (x := .d (.sl _ _)) rfl)) ?_ | refine rg_g rfl rfl (fun hG => (q_move (x := .rs _) rfl)) ?_ | refine rg_g rfl rfl (fun hG => (q_move (x := .d (.v _)) rfl)) ?_
          first | refine rg_g rfl rfl (fun hG => (q_move (x := .d (.sl _ _)) rfl)) ?_ | refine rg_g rfl rfl (fun hG => (q_move (x := .rs _) rfl)) ?_ | refine rg_g rfl rfl (fun hG => (q_move (x := .d (.v _)) rfl)) ?_
          refine rg_g rfl rfl (fun hG => (q_move (x := .d (.v _)) rfl)) ?_
          first | refine rg_g rfl rfl (fun hG => (q_call en23 (.cons rfl (.cons rfl .nil)) rfl (rThinned_p _ _ hck hs))) ?_ | refine rg_g rfl rfl (fun hG => (q_callF en23 (.cons (by first | exact .d _ | exact .rs rfl | exact .ref rfl | exact .nil _ | exact .tref rfl (by repeat (first | exact .nil | refine .cons (.d _ rfl) ?_ | refine .cons (.rs rfl) ?_))) (.cons (by first | exact .d _ | exact .rs rfl | exact .ref rfl | exact .nil _ | exact .tref rfl (by repeat (first | exact .nil | refine .cons (.d _ rfl) ?_ | refine .cons (.rs rfl) ?_))) .nil)) rfl (rThinned_p _ _ hck hs) (by first | exact .v _ | exact D.Flat.tupF (by repeat first | exact trivial | refine ⟨.v _, ?_⟩) | exact D.Flat.aggF (by repeat first | exact trivial | refine ⟨.v _, ?_⟩)))) ?_
          first | refine rg_g rfl rfl (fun hG => (q_call en22 (.cons rfl (.cons rfl .nil)) rfl (ints_p _ _))) ?_ | refine rg_g rfl rfl (fun hG => (q_callF en22 (.cons (by first | exact .d _ | exact .rs rfl | exact .ref rfl | exact .nil _ | exact .tref rfl (by repeat (first | exact .nil | refine .cons (.d _ rfl) ?_ | refine .cons (.rs rfl) ?_))) (.cons (by first | exact .d _ | exact .rs rfl | exact .ref rfl | exact .nil _ | exact .tref rfl (by repeat (first | exact .nil | refine .cons (.d _ rfl) ?_ | refine .cons (.rs rfl) ?_))) .nil)) rfl (ints_p _ _) (by first | exact .v _ | exact D.Flat.tupF (by repeat first | exact trivial | refine ⟨.v _, ?_⟩) | exact D.Flat.aggF (by repeat first | exact trivial | refine ⟨.v _, ?_⟩)))) ?_
          first | refine rg_pick rfl rfl rfl rfl rfl rfl ?_ | refine rg_q (q_pick rfl rfl rfl) ?_
          refine rg_q (q_assign (x := .d (.v _)) rfl) ?_
          refine rg_nil ?_
          refine aops_nil ?_
          change Awp _ _ _ _ _
          refine awp_ret ?_
          refine ⟨_, (.cons (.tmp (by first | exact .d _ | exact .rs rfl | exact .ref rfl | exact .tref rfl (.cons (.d _ rfl) (.cons (.rs rfl) .nil)))) .nil), ?_⟩
          simp [retD]
end Go.Proofs.Ytgdcidbpadhkpaa.Am.M
