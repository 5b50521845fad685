/- Contracts over the abstract machine: package law: Aperture. Conditions: none. -/
import Derived.Test.YtgeieocphgnipaaGreatDoorF4
set_option linter.unusedVariables false
set_option linter.unusedSimpArgs false
-- mini
namespace Go.Proofs.YtgeieocphgnipaaGreatDoor.Am.M
open Go

theorem sndTo_in {l : List Int} {p : Int × Int} : ∀ {k : Nat}, k ≤ l.length → p ∈ sndTo l k → 0 ≤ p.1 ∧ p.1 < k ∧ l[p.1.toNat]? = some p.2 ∧ 0 ≤ p.2
  | 0, _, h => by cases h
  | k + 1, hk, h => by
    unfold sndTo at h
    rcases List.mem_append.1 h with h | h
    · obtain ⟨a, b, c, d⟩ := sndTo_in (k := k) (by omega) h
      exact ⟨a, by omega, c, d⟩
    · have hx := List.getElem?_eq_getElem (l := l) (i := k) (by omega)
      rw [hx] at h
      simp only at h
      split at h
      · rw [List.mem_singleton.1 h]
        exact ⟨by simp, by simp only; omega, by simp, by assumption⟩
      · cases h
def xAt (a : Lar) (p : Int × Int) : Int := (a.el.getD p.1.toNat (0, 0)).1
def aptL (a : Lar) (x : Dly) : List Int := (sndL x).map (xAt a)
def aptR (a : Lar) (x : Dly) : (Int × Int) × Int := if opnE a x ≠ 0 then ((0, 0), opnE a x) else if (aptL a x).length = 0 then ((0, 0), 12) else ((minF (aptL a x), maxF (aptL a x)), 0)
set_option maxRecDepth 100000 in
theorem aperture_p (a : Lar) (x : Dly) (h : opnE a x = 0) : PC Tryz.prog 47 [.agg (larC a), .agg (dlyC x)] (.tup [.agg [.v (.int .i64 ((aptR a x).1.1)), .v (.int .i64 ((aptR a x).1.2))], .v (.int .i64 ((aptR a x).2))]) := by
  obtain ⟨h1, h2, h3⟩ := lop_ok h
  have hok := (ckLaw_ok h2).1
  have hl16 : (sndL x).length ≤ 16 := Nat.le_trans sndTo_len hok.n2
  have hal : (aptL a x).length = (sndL x).length := by unfold aptL; rw [List.length_map]
  refine pc_of_awpN Tryz.func47 rfl Tryz.ntmps47 (rs := [.cell 4 49, .tmp 5]) Tryz.results47 (by simp) fun w0 hmine hrnd hpn => ?_
  refine awp_seq ?_
  refine awp_region 2 mixed (by kernel_rfl) ?_
  refine rg_q (q_box rfl (by exact .inr ⟨_, rfl⟩)) ?_
  refine rg_q (q_box rfl (by exact .inr ⟨_, rfl⟩)) ?_
  refine rg_nil ?_
  refine aops_alloc zr49 rfl rfl rfl ?_
  refine aops_q rfl (q_assign (x := .d (.v _)) rfl) ?_
  refine aops_nil ?_
  change Awp _ _ _ _ _
  refine awp_seq ?_
  refine awp_region 6 mixed (by kernel_rfl) ?_
  refine rg_q (q_loadA (ds := [_, _, _, _, _, _]) sz26 rfl rfl rfl) ?_
  refine rg_q (q_loadA (ds := [_, _]) sz33 rfl rfl rfl) ?_
  refine rg_q (q_call en87 (.cons rfl (.cons rfl .nil)) rfl (open_p a x h)) ?_
  refine rg_q (q_move (x := .d (.tup _)) rfl) ?_
  refine rg_q (q_extract rfl rfl) ?_
  refine rg_q (q_extract rfl rfl) ?_
  refine rg_nil ?_
  refine aops_alloc zr138 rfl rfl rfl ?_
  refine aops_store sz138 rfl rfl (by exact .inr ⟨_, rfl⟩) rfl rfl (by decide) rfl ?_
  refine aops_q rfl (q_assign (x := .d (.v _)) rfl) ?_
  refine aops_nil ?_
  change Awp _ _ _ _ _
  refine awp_seq ?_
  refine awp_seq ?_
  refine awp_region 2 mixed (by kernel_rfl) ?_
  refine rg_q (q_move (x := .d (.v _)) rfl) ?_
  refine rg_q (q_neq rfl rfl) ?_
  refine rg_nil ?_
  refine aops_nil ?_
  change Awp _ _ _ _ _
  refine awp_cond rfl (fun hc2 => ?_) (fun hc2 => ?_)
  ·
    simp at hc2
  ·
    (try simp only [decide_eq_true_eq, decide_eq_false_iff_not, Bool.and_eq_true, Bool.or_eq_true, Bool.and_eq_false_iff, Bool.or_eq_false_iff, Bool.not_eq_true', Bool.not_eq_false', Bool.not_true, Bool.not_false, bif_and, bif_or, Bool.not_not, ne_eq, Decidable.not_not, not_true_eq_false, not_false_eq_true, Int.not_le, Int.not_lt] at hc2)
    refine awp_skip ?_
    change Awp _ _ _ _ _
    refine awp_seq ?_
    refine awp_region 0 mixed (by kernel_rfl) ?_
    refine rg_nil ?_
    refine aops_alloc zr31 rfl rfl rfl ?_
    refine aops_nil ?_
    change Awp _ _ _ _ _
    refine awp_seq ?_
    refine awp_seq ?_
    refine awp_region 2 mixed (by kernel_rfl) ?_
    refine rg_q (q_loadA (ds := [_, _]) sz33 rfl rfl rfl) ?_
    refine rg_q (q_call en104 (.cons rfl .nil) rfl (senders_p _)) ?_
    refine rg_nil ?_
    refine aops_nil ?_
    change Awp _ _ _ _ _
    refine awp_block ?_
    refine Awp.le (le_freeze 6 6 0 (cs := bmC a x) rfl rfl rfl rfl hmine) ?_
    refine Awp.le (le_ownB 8 33 0 3 1 rfl rfl rfl) ?_
    refine awp_rangeC (α := Int × Int) (β := Nat) (n := 43) (enc := fun p : Int × Int => [.v (.int .i64 p.1), .v (.int .i64 p.2)]) (items := sndL x) 1000 [(4, .ref 4 0), (6, .d (.pt (bmC a x) 0)), (8, .ref 8 0), (21, .d (.fn (.func 146) [.pt (dlyC x) 0]))] (fun q => [(4, .box [.v (.int .i64 0), .v (.int .i64 0)]), (8, .tbox [.rs 33]), (33, .row 3 1 (((sndL x).take q).map fun p => iC (xAt a p)))]) (fun k q => q = k ∧ k ≤ (sndL x).length) (fun e q => False) 0 hrnd ?_ (.inr ⟨rfl, rfl⟩) en146 (senders_i x) rfl (fun _ => rfl) rfl (fun _ => by repeat first | exact trivial | refine ⟨by exact .v _, ?_⟩) (fun _ => rfl) ⟨rfl, Nat.zero_le _⟩ (fun h => by cases h) ?_ ?_ ?_
    · exact le_cst (fun k => k) _ _ rfl ⟨rfl, rfl, rfl, rfl, trivial⟩ ⟨rfl, rfl, rfl, trivial⟩ rfl (fun k b h => by rw [hpn k] at h; cases h)
    ·
      intro w1 hw1 k q y hI hy
      obtain ⟨rfl, hk⟩ := hI
      have hql : q < (sndL x).length := (List.getElem?_eq_some_iff.1 hy).1
      have hqe : (sndL x)[q] = y := (List.getElem?_eq_some_iff.1 hy).2
      have hql2 : ((sndL x).take q).length ≤ 16 := by rw [List.length_take]; omega
      obtain ⟨b1, b2, b3, b4⟩ := sndTo_in (Nat.le_refl _) (show y ∈ sndTo x.tk x.tk.length from List.mem_of_getElem? hy)
      obtain ⟨e, hel⟩ : ∃ e, a.el[y.1.toNat]? = some e := ⟨_, List.getElem?_eq_getElem (by omega)⟩
      have hxe : xAt a y = e.1 := by unfold xAt; rw [List.getD_eq_getElem?_getD, hel]; rfl
      have hs1 : (((sndL x).take q).map fun p => iC (xAt a p)) ++ [iC e.1] = ((sndL x).take (q + 1)).map fun p => iC (xAt a p) := by
        rw [List.take_succ_eq_append_getElem hql, hqe, ← hxe]; simp
      refine awp_region 1 mixed (by kernel_rfl) ?_
      refine rg_q (q_assign (x := .d (.v _)) rfl) ?_
      refine rg_nil ?_
      refine aops_nil ?_
      refine ⟨rfl, fun w2 hw2 => ?_⟩
      refine awp_block ?_
      refine awp_regionC 11 [0, 9, 10] [1033, 1008] mixed (by kernel_rfl) ?_
      refine rgc_c rfl rfl (c_q (q_load_tb (x := .rs _) sz31 rfl rfl rfl)) ?_
      refine rgc_q rfl (q_fieldAddr fld138_0 rfl) rfl ?_
      refine rgc_q rfl (q_fieldAddr fld26_0 rfl) rfl ?_
      refine rgc_q rfl (q_load sz22 rfl rfl) rfl ?_
      refine rgc_q rfl (q_move (x := .d (.v _)) rfl) rfl ?_
      refine rgc_q rfl (q_indexAddr sl22 rfl rfl (by omega) (map_at (k := y.1.toNat) (by omega) hel)) rfl ?_
      refine rgc_q rfl (q_fieldAddr fld28_0 rfl) rfl ?_
      refine rgc_q rfl (q_load sz3 rfl rfl) rfl ?_
      refine rgc_q rfl (q_buildSlice sl31 zr3 rfl rfl (by decide) (.cons rfl (by exact .inl rfl) .nil) ⟨rfl, rfl, trivial⟩ rfl (by decide) rfl) rfl ?_
      refine rgc_c rfl rfl (c_append (es' := ((sndL x).take (q + 1)).map fun p => iC (xAt a p)) sl31 zr3 by3 rfl (by decide) rfl rfl rfl rfl (by (try simp only [List.length_map, List.length_append, List.length_cons, List.length_nil]); omega) (by (try simp only [List.length_map, List.length_append, List.length_cons, List.length_nil]); omega) hs1) ?_
      refine rgc_c rfl rfl ((c_storeR sz31 rfl rfl rfl (by decide) rfl)) ?_
      refine rgc_nil ?_
      refine aops_nil ?_
      refine .inl ⟨rfl, q + 1, ⟨rfl, hql⟩, ?_⟩
      exact le_round [] _ hw2 rfl ⟨(by rfl), (by rfl), (by rfl), trivial⟩ rfl
    ·
      intro q hI
      obtain ⟨rfl, _⟩ := hI
      rw [List.take_length]
      have hmm : ((sndL x).map fun p => iC (xAt a p)) = (aptL a x).map iC := by unfold aptL; rw [List.map_map]; rfl
      rw [hmm]
      change Awp _ _ _ _ _
      refine awp_seq ?_
      refine awp_seq ?_
      refine awp_region 3 mixed (by kernel_rfl) ?_
      refine rg_q (q_load_tb (x := .rs _) sz31 rfl rfl rfl) ?_
      refine rg_q (q_len_rs isl31 rfl rfl) ?_
      refine rg_q (q_eql rfl rfl) ?_
      refine rg_nil ?_
      refine aops_nil ?_
      change Awp _ _ _ _ _
      skip
      (try simp only [List.length_map] at hl34)
      refine awp_cond rfl (fun hc8 => ?_) (fun hc8 => ?_)
      ·
        (try simp only [decide_eq_true_eq, decide_eq_false_iff_not, Bool.and_eq_true, Bool.or_eq_true, Bool.and_eq_false_iff, Bool.or_eq_false_iff, Bool.not_eq_true', Bool.not_eq_false', Bool.not_true, Bool.not_false, bif_and, bif_or, Bool.not_not, ne_eq, Decidable.not_not, not_true_eq_false, not_false_eq_true, Int.not_le, Int.not_lt] at hc8)
        simp only [List.length_map] at hc8
        have hz : aptR a x = ((0, 0), 12) := by unfold aptR; rw [if_neg (by rw [h]; simp), if_pos (by omega)]
        refine awp_seq ?_
        refine awp_region 1 mixed (by kernel_rfl) ?_
        refine rg_q (q_build (cs := [_, _]) pl49 zr49 rfl .nil trivial rfl) ?_
        refine rg_nil ?_
        refine aops_store sz49 rfl rfl (by exact .inr ⟨_, rfl⟩) rfl rfl (by decide) rfl ?_
        refine aops_q rfl (q_assign (x := .d (.v _)) rfl) ?_
        refine aops_nil ?_
        change Awp _ _ _ _ _
        refine awp_ret ?_
        refine ⟨_, (.cons (.cellA rfl rfl sz49 rfl) (.cons (.tmp (by exact .d _)) .nil)), ?_⟩
        rw [hz]; rfl
      ·
        (try simp only [decide_eq_true_eq, decide_eq_false_iff_not, Bool.and_eq_true, Bool.or_eq_true, Bool.and_eq_false_iff, Bool.or_eq_false_iff, Bool.not_eq_true', Bool.not_eq_false', Bool.not_true, Bool.not_false, bif_and, bif_or, Bool.not_not, ne_eq, Decidable.not_not, not_true_eq_false, not_false_eq_true, Int.not_le, Int.not_lt] at hc8)
        simp only [List.length_map] at hc8
        have hz : aptR a x = ((minF (aptL a x), maxF (aptL a x)), 0) := by unfold aptR; rw [if_neg (by rw [h]; simp), if_neg (by omega)]
        refine awp_skip ?_
        change Awp _ _ _ _ _
        refine awp_seq ?_
        refine awp_region 5 mixed (by kernel_rfl) ?_
        refine rg_q (q_load_tb (x := .rs _) sz31 rfl rfl rfl) ?_
        refine rg_q (q_callF en105 (.cons (by exact .rs rfl) .nil) rfl (minI_p (aptL a x) (by omega)) (by exact .v _)) ?_
        refine rg_q (q_load_tb (x := .rs _) sz31 rfl rfl rfl) ?_
        refine rg_q (q_callF en106 (.cons (by exact .rs rfl) .nil) rfl (maxI_p (aptL a x) (by omega)) (by exact .v _)) ?_
        refine rg_q (q_build (cs := [_, _]) pl49 zr49 rfl (.cons rfl (by exact .inl rfl) (.cons rfl (by exact .inl rfl) .nil)) ⟨⟨rfl, by decide⟩, ⟨rfl, by decide⟩, trivial⟩ rfl) ?_
        refine rg_nil ?_
        refine aops_store sz49 rfl rfl (by exact .inr ⟨_, rfl⟩) rfl rfl (by decide) rfl ?_
        refine aops_q rfl (q_assign (x := .d (.v _)) rfl) ?_
        refine aops_nil ?_
        change Awp _ _ _ _ _
        refine awp_ret ?_
        refine ⟨_, (.cons (.cellA rfl rfl sz49 rfl) (.cons (.tmp (by exact .d _)) .nil)), ?_⟩
        rw [hz]; rfl
    ·
      exact fun e q h => h.elim
end Go.Proofs.YtgeieocphgnipaaGreatDoor.Am.M
