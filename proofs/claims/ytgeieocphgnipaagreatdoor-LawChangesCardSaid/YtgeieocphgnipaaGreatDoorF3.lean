/- Contracts over the abstract machine: package law: Sending, Aperture. Conditions: none. -/
import Derived.Test.YtgeieocphgnipaaGreatDoorF2
set_option linter.unusedVariables false
set_option linter.unusedSimpArgs false
-- mini
namespace Go.Proofs.YtgeieocphgnipaaGreatDoor.Am.M
open Go

theorem sndTo_len {l : List Int} : ∀ {k : Nat}, (sndTo l k).length ≤ k
  | 0 => Nat.le_refl _
  | k + 1 => by
    have := sndTo_len (l := l) (k := k)
    unfold sndTo
    rw [List.length_append]
    cases l[k]? with
    | none => simp; omega
    | some n => simp only; split <;> simp <;> omega
structure DlyOk (x : Dly) : Prop where
  c1 : 1 ≤ x.ck
  c2 : x.ck ≤ 1000000
  n1 : 1 ≤ x.tk.length
  n2 : x.tk.length ≤ 16
  tk : ∀ n ∈ x.tk, -1 ≤ n ∧ n ≤ 1000000
theorem ckTk_ok : ∀ {l : List Int} {i : Nat}, (ckTk i l).2 = 0 → ∀ n ∈ l, -1 ≤ n ∧ n ≤ 1000000
  | [], _, _, n, h => by cases h
  | a :: l, i, h, n, hn => by
    unfold ckTk at h
    split at h
    · rename_i ha
      rcases List.mem_cons.1 hn with rfl | hn
      · simpa [inR] using ha
      · exact ckTk_ok h n hn
    · simp at h
theorem ckLaw_ok {x : Dly} (h : (ckLaw x).2 = 0) : DlyOk x ∧ ckLaw x = (0, 0) := by
  unfold ckLaw at h ⊢
  by_cases h0 : dlyE0 x ≠ 0
  · rw [if_pos h0] at h; exact absurd h h0
  rw [if_neg h0] at h ⊢
  have h1 := Decidable.not_not.1 h0
  unfold dlyE0 at h1
  rw [first_zero] at h1
  simp only [List.mem_cons, List.not_mem_nil, or_false, forall_eq_or_imp, forall_eq] at h1
  obtain ⟨k1, k2⟩ := h1
  have k3 : 1 ≤ x.ck ∧ x.ck ≤ 1000000 := by
    unfold clkE at k1; split at k1
    · rename_i q; simpa [inR] using q
    · cases k1
  have k4 : 1 ≤ x.tk.length ∧ x.tk.length ≤ 16 := by
    unfold cntE at k2; split at k2
    · cases k2
    · split at k2
      · cases k2
      · omega
  refine ⟨⟨k3.1, k3.2, k4.1, k4.2, ckTk_ok h⟩, ?_⟩
  have : ∀ {l : List Int} {i : Nat}, (ckTk i l).2 = 0 → ckTk i l = (0, 0) := by
    intro l
    induction l with
    | nil => intro i _; rfl
    | cons a l ih =>
      intro i h
      unfold ckTk at h ⊢
      split at h
      · rename_i q; rw [if_pos q]; exact ih h
      · simp at h
  exact this h
def sndL (x : Dly) : List (Int × Int) := sndTo x.tk x.tk.length
def sendR (x : Dly) : List Int × Int := if (ckLaw x).2 ≠ 0 then ([], (ckLaw x).2) else ((sndL x).map fun p => p.1, 0)
set_option maxRecDepth 100000 in
theorem sending_p (x : Dly) : PC Tryz.prog 68 [.agg (dlyC x)] (.tup [.sl 1 ((sendR x).1.map iC), .v (.int .i64 ((sendR x).2))]) := by
  refine pc_of_awpN Tryz.func68 rfl Tryz.ntmps68 (rs := [.tmp 2, .tmp 3]) Tryz.results68 (by simp) fun w0 hmine hrnd hpn => ?_
  refine awp_seq ?_
  refine awp_region 3 mixed (by kernel_rfl) ?_
  refine rg_q (q_box rfl (by exact .inr ⟨_, rfl⟩)) ?_
  refine rg_q (q_assign (x := .d (.sl _ _)) rfl) ?_
  refine rg_q (q_assign (x := .d (.v _)) rfl) ?_
  refine rg_nil ?_
  refine aops_nil ?_
  change Awp _ _ _ _ _
  refine awp_seq ?_
  refine awp_seq ?_
  refine awp_region 3 mixed (by kernel_rfl) ?_
  refine rg_q (q_loadA (ds := [_, _]) sz33 rfl rfl rfl) ?_
  refine rg_q (q_call en102 (.cons rfl .nil) rfl (lawErr_p _)) ?_
  refine rg_q (q_assign (x := .d (.v _)) rfl) ?_
  refine rg_nil ?_
  refine aops_nil ?_
  change Awp _ _ _ _ _
  refine awp_seq ?_
  refine awp_region 2 mixed (by kernel_rfl) ?_
  refine rg_q (q_move (x := .d (.v _)) rfl) ?_
  refine rg_q (q_neq rfl rfl) ?_
  refine rg_nil ?_
  refine aops_nil ?_
  change Awp _ _ _ _ _
  refine awp_cond rfl (fun hc2 => ?_) (fun hc2 => ?_)
  ·
    (try simp only [decide_eq_true_eq, decide_eq_false_iff_not, Bool.and_eq_true, Bool.or_eq_true, Bool.and_eq_false_iff, Bool.or_eq_false_iff, Bool.not_eq_true', Bool.not_eq_false', Bool.not_true, Bool.not_false, bif_and, bif_or, Bool.not_not, ne_eq, Decidable.not_not, not_true_eq_false, not_false_eq_true, Int.not_le, Int.not_lt] at hc2)
    have hz : sendR x = ([], (ckLaw x).2) := by unfold sendR; rw [if_pos hc2]
    refine awp_seq ?_
    refine awp_region 3 mixed (by kernel_rfl) ?_
    refine rg_q (q_move (x := .d (.v _)) rfl) ?_
    refine rg_q (q_assign (x := .d (.sl _ _)) rfl) ?_
    refine rg_q (q_assign (x := .d (.v _)) rfl) ?_
    refine rg_nil ?_
    refine aops_nil ?_
    change Awp _ _ _ _ _
    refine awp_ret ?_
    refine ⟨_, (.cons (.tmp (by exact .d _)) (.cons (.tmp (by exact .d _)) .nil)), ?_⟩
    rw [hz]; rfl
  ·
    (try simp only [decide_eq_true_eq, decide_eq_false_iff_not, Bool.and_eq_true, Bool.or_eq_true, Bool.and_eq_false_iff, Bool.or_eq_false_iff, Bool.not_eq_true', Bool.not_eq_false', Bool.not_true, Bool.not_false, bif_and, bif_or, Bool.not_not, ne_eq, Decidable.not_not, not_true_eq_false, not_false_eq_true, Int.not_le, Int.not_lt] at hc2)
    have hz0 : (ckLaw x).2 = 0 := by simpa using hc2
    have hok := (ckLaw_ok hz0).1
    have hz : sendR x = ((sndL x).map fun p => p.1, 0) := by unfold sendR; rw [if_neg (by rw [hz0]; simp)]
    have hl16 : (sndL x).length ≤ 16 := Nat.le_trans sndTo_len hok.n2
    refine awp_skip ?_
    change Awp _ _ _ _ _
    refine awp_seq ?_
    refine awp_region 0 mixed (by kernel_rfl) ?_
    refine rg_nil ?_
    refine aops_alloc zr31 rfl rfl rfl ?_
    refine aops_nil ?_
    change Awp _ _ _ _ _
    refine awp_seq ?_
    refine awp_seq ?_
    refine awp_region 2 mixed (by kernel_rfl) ?_
    refine rg_q (q_loadA (ds := [_, _]) sz33 rfl rfl rfl) ?_
    refine rg_q (q_call en104 (.cons rfl .nil) rfl (senders_p _)) ?_
    refine rg_nil ?_
    refine aops_nil ?_
    change Awp _ _ _ _ _
    refine awp_block ?_
    refine Awp.le (le_ownB 5 19 0 3 1 rfl rfl rfl) ?_
    refine awp_rangeC (α := Int × Int) (β := Nat) (n := 21) (enc := fun p : Int × Int => [.v (.int .i64 p.1), .v (.int .i64 p.2)]) (items := sndL x) 1000 [(5, .ref 5 0), (13, .d (.fn (.func 146) [.pt (dlyC x) 0]))] (fun q => [(5, .tbox [.rs 19]), (19, .row 3 1 ((((sndL x).take q).map fun p => p.1).map iC))]) (fun k q => q = k ∧ k ≤ (sndL x).length) (fun e q => False) 0 hrnd ?_ (.inr ⟨rfl, rfl⟩) en146 (senders_i x) rfl (fun _ => rfl) rfl (fun _ => by repeat first | exact trivial | refine ⟨by exact .v _, ?_⟩) (fun _ => rfl) ⟨rfl, Nat.zero_le _⟩ (fun h => by cases h) ?_ ?_ ?_
    · exact le_cst (fun k => k) _ _ rfl ⟨rfl, rfl, trivial⟩ ⟨rfl, rfl, trivial⟩ rfl (fun k b h => by rw [hpn k] at h; cases h)
    ·
      intro w1 hw1 k q y hI hy
      obtain ⟨rfl, hk⟩ := hI
      have hql : q < (sndL x).length := (List.getElem?_eq_some_iff.1 hy).1
      have hqe : (sndL x)[q] = y := (List.getElem?_eq_some_iff.1 hy).2
      have hql2 : ((sndL x).take q).length ≤ 16 := by rw [List.length_take]; omega
      have hs1 : ((((sndL x).take q).map fun p => p.1).map iC) ++ [iC y.1] = (((sndL x).take (q + 1)).map fun p => p.1).map iC := by
        rw [List.take_succ_eq_append_getElem hql, hqe]; simp
      refine awp_region 1 mixed (by kernel_rfl) ?_
      refine rg_q (q_assign (x := .d (.v _)) rfl) ?_
      refine rg_nil ?_
      refine aops_nil ?_
      refine ⟨rfl, fun w2 hw2 => ?_⟩
      refine awp_block ?_
      refine awp_region 3 mixed (by kernel_rfl) ?_
      refine rg_q (q_load_tb (x := .rs _) sz31 rfl rfl rfl) ?_
      refine rg_q (q_move (x := .d (.v _)) rfl) ?_
      refine rg_q (q_buildSlice sl31 zr3 rfl rfl (by decide) (.cons rfl (by exact .inl rfl) .nil) ⟨rfl, rfl, trivial⟩ rfl (by decide) rfl) ?_
      refine rg_nil ?_
      refine aops_append sl31 zr3 by3 rfl (by decide) rfl rfl rfl rfl (by (try simp only [List.length_map, List.length_append, List.length_cons, List.length_nil]); omega) (by (try simp only [List.length_map, List.length_append, List.length_cons, List.length_nil]); omega) rfl rfl ?_
      refine aops_storeT (z := .rs _) sz31 rfl rfl rfl rfl (by decide) rfl ?_
      refine aops_nil ?_
      refine .inl ⟨rfl, q + 1, ⟨rfl, hql⟩, ?_⟩
      exact le_round [] _ hw2 rfl ⟨(by rfl), (by (show Site.row 3 1 (_ ++ [_]) = Site.row 3 1 _; exact congrArg (Site.row 3 1) hs1)), trivial⟩ rfl
    ·
      intro q hI
      obtain ⟨rfl, _⟩ := hI
      rw [List.take_length]
      change Awp _ _ _ _ _
      refine awp_seq ?_
      refine awp_region 3 mixed (by kernel_rfl) ?_
      refine rg_q (q_load_tb (x := .rs _) sz31 rfl rfl rfl) ?_
      refine rg_q (q_assign (x := .rs _) rfl) ?_
      refine rg_q (q_assign (x := .d (.v _)) rfl) ?_
      refine rg_nil ?_
      refine aops_nil ?_
      change Awp _ _ _ _ _
      refine awp_ret ?_
      refine ⟨_, (.cons (.tmp (by exact .rs rfl)) (.cons (.tmp (by exact .d _)) .nil)), ?_⟩
      rw [hz]; rfl
    ·
      exact fun e q h => h.elim
end Go.Proofs.YtgeieocphgnipaaGreatDoor.Am.M
