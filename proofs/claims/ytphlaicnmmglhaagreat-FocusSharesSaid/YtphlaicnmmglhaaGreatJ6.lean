/- Contracts over the abstract machine, joined. Conditions: none. -/
import Derived.Test.YtphlaicnmmglhaaGreatJ5
set_option linter.unusedVariables false
set_option linter.unusedSimpArgs false
-- mini
namespace Go.Proofs.YtphlaicnmmglhaaGreat.Am.M
open Go

theorem frR_ok {n : Int} : ∀ {l ks : List Int}, (frR n ks l).1 = 0 → KsOk n ks → KsOk n (ks ++ l)
  | [], ks, _, h => by rw [List.append_nil]; exact h
  | x :: l, ks, h, hk => by
    unfold frR at h
    by_cases h1 : ¬ inR 0 x (n - 1) = true
    · rw [if_pos h1] at h; cases h
    · rw [if_neg h1] at h
      by_cases h2 : x ∈ ks
      · rw [if_pos h2] at h; cases h
      · rw [if_neg h2] at h
        have h3 := inR_iff.1 (Decidable.not_not.1 h1)
        have := frR_ok h (ks_snoc hk h3 h2)
        rwa [List.append_assoc, List.singleton_append] at this
def frE (n : Int) (l : List Int) : Int := (frR n [] l).1
theorem frE_ok {n : Int} {l : List Int} (h : frE n l = 0) : KsOk n l := by
  have := frR_ok h (⟨List.nodup_nil, fun x hx => by cases hx⟩ : KsOk n [])
  rwa [List.nil_append] at this
set_option maxRecDepth 100000 in
theorem shareK_p (t : Tsk) (fs : List Int) (h : TskOk t) (hd : frE t.ne fs = 0) (hfl : fs.length ≤ 100) : PC Tryz.prog 63 [.agg (tskC t), .sl 1 (fs.map iC)] (.tup [.sl 1 ((imL t fs []).map cvC), .v (.int .i64 (0))]) := by
 have hn1 := h.n1
 have hn2 := h.n2
 have hcl := cl_le h
 have hvl : (vlsL t fs []).length ≤ 10000 := by unfold vlsL; rw [vlsF_len]; omega
 obtain ⟨_, hk2⟩ := frE_ok hd
 have hin : ∀ x ∈ fs, 0 ≤ x ∧ x < t.ne := fun x hx => by have := hk2 x hx; omega
 refine pc_of_awpN Tryz.func63 rfl Tryz.ntmps63 (rs := [.tmp 4, .tmp 5]) Tryz.results63 (by simp) fun w0 hmine hrnd hpn => ?_
 refine awp_seq ?_
 refine awp_region 3 mixed (by kernel_rfl) ?_
 refine rg_q (q_box rfl (by exact .inr ⟨_, rfl⟩)) ?_
 refine rg_q (q_assign (x := .d (.sl _ _)) rfl) (rg_q (q_a rfl) ?_)
 refine rs (awp_region 7 mixed (by kernel_rfl) ?_)
 refine rg_q (q_loadA sz37 rfl rfl rfl) ?_
 refine rg_q (q_call en112 (.cons rfl .nil) rfl (open_p t h)) ?_
 refine rg_q (q_move (x := .d (.tup _)) rfl) (rg_q (q_extract rfl rfl) (rg_q (q_extract rfl rfl) (rg_q (q_assign (x := .d (.pt _ _)) rfl) (rg_q (q_a rfl) ?_))))
 refine rn ?_
 change Awp _ _ _ _ _
 refine awp_seq ?_
 refine awp_seq ?_
 refine awp_region 2 mixed (by kernel_rfl) ?_
 refine rg_q (q_m rfl) (rg_q (q_neq rfl rfl) ?_)
 refine rn ?_
 change Awp _ _ _ _ _
 refine awp_cond rfl (fun hc2 => ?_) (fun hc2 => ?_)
 ·
  simp at hc2
 ·
  (try simp only [nb, ne_eq] at hc2)
  refine awp_skip ?_
  change Awp _ _ _ _ _
  refine awp_seq ?_
  refine awp_seq ?_
  refine awp_region 5 mixed (by kernel_rfl) ?_
  refine rg_q (q_move (x := .d (.pt _ _)) rfl) (rg_q (q_nilCheck rfl) (rg_q (q_fieldAddr fld202_2 rfl) (rg_q (q_load sz3 rfl rfl) (rg_q (q_move (x := .d (.sl _ _)) rfl) ?_))))
  refine rg_nil ?_
  refine aops_makeMap rfl rfl ?_
  refine aops_callL [22] [] en133 (firingsErr_p t.ne fs [] (by omega) (by omega)) (.cons rfl (.cons rfl (.cons rfl .nil))) rfl rfl rfl (by repeat (first | exact trivial | refine ⟨rfl, ?_⟩)) (by repeat (exact trivial)) rfl ?_
  refine aops_q rfl (q_a rfl) ?_
  refine aops_nil ?_
  change Awp _ _ _ _ _
  refine awp_seq ?_
  refine awp_region 2 mixed (by kernel_rfl) ?_
  refine rg_q (q_m rfl) (rg_q (q_neq rfl rfl) ?_)
  refine rn ?_
  change Awp _ _ _ _ _
  refine awp_cond rfl (fun hc5 => ?_) (fun hc5 => ?_)
  ·
   (try simp only [nb, ne_eq] at hc5)
   exact absurd hd hc5
  ·
   (try simp only [nb, ne_eq] at hc5)
   refine awp_skip ?_
   change Awp _ _ _ _ _
   refine awp_seq ?_
   refine awp_region 6 mixed (by kernel_rfl) ?_
   refine rg_q (q_move (x := .d (.pt _ _)) rfl) (rg_q (q_move (x := .d (.sl _ _)) rfl) ?_)
   refine rg_q (q_call en114 (.cons rfl (.cons rfl (.cons rfl .nil))) rfl (values_p t fs [] h hin (by omega))) ?_
   refine rg_q (q_call en113 (.cons rfl .nil) rfl (numbersOf5_p _ hvl)) ?_
   refine rg_q (q_assign (x := .d (.sl _ _)) rfl) (rg_q (q_a rfl) ?_)
   refine rn ?_
   change Awp _ _ _ _ _
   refine awp_ret ?_
   refine ⟨_, (.cons (.tmp (by exact .d _)) (.cons (.tmp (by exact .d _)) .nil)), ?_⟩
   rfl
set_option maxRecDepth 100000 in
theorem shareW_p (t : Tsk) (fs : List Int) (hw : (ckT t).2 ≠ 0) : PC Tryz.prog 63 [.agg (tskC t), .sl 1 (fs.map iC)] (.tup [.sl 1 (([] : List (Nat × Nat)).map cvC), .v (.int .i64 ((ckT t).2))]) := by
 refine pc_of_awpN Tryz.func63 rfl Tryz.ntmps63 (rs := [.tmp 4, .tmp 5]) Tryz.results63 (by simp) fun w0 hmine hrnd hpn => ?_
 refine awp_seq ?_
 refine awp_region 3 mixed (by kernel_rfl) ?_
 refine rg_q (q_box rfl (by exact .inr ⟨_, rfl⟩)) ?_
 refine rg_q (q_assign (x := .d (.sl _ _)) rfl) (rg_q (q_a rfl) ?_)
 refine rs (awp_region 7 mixed (by kernel_rfl) ?_)
 refine rg_q (q_loadA sz37 rfl rfl rfl) ?_
 refine rg_q (q_call en112 (.cons rfl .nil) rfl (open5_p t hw)) ?_
 refine rg_q (q_move (x := .d (.tup _)) rfl) (rg_q (q_extract rfl rfl) (rg_q (q_extract rfl rfl) (rg_q (q_a rfl) (rg_q (q_a rfl) ?_))))
 refine rn ?_
 change Awp _ _ _ _ _
 refine awp_seq ?_
 refine awp_seq ?_
 refine awp_region 2 mixed (by kernel_rfl) ?_
 refine rg_q (q_m rfl) (rg_q (q_neq rfl rfl) ?_)
 refine rn ?_
 change Awp _ _ _ _ _
 refine awp_cond rfl (fun hc2 => ?_) (fun hc2 => ?_)
 ·
  (try simp only [nb, ne_eq] at hc2)
  refine awp_seq ?_
  refine awp_region 3 mixed (by kernel_rfl) ?_
  refine rg_q (q_m rfl) (rg_q (q_assign (x := .d (.sl _ _)) rfl) (rg_q (q_a rfl) ?_))
  refine rn ?_
  change Awp _ _ _ _ _
  refine awp_ret ?_
  refine ⟨_, (.cons (.tmp (by exact .d _)) (.cons (.tmp (by exact .d _)) .nil)), ?_⟩
  rfl
 ·
  (try simp only [nb, ne_eq] at hc2)
  exact absurd hc2 hw
set_option maxRecDepth 100000 in
theorem shareD_p (t : Tsk) (fs : List Int) (h : TskOk t) (hd : frE t.ne fs ≠ 0) : PC Tryz.prog 63 [.agg (tskC t), .sl 1 (fs.map iC)] (.tup [.sl 1 (([] : List (Nat × Nat)).map cvC), .v (.int .i64 (frE t.ne fs))]) := by
 have hn1 := h.n1
 have hn2 := h.n2
 refine pc_of_awpN Tryz.func63 rfl Tryz.ntmps63 (rs := [.tmp 4, .tmp 5]) Tryz.results63 (by simp) fun w0 hmine hrnd hpn => ?_
 refine awp_seq ?_
 refine awp_region 3 mixed (by kernel_rfl) ?_
 refine rg_q (q_box rfl (by exact .inr ⟨_, rfl⟩)) ?_
 refine rg_q (q_assign (x := .d (.sl _ _)) rfl) (rg_q (q_a rfl) ?_)
 refine rs (awp_region 7 mixed (by kernel_rfl) ?_)
 refine rg_q (q_loadA sz37 rfl rfl rfl) ?_
 refine rg_q (q_call en112 (.cons rfl .nil) rfl (open_p t h)) ?_
 refine rg_q (q_move (x := .d (.tup _)) rfl) (rg_q (q_extract rfl rfl) (rg_q (q_extract rfl rfl) (rg_q (q_assign (x := .d (.pt _ _)) rfl) (rg_q (q_a rfl) ?_))))
 refine rn ?_
 change Awp _ _ _ _ _
 refine awp_seq ?_
 refine awp_seq ?_
 refine awp_region 2 mixed (by kernel_rfl) ?_
 refine rg_q (q_m rfl) (rg_q (q_neq rfl rfl) ?_)
 refine rn ?_
 change Awp _ _ _ _ _
 refine awp_cond rfl (fun hc2 => ?_) (fun hc2 => ?_)
 ·
  simp at hc2
 ·
  (try simp only [nb, ne_eq] at hc2)
  refine awp_skip ?_
  change Awp _ _ _ _ _
  refine awp_seq ?_
  refine awp_seq ?_
  refine awp_region 5 mixed (by kernel_rfl) ?_
  refine rg_q (q_move (x := .d (.pt _ _)) rfl) (rg_q (q_nilCheck rfl) (rg_q (q_fieldAddr fld202_2 rfl) (rg_q (q_load sz3 rfl rfl) (rg_q (q_move (x := .d (.sl _ _)) rfl) ?_))))
  refine rg_nil ?_
  refine aops_makeMap rfl rfl ?_
  refine aops_callL [22] [] en133 (firingsErr_p t.ne fs [] (by omega) (by omega)) (.cons rfl (.cons rfl (.cons rfl .nil))) rfl rfl rfl (by repeat (first | exact trivial | refine ⟨rfl, ?_⟩)) (by repeat (exact trivial)) rfl ?_
  refine aops_q rfl (q_a rfl) ?_
  refine aops_nil ?_
  change Awp _ _ _ _ _
  refine awp_seq ?_
  refine awp_region 2 mixed (by kernel_rfl) ?_
  refine rg_q (q_m rfl) (rg_q (q_neq rfl rfl) ?_)
  refine rn ?_
  change Awp _ _ _ _ _
  refine awp_cond rfl (fun hc5 => ?_) (fun hc5 => ?_)
  ·
   (try simp only [nb, ne_eq] at hc5)
   refine awp_seq ?_
   refine awp_region 3 mixed (by kernel_rfl) ?_
   refine rg_q (q_m rfl) (rg_q (q_assign (x := .d (.sl _ _)) rfl) (rg_q (q_a rfl) ?_))
   refine rn ?_
   change Awp _ _ _ _ _
   refine awp_ret ?_
   refine ⟨_, (.cons (.tmp (by exact .d _)) (.cons (.tmp (by exact .d _)) .nil)), ?_⟩
   rfl
  ·
   (try simp only [nb, ne_eq] at hc5)
   exact absurd hc5 hd

def shE (t : Tsk) (fs : List Int) : Int := if (ckT t).2 ≠ 0 then (ckT t).2 else frE t.ne fs
def shR (t : Tsk) (fs : List Int) : List (Nat × Nat) × Int := if shE t fs ≠ 0 then ([], shE t fs) else (imL t fs [], 0)
theorem share5_p (t : Tsk) (fs : List Int) (hfl : fs.length ≤ 100) : PC Tryz.prog 63 [.agg (tskC t), .sl 1 (fs.map iC)] (.tup [.sl 1 ((shR t fs).1.map cvC), .v (.int .i64 (shR t fs).2)]) := by
  by_cases hw : (ckT t).2 ≠ 0
  · have e : shE t fs = (ckT t).2 := by unfold shE; rw [if_pos hw]
    have hv : shR t fs = ([], (ckT t).2) := by unfold shR; rw [e, if_pos hw]
    rw [hv]
    exact shareW_p t fs hw
  · have h := ckT_ok (Decidable.not_not.1 hw)
    have e : shE t fs = frE t.ne fs := by unfold shE; rw [if_neg hw]
    by_cases ho : frE t.ne fs ≠ 0
    · have hv : shR t fs = ([], frE t.ne fs) := by unfold shR; rw [e, if_pos ho]
      rw [hv]
      exact shareD_p t fs h ho
    · have hv : shR t fs = (imL t fs [], 0) := by unfold shR; rw [e, if_neg ho]
      rw [hv]
      exact shareK_p t fs h (Decidable.not_not.1 ho) hfl
set_option maxRecDepth 100000 in
theorem rfiringsErr_p (n : Int) (l : List Int) (h1 : -1000000 ≤ n) (h2 : n ≤ 1000000) : PC Tryz.prog 64 [.v (.int .i64 (n)), .sl 1 (l.map iC)] (.v (.int .i64 (frE n l))) := by
 refine pc_of_awp Tryz.func64 rfl Tryz.ntmps64 (rs := [.tmp 4]) Tryz.results64 (by simp) fun w0 => ?_
 refine awp_seq ?_
 refine awp_region 1 mixed (by kernel_rfl) ?_
 refine rg_q (q_a rfl) ?_
 refine rn ?_
 change Awp _ _ _ _ _
 refine awp_seq ?_
 refine awp_seq ?_
 refine awp_region 1 mixed (by kernel_rfl) ?_
 refine rg_q (q_a rfl) ?_
 refine rn ?_
 change Awp _ _ _ _ _
 refine awp_block ?_
 refine awp_loopH [4, 5, 6, 7, 8, 9, 10, 11, 12, 13, 14, 15, 16, 17, 18, 19, 20, 21, 22, 23, 24, 25, 26, 27] [] (α := Nat) (fun k => [(5, T.i (k : Int))]) (fun k => []) (fun k => k ≤ l.length ∧ frR n [] l = frR n (l.take k) (l.drop k)) (fun k => l.length - k) 0 ⟨Nat.zero_le _, by simp⟩ ?_ ?_
 · exact le_head (ms := []) (by repeat (exact Out.refl _)) ⟨(by rfl), trivial⟩ trivial rfl rfl rfl rfl
 ·
  intro k ⟨hk, hh⟩
  refine awp_seq ?_
  refine awp_seq ?_
  refine awp_region 4 mixed (by kernel_rfl) ?_
  refine rg_q (q_m rfl) (rg_q (q_move (x := .d (.sl _ _)) rfl) ?_)
  refine rg_q (q_len isl77 rfl (by exact len_map _ _)) ?_
  refine rg_q (q_lss rfl rfl) ?_
  refine rn ?_
  change Awp _ _ _ _ _
  refine awp_len (t := 7) rfl (fun hl7 => ?_)
  (try simp only [List.length_map] at hl7)
  refine awp_cond rfl (fun hc2 => ?_) (fun hc2 => ?_)
  ·
   (try simp only [nb, ne_eq] at hc2)
   have hlt : k < l.length := by omega
   obtain ⟨x, hx⟩ : ∃ x, l[k]? = some x := ⟨_, List.getElem?_eq_getElem hlt⟩
   rw [frR_at hx] at hh
   refine awp_skip ?_
   change Awp _ _ _ _ _
   refine awp_seq ?_
   refine awp_block ?_
   refine awp_seq ?_
   refine awp_seq ?_
   refine awp_region 8 mixed (by kernel_rfl) ?_
   refine rg_q (q_move (x := .d (.sl _ _)) rfl) (rg_q (q_m rfl) ?_)
   refine rg_q (q_indexAddr sl77 rfl rfl (by omega) (map_at (by omega) hx)) ?_
   refine rg_q (q_load sz3 rfl rfl) (rg_q (q_m rfl) ?_)
   refine rg_q (q_sub rfl rfl (In64.mk (by omega) (by omega))) ?_
   refine rg_q (q_call en31 (.cons rfl (.cons rfl (.cons rfl .nil))) rfl (within4_p _ _ _)) ?_
   refine rg_q (q_not rfl) ?_
   refine rn ?_
   change Awp _ _ _ _ _
   refine awp_cond rfl (fun hc4 => ?_) (fun hc4 => ?_)
   ·
    (try simp only [nb, ne_eq] at hc4)
    have hz : frE n l = 6 := by unfold frE; rw [hh, if_pos (by rw [hc4]; decide)]
    refine awp_seq ?_
    refine awp_region 1 mixed (by kernel_rfl) ?_
    refine rg_q (q_a rfl) ?_
    refine rn ?_
    change Awp _ _ _ _ _
    refine awp_ret ?_
    refine ⟨_, (.cons (.tmp (by exact .d _)) .nil), ?_⟩
    rw [hz]; rfl
   ·
    (try simp only [nb, ne_eq] at hc4)
    rw [if_neg (fun q => q hc4)] at hh
    refine awp_skip ?_
    change Awp _ _ _ _ _
    refine awp_seq ?_
    refine awp_region 8 mixed (by kernel_rfl) ?_
    refine rg_q (q_move (x := .d (.sl _ _)) rfl) (rg_q (q_m rfl) ?_)
    refine rg_q (q_slice (lo := 0) (hi := k) sl77 rfl rfl rfl (by omega) (by rw [List.length_map]; omega) (by exact map_slice _ _ _ _)) ?_
    refine rg_q (q_move (x := .d (.sl _ _)) rfl) (rg_q (q_m rfl) ?_)
    refine rg_q (q_indexAddr sl77 rfl rfl (by omega) (map_at (by omega) hx)) ?_
    refine rg_q (q_load sz3 rfl rfl) ?_
    refine rg_q (q_call en134 (.cons rfl (.cons rfl .nil)) rfl (has5_p _ _)) ?_
    refine rn ?_
    change Awp _ _ _ _ _
    refine awp_cond rfl (fun hc6 => ?_) (fun hc6 => ?_)
    ·
     (try simp only [nb, ne_eq] at hc6)
     (try rw [List.drop_zero] at hc6)
     have hz : frE n l = 24 := by unfold frE; rw [hh, if_pos hc6]
     refine awp_seq ?_
     refine awp_region 1 mixed (by kernel_rfl) ?_
     refine rg_q (q_a rfl) ?_
     refine rn ?_
     change Awp _ _ _ _ _
     refine awp_ret ?_
     refine ⟨_, (.cons (.tmp (by exact .d _)) .nil), ?_⟩
     rw [hz]; rfl
    ·
     (try simp only [nb, ne_eq] at hc6)
     (try rw [List.drop_zero] at hc6)
     rw [if_neg hc6, ← takeSnoc hx] at hh
     refine awp_skip ?_
     change Awp _ _ _ _ _
     refine awp_region 3 mixed (by kernel_rfl) ?_
     refine rg_q (q_m rfl) ?_
     refine rg_q (q_add rfl rfl (In64.mk (by omega) (by omega))) ?_
     refine rg_q (q_a rfl) ?_
     refine rn ?_
     refine ⟨k + 1, ⟨by omega, hh⟩, by omega, ?_⟩
     exact le_head (ms := []) (by repeat (first | exact Out.head rfl rfl | (refine Out.put ?_ rfl))) ⟨(by rfl), trivial⟩ trivial rfl rfl rfl rfl
  ·
   (try simp only [nb, ne_eq] at hc2)
   have hz : frE n l = 0 := by unfold frE; rw [hh, List.drop_of_length_le (by omega)]; rfl
   refine awp_exit ?_
   change Awp _ _ _ _ _
   refine awp_seq ?_
   refine awp_region 1 mixed (by kernel_rfl) ?_
   refine rg_q (q_a rfl) ?_
   refine rn ?_
   change Awp _ _ _ _ _
   refine awp_ret ?_
   refine ⟨_, (.cons (.tmp (by exact .d _)) .nil), ?_⟩
   rw [hz]; rfl

theorem vlF_comm (t : Tsk) (c : Int) (x y : Int × Int) (s : (Int × Int) × Int) : vlF t c [] (vlF t c [] s x) y = vlF t c [] (vlF t c [] s y) x := by
  rw [vlF_nil, vlF_nil, vlF_nil, vlF_nil]
  by_cases q1 : inR 0 (smpI t.ar (spI t.g c) x) 60 = true <;> by_cases q2 : inR 0 (smpI t.ar (spI t.g c) y) 60 = true <;> simp [q1, q2] <;> omega
theorem vlA_perm (t : Tsk) (c : Int) {l m : List (Int × Int)} (h : l.Perm m) : vlA t c [] l = vlA t c [] m := h.foldl_eq' (fun x _ y _ s => vlF_comm t c x y s) _
theorem vlA_add (t : Tsk) (c : Int) : ∀ (l : List (Int × Int)) (s : (Int × Int) × Int), l.foldl (vlF t c []) s = ((s.1.1 + (vlA t c [] l).1.1, s.1.2 + (vlA t c [] l).1.2), s.2 + (vlA t c [] l).2)
  | [], s => by
    show s = ((s.1.1 + 0, s.1.2 + 0), s.2 + 0)
    simp
  | y :: l, s => by
    have e : vlA t c [] (y :: l) = l.foldl (vlF t c []) (vlF t c [] ((0, 0), 0) y) := rfl
    rw [e, vlA_add t c l]
    show l.foldl (vlF t c []) (vlF t c [] s y) = _
    rw [vlA_add t c l, vlF_nil, vlF_nil]
    by_cases q : inR 0 (smpI t.ar (spI t.g c) y) 60 = true
    · rw [if_pos q, if_pos q]
      simp only [Prod.mk.injEq]
      omega
    · rw [if_neg q, if_neg q]
      simp only [Prod.mk.injEq]
      omega
theorem vlA_app (t : Tsk) (c : Int) (l m : List (Int × Int)) : vlA t c [] (l ++ m) = (((vlA t c [] l).1.1 + (vlA t c [] m).1.1, (vlA t c [] l).1.2 + (vlA t c [] m).1.2), (vlA t c [] l).2 + (vlA t c [] m).2) := by
  have e : vlA t c [] (l ++ m) = m.foldl (vlF t c []) (vlA t c [] l) := by unfold vlA; rw [List.foldl_append]
  rw [e, vlA_add]
theorem nodup_all (n : Nat) : (allL n).Nodup := by
  unfold allL
  rw [List.Nodup, List.pairwise_map]
  exact List.nodup_range.imp fun h q => h (by omega)
theorem mem_all {n : Nat} {x : Int} : x ∈ allL n ↔ 0 ≤ x ∧ x < n := by
  refine ⟨allL_in, fun h => ?_⟩
  unfold allL
  exact List.mem_map.2 ⟨x.toNat, List.mem_range.2 (by omega), by omega⟩
theorem pq_filter (fs : List Int) (n : Nat) : ∀ L : List Int, (L.flatMap fun x => pqR x n).filter (prB fs []) = (L.filter fun x => decide (x ∈ fs)).flatMap fun x => pqR x n
  | [] => rfl
  | x :: L => by
    rw [List.flatMap_cons, List.filter_append, pq_filter fs n L]
    have hp : ∀ y ∈ pqR x n, prB fs [] y = decide (x ∈ fs) := fun y hy => by
      unfold pqR at hy
      obtain ⟨r, _, rfl⟩ := List.mem_map.1 hy
      unfold prB; simp
    by_cases h : x ∈ fs
    · rw [List.filter_eq_self.2 (fun y hy => by rw [hp y hy, decide_eq_true h]), List.filter_cons_of_pos (by rw [decide_eq_true h]), List.flatMap_cons]
    · rw [List.filter_eq_nil_iff.2 (fun y hy => by rw [hp y hy, decide_eq_false h]; decide), List.filter_cons_of_neg (by rw [decide_eq_false h]; decide), List.nil_append]
theorem pq_perm {fs : List Int} {n : Nat} (h : KsOk (n : Int) fs) : (pqL fs n).Perm (pqD fs [] n n) := by
  have e : pqD fs [] n n = ((allL n).filter fun x => decide (x ∈ fs)).flatMap fun x => pqR x n := by
    rw [← pq_filter]
    unfold pqD allL
    rw [List.flatMap_map]
  rw [e]
  refine List.Perm.flatMap_right _ ((List.perm_ext_iff_of_nodup h.1 ((nodup_all n).filter _)).2 fun x => ?_)
  rw [List.mem_filter, mem_all, decide_eq_true_eq]
  exact ⟨fun q => ⟨by have := h.2 x q; omega, q⟩, fun q => q.2⟩
def rsL (n : Nat) (l : List Int) : List Int := (allL n).filter fun x => !decide (x ∈ l)
theorem rs_ok (n : Nat) (l : List Int) : KsOk (n : Int) (rsL n l) := by
  refine ⟨(nodup_all n).filter _, fun x hx => ?_⟩
  have := mem_all.1 (List.mem_filter.1 hx).1
  omega
theorem rs_perm {fs : List Int} {n : Nat} (h : KsOk (n : Int) fs) : (pqL fs n ++ pqL (rsL n fs) n).Perm (pqL (allL n) n) := by
  unfold pqL
  rw [← List.flatMap_append]
  refine List.Perm.flatMap_right _ ((List.perm_ext_iff_of_nodup ?_ (nodup_all n)).2 fun x => ?_)
  · refine List.nodup_append.2 ⟨h.1, (rs_ok n fs).1, fun a ha b hb e => ?_⟩
    subst e
    have := (List.mem_filter.1 hb).2
    simp at this
    exact this ha
  · unfold rsL
    rw [List.mem_append, List.mem_filter, mem_all]
    constructor
    · rintro (q | q)
      · have := h.2 x q; omega
      · exact q.1
    · intro q
      by_cases hx : x ∈ fs
      · exact .inl hx
      · exact .inr ⟨q, by simp [hx]⟩
theorem frR_zero {n : Int} : ∀ {l ks : List Int}, KsOk n (ks ++ l) → (frR n ks l).1 = 0
  | [], ks, _ => rfl
  | x :: l, ks, h => by
    have h1 : inR 0 x (n - 1) = true := inR_iff.2 (h.2 x (by simp))
    have h2 : x ∉ ks := fun q => by
      have := (List.nodup_append.1 h.1).2.2 x q x (by simp)
      exact this rfl
    unfold frR
    rw [if_neg (fun q => q h1), if_neg h2]
    exact frR_zero (by rw [List.append_assoc, List.singleton_append]; exact h)
theorem frE_zero {n : Int} {l : List Int} (h : KsOk n l) : frE n l = 0 := frR_zero (by rwa [List.nil_append])
theorem imL_perm {t : Tsk} {fs : List Int} {l : List (Int × Int)} (h : (pqL fs t.ne.toNat).Perm l) : imL t fs [] = rimF t l (clN t) := by
  unfold imL vlsL vlsF rimF
  rw [List.map_map]
  refine List.map_congr_left fun c _ => ?_
  show czP (vlA t (c : Int) [] (pqL fs t.ne.toNat)).1 = czP (vlA t (c : Int) [] l).1
  rw [vlA_perm t c h]
theorem vs_in {t : Tsk} (h : TskOk t) (c : Int) {l : List (Int × Int)} (hl : l.length ≤ 1600) : (-6600000 ≤ (vlA t c [] l).1.1 ∧ (vlA t c [] l).1.1 ≤ 6600000) ∧ -6600000 ≤ (vlA t c [] l).1.2 ∧ (vlA t c [] l).1.2 ≤ 6600000 := by
  have hb := vlA_in h (c := c) (dd := []) (l := l) l.length (Nat.le_refl _)
  rw [List.take_length] at hb
  omega
theorem cz_ok {x : Int × Int} (h1 : -10000000 ≤ x.1 ∧ x.1 ≤ 10000000) (h2 : -10000000 ≤ x.2 ∧ x.2 ≤ 10000000) : peI (czP x) = 0 ∧ vZ (czP x) = x := by
  obtain ⟨a1, a2, a3⟩ := wd_wh (a := x.1) (by omega)
  obtain ⟨b1, b2, b3⟩ := wd_wh (a := x.2) (by omega)
  refine ⟨?_, ?_⟩
  · unfold peI czP
    simp only
    rw [a1, b1, a3, b3, decide_eq_false (by omega), decide_eq_false (by omega)]
    rfl
  · unfold vZ czP
    simp only
    rw [a2, b2]
theorem imL_at {t : Tsk} {fs : List Int} {k : Nat} (hk : k < clN t) : atZ (imL t fs []) k = czP (vlA t (k : Int) [] (pqL fs t.ne.toNat)).1 := by
  unfold atZ imL vlsL vlsF
  rw [List.getD_eq_getElem?_getD, List.getElem?_map, List.getElem?_map, List.getElem?_range hk]; rfl
theorem mg_two {t : Tsk} (h : TskOk t) {fs gs : List Int} (h1 : fs.length ≤ 100) (h2 : gs.length ≤ 100) (hp : (pqL fs t.ne.toNat ++ pqL gs t.ne.toNat).Perm (evL t)) : mgR [imL t fs [], imL t gs []] = (imL t (evI t) [], 0) := by
  have hcl := cl_le h
  have hn2 := h.n2
  have hn := Nat.mul_le_mul h1 (show t.ne.toNat ≤ 16 by omega)
  have hm := Nat.mul_le_mul h2 (show t.ne.toNat ≤ 16 by omega)
  have hd : hdN [imL t fs [], imL t gs []] = clN t := imL_len t fs []
  have e1 : (decide (([imL t fs [], imL t gs []] : List (List (Nat × Nat))).length = 0) || [imL t fs [], imL t gs []].any (neqB [imL t fs [], imL t gs []])) = false := by
    simp [neqB, hd, imL_len]
  have hc : ∀ k, k < clN t → peS (colZ [imL t fs [], imL t gs []] k) = 0 ∧ smS (colZ [imL t fs [], imL t gs []] k) = (vlA t (k : Int) [] (evL t)).1 := fun k hk => by
    have ec : colZ [imL t fs [], imL t gs []] k = [czP (vlA t (k : Int) [] (pqL fs t.ne.toNat)).1, czP (vlA t (k : Int) [] (pqL gs t.ne.toNat)).1] := by
      show [atZ _ k, atZ _ k] = _
      rw [imL_at hk, imL_at hk]
    obtain ⟨⟨v1, v2⟩, v3, v4⟩ := vs_in h (k : Int) (l := pqL fs t.ne.toNat) (by rw [pqL_len]; omega)
    obtain ⟨⟨w1, w2⟩, w3, w4⟩ := vs_in h (k : Int) (l := pqL gs t.ne.toNat) (by rw [pqL_len]; omega)
    obtain ⟨p1, p2⟩ := cz_ok (x := (vlA t (k : Int) [] (pqL fs t.ne.toNat)).1) (by omega) (by omega)
    obtain ⟨q1, q2⟩ := cz_ok (x := (vlA t (k : Int) [] (pqL gs t.ne.toNat)).1) (by omega) (by omega)
    rw [ec]
    refine ⟨?_, ?_⟩
    · unfold peS
      rw [if_neg (fun q => q p1)]
      unfold peS
      rw [if_neg (fun q => q q1)]; rfl
    · show smF (smF (0, 0) _) _ = _
      unfold smF
      rw [p2, q2, ← vlA_perm t (k : Int) hp, vlA_app]
      simp
  have em : ∀ m k, k + m ≤ clN t → mgS [imL t fs [], imL t gs []] k m = 0 := by
    intro m
    induction m with
    | zero => intro k _; rfl
    | succ m ih =>
      intro k hk
      unfold mgS
      rw [if_neg (fun q => q (hc k (by omega)).1)]
      exact ih (k + 1) (by omega)
  unfold mgR
  rw [if_neg (by rw [e1]; decide), hd, if_neg (by simp; omega), if_neg (fun q => q (em _ 0 (by omega)))]
  congr 1
  rw [← rim_ev]
  unfold smL rimF
  rw [List.map_map]
  refine List.map_congr_left fun k hk => ?_
  show czP (smS _) = czP _
  rw [(hc k (List.mem_range.1 hk)).2]
set_option maxRecDepth 100000 in
theorem rshare_p (t : Tsk) (fs : List Int) (h : TskOk t) (hk : KsOk t.ne fs) : PC Tryz.prog 65 [.agg (tskC t), .sl 1 (fs.map iC)] (.sl 1 ((imL t fs []).map cvC)) := by
  have hn1 := h.n1
  have hn2 := h.n2
  have hel := h.el
  have hen : t.ne.toNat = t.ar.el.length := by omega
  have hpp : (pqL fs t.ne.toNat).Perm (pqD fs [] t.ar.el.length t.ar.el.length) := by rw [hen]; exact pq_perm (by rw [hel]; exact hk)
  have hpr : PrsOk t (pqD fs [] t.ar.el.length t.ar.el.length) := by
    have hfl : fs.length ≤ t.ne.toNat := nodup_len hk.1 (fun x hx => by have := hk.2 x hx; omega)
    refine ⟨fun y hy => ?_, ?_⟩
    · obtain ⟨q1, q2, q3⟩ := pqL_in (hpp.mem_iff.2 hy)
      have := hk.2 _ q1
      omega
    · rw [← hpp.length_eq, pqL_len]
      have := Nat.mul_le_mul hfl (show t.ne.toNat ≤ 16 by omega)
      have := Nat.mul_le_mul (show t.ne.toNat ≤ 16 by omega) (Nat.le_refl 16)
      omega
  refine pc_of_awpN Tryz.func65 rfl Tryz.ntmps65 (rs := [.tmp 4]) Tryz.results65 (by simp) fun w0 hmine hrnd hpn => ?_
  refine awp_seq ?_
  refine awp_region 2 mixed (by kernel_rfl) ?_
  refine rg_q (q_box rfl (by exact .inr ⟨_, rfl⟩)) ?_
  refine rg_q (q_assign (x := .d (.sl _ _)) rfl) ?_
  refine rs (awp_region 9 mixed (by kernel_rfl) ?_)
  refine rg_q (q_loadA sz37 rfl rfl rfl) ?_
  refine rg_q (q_fieldAddr fld37_0 rfl) (rg_q (q_fieldAddr fld28_0 rfl) (rg_q (q_load sz22 rfl rfl) ?_))
  refine rg_q (q_len isl22 rfl (by exact len_map _ _)) ?_
  refine rg_q (q_move (x := .d (.sl _ _)) rfl) ?_
  refine rg_q (q_call en135 (.cons rfl (.cons rfl (.cons rfl .nil))) rfl ((by have q := rpairs_p t.ar.el.length (by omega) fs []; exact q))) ?_
  refine rg_q (q_call en115 (.cons rfl (.cons rfl .nil)) rfl ((by have q := rimageOf_p t (pqD fs [] t.ar.el.length t.ar.el.length) h hpr; rw [← imL_perm hpp] at q; exact q))) ?_
  refine rg_q (q_assign (x := .d (.sl _ _)) rfl) ?_
  refine rn ?_
  change Awp _ _ _ _ _
  refine awp_len (t := 8) rfl (fun hl8 => ?_)
  (try simp only [List.length_map] at hl8)
  refine awp_ret ?_
  refine ⟨_, (.cons (.tmp (by exact .d _)) .nil), ?_⟩
  rfl

theorem rs_succ (l : List Int) (k : Nat) : rsL (k + 1) l = rsL k l ++ (if (k : Int) ∈ l then [] else [(k : Int)]) := by
  unfold rsL
  rw [allL_succ, List.filter_append]
  congr 1
  by_cases h : (k : Int) ∈ l
  · rw [if_pos h]; simp [h]
  · rw [if_neg h]; simp [h]
theorem rs_len (l : List Int) (k : Nat) : (rsL k l).length ≤ k := by
  have := List.length_filter_le (fun x => !decide (x ∈ l)) (allL k)
  rw [allL_len] at this
  exact this
set_option maxRecDepth 100000 in
theorem rest_p (n : Nat) (l : List Int) (hn : n ≤ 1000) : PC Tryz.prog 66 [.v (.int .i64 ((n : Int))), .sl 1 (l.map iC)] (.sl 1 ((rsL n l).map iC)) := by
 refine pc_of_awpN Tryz.func66 rfl Tryz.ntmps66 (rs := [.tmp 4]) Tryz.results66 (by simp) fun w0 hmine hrnd hpn => ?_
 refine awp_seq ?_
 refine awp_region 1 mixed (by kernel_rfl) ?_
 refine rg_q (q_assign (x := .d (.sl _ _)) rfl) ?_
 refine rs (awp_region 1 mixed (by kernel_rfl) ?_)
 refine rg_q (q_assign_nil) ?_
 refine rn ?_
 change Awp _ _ _ _ _
 refine Awp.le (le_own (k := 5) (e := 3) (sz := 1) rfl rfl) ?_
 refine awp_seq ?_
 refine awp_seq ?_
 refine awp_region 1 mixed (by kernel_rfl) ?_
 refine rg_q (q_a rfl) ?_
 refine rn ?_
 change Awp _ _ _ _ _
 refine awp_block ?_
 refine awp_loopH [5, 6, 7, 8, 9, 10, 11, 12, 13, 14, 15, 16, 17, 18, 19] [5] (α := Nat) (fun k => [(6, T.i (k : Int)), (5, .rs 5)]) (fun k => [(5, .row 3 1 ((rsL k l).map iC))]) (fun k => k ≤ n) (fun k => n - k) 0 (Nat.zero_le _) ?_ ?_
 · exact le_head (ms := [5]) (by repeat (exact Out.refl _)) ⟨(by rfl), (by rfl), trivial⟩ ⟨(by rfl), trivial⟩ rfl rfl rfl rfl
 ·
  intro k hk
  have hal := rs_len l k
  refine awp_seq ?_
  refine awp_seq ?_
  refine awp_region 3 mixed (by kernel_rfl) ?_
  refine rg_q (q_m rfl) (rg_q (q_m rfl) (rg_q (q_lss rfl rfl) ?_))
  refine rn ?_
  change Awp _ _ _ _ _
  refine awp_cond rfl (fun hc3 => ?_) (fun hc3 => ?_)
  ·
   (try simp only [nb, ne_eq] at hc3)
   have hlt : k < n := by omega
   refine awp_skip ?_
   change Awp _ _ _ _ _
   refine awp_seq ?_
   refine awp_block ?_
   refine awp_seq ?_
   refine awp_region 4 mixed (by kernel_rfl) ?_
   refine rg_q (q_move (x := .d (.sl _ _)) rfl) (rg_q (q_m rfl) ?_)
   refine rg_q (q_call en134 (.cons rfl (.cons rfl .nil)) rfl (has5_p _ _)) ?_
   refine rg_q (q_not rfl) ?_
   refine rn ?_
   change Awp _ _ _ _ _
   refine awp_cond rfl (fun hc5 => ?_) (fun hc5 => ?_)
   ·
    (try simp only [nb, ne_eq] at hc5)
    have hsk : (rsL (k + 1) l).map iC = (rsL k l).map iC ++ [[.v (.int .i64 (k : Int))]] := by rw [rs_succ, if_neg hc5, List.map_append]; rfl
    refine awp_region 3 mixed (by kernel_rfl) ?_
    refine rg_q (q_move (x := .rs _) rfl) (rg_q (q_m rfl) ?_)
    refine rg_q (q_buildSlice sl77 zr3 rfl rfl (by decide) (.cons rfl (by exact .inl rfl) .nil) ⟨rfl, rfl, trivial⟩ rfl (by decide) rfl) ?_
    refine rg_nil ?_
    refine aops_append sl77 zr3 by3 rfl (by decide) rfl rfl rfl rfl (by (try simp only [List.length_map, List.length_append, List.length_cons, List.length_nil]); omega) (by (try simp only [List.length_map, List.length_append, List.length_cons, List.length_nil]); omega) rfl rfl ?_
    refine aops_q rfl (q_assign (x := .rs _) rfl) ?_
    refine aops_nil ?_
    change Awp _ _ _ _ _
    refine awp_region 3 mixed (by kernel_rfl) ?_
    refine rg_q (q_m rfl) ?_
    refine rg_q (q_add rfl rfl (In64.mk (by omega) (by omega))) ?_
    refine rg_q (q_a rfl) ?_
    refine rn ?_
    refine ⟨k + 1, by omega, by omega, ?_⟩
    exact le_head (ms := [5]) (by repeat (first | exact Out.head rfl rfl | (refine Out.put ?_ rfl) | (refine Out.site ?_ rfl) | (refine Out.killS ?_ rfl))) ⟨(by rfl), (by rfl), trivial⟩ ⟨(by ((show Site.row _ _ _ = Site.row _ _ _; (rw [hsk]; rfl)))), trivial⟩ rfl rfl rfl rfl
   ·
    (try simp only [nb, ne_eq] at hc5)
    have hsk : (rsL (k + 1) l).map iC = (rsL k l).map iC := by rw [rs_succ, if_pos hc5, List.append_nil]
    refine awp_skip ?_
    change Awp _ _ _ _ _
    refine awp_region 3 mixed (by kernel_rfl) ?_
    refine rg_q (q_m rfl) ?_
    refine rg_q (q_add rfl rfl (In64.mk (by omega) (by omega))) ?_
    refine rg_q (q_a rfl) ?_
    refine rn ?_
    refine ⟨k + 1, by omega, by omega, ?_⟩
    exact le_head (ms := [5]) (by repeat (first | exact Out.head rfl rfl | (refine Out.put ?_ rfl))) ⟨(by rfl), (by rfl), trivial⟩ ⟨(by ((show Site.row _ _ _ = Site.row _ _ _; (rw [hsk]; done)))), trivial⟩ rfl rfl rfl rfl
  ·
   (try simp only [nb, ne_eq] at hc3)
   have hkn : k = n := by omega
   subst hkn
   refine awp_exit ?_
   change Awp _ _ _ _ _
   refine awp_seq ?_
   refine awp_region 2 mixed (by kernel_rfl) ?_
   refine rg_q (q_move (x := .rs _) rfl) (rg_q (q_assign (x := .rs _) rfl) ?_)
   refine rn ?_
   change Awp _ _ _ _ _
   refine awp_ret ?_
   refine ⟨_, (.cons (.tmp (by exact .rs rfl)) .nil), ?_⟩
   rfl
set_option maxHeartbeats 4000000 in
set_option maxRecDepth 100000 in
theorem focusShares_p (t : Tsk) (fs : List Int) : PC Tryz.prog 13 [.agg (tskC t), .sl 1 (fs.map iC)] (.v (.bool (true))) := by
 refine pc_of_awpN Tryz.func13 rfl Tryz.ntmps13 (rs := [.tmp 4]) Tryz.results13 (by simp) fun w0 hmine hrnd hpn => ?_
 refine awp_seq ?_
 refine awp_region 2 mixed (by kernel_rfl) ?_
 refine rg_q (q_box rfl (by exact .inr ⟨_, rfl⟩)) ?_
 refine rg_q (q_a rfl) ?_
 refine rn ?_
 change Awp _ _ _ _ _
 refine awp_seq ?_
 refine awp_seq ?_
 refine awp_region 2 mixed (by kernel_rfl) ?_
 refine rg_q (q_call en18 .nil rfl (awake5_p)) ?_
 refine rg_q (q_not rfl) ?_
 refine rn ?_
 change Awp _ _ _ _ _
 refine awp_cond rfl (fun hc1 => ?_) (fun hc1 => ?_)
 ·
  simp at hc1
 ·
  (try simp only [nb, ne_eq] at hc1)
  refine awp_skip ?_
  change Awp _ _ _ _ _
  refine awp_seq ?_
  refine awp_seq ?_
  refine awp_region 8 mixed (by kernel_rfl) ?_
  refine rg_q (q_loadA sz37 rfl rfl rfl) ?_
  refine rg_q (q_call en19 (.cons rfl .nil) rfl (light_p _)) ?_
  refine rg_q (q_not rfl) (rg_q (q_m rfl) ?_)
  refine rg_g rfl rfl (fun hG => (q_move (x := .d (.sl _ _)) rfl)) ?_
  refine rg_g rfl rfl (fun hG => (q_len isl77 rfl (by exact len_map _ _))) ?_
  refine rg_g rfl rfl (fun hG => (q_gtr rfl rfl)) ?_
  refine rg_pick rfl rfl rfl rfl rfl rfl ?_
  refine rn ?_
  change Awp _ _ _ _ _
  refine awp_cond rfl (fun hc3 => ?_) (fun hc3 => ?_)
  ·
   (try simp only [nb, ne_eq] at hc3)
   refine awp_seq ?_
   refine awp_region 1 mixed (by kernel_rfl) ?_
   refine rg_q (q_a rfl) ?_
   refine rn ?_
   change Awp _ _ _ _ _
   refine awp_ret ?_
   refine ⟨_, (.cons (.tmp (by exact .d _)) .nil), ?_⟩
   rfl
  ·
   (try simp only [nb, ne_eq] at hc3)
   obtain ⟨hl1, hl2⟩ := lit_le hc3.1
   have hl20 : fs.length ≤ 20 := by have := hc3.2; omega
   refine awp_skip ?_
   change Awp _ _ _ _ _
   refine awp_seq ?_
   refine awp_region 10 mixed (by kernel_rfl) ?_
   refine rg_q (q_loadA sz37 rfl rfl rfl) ?_
   refine rg_q (q_call en21 (.cons rfl .nil) rfl (rcopyT_p _ (by omega) (by omega))) ?_
   refine rg_q (q_move (x := .d (.sl _ _)) rfl) ?_
   refine rg_q (q_call en42 (.cons rfl .nil) rfl (copyInts5_p _ (by omega))) ?_
   refine rg_q (q_call en63 (.cons rfl (.cons rfl .nil)) rfl (share5_p _ _ (by omega))) ?_
   refine rg_q (q_move (x := .d (.tup _)) rfl) (rg_q (q_extract rfl rfl) (rg_q (q_extract rfl rfl) (rg_q (q_assign (x := .d (.sl _ _)) rfl) (rg_q (q_a rfl) ?_))))
   refine rs (awp_region 3 mixed (by kernel_rfl) ?_)
   refine rg_q (q_loadA sz37 rfl rfl rfl) ?_
   refine rg_q (q_call en24 (.cons rfl .nil) rfl (rtaskErr_p _)) ?_
   refine rg_q (q_a rfl) ?_
   refine rn ?_
   change Awp _ _ _ _ _
   refine awp_seq ?_
   refine awp_seq ?_
   refine awp_region 2 mixed (by kernel_rfl) ?_
   refine rg_q (q_m rfl) (rg_q (q_eql rfl rfl) ?_)
   refine rn ?_
   change Awp _ _ _ _ _
   refine awp_cond rfl (fun hc7 => ?_) (fun hc7 => ?_)
   ·
    (try simp only [nb, ne_eq] at hc7)
    have hok : TskOk t := ckT_ok hc7
    have hel := hok.el
    have hne1 := hok.n1
    have hne2 := hok.n2
    have hw : shE t fs = frE t.ne fs := by unfold shE; rw [if_neg (fun q => q hc7)]
    have hwn : frE (t.ar.el.length : Int) fs = frE t.ne fs := by rw [hel]
    refine awp_region 7 mixed (by kernel_rfl) ?_
    refine rg_q (q_fieldAddr fld37_0 rfl) (rg_q (q_fieldAddr fld28_0 rfl) (rg_q (q_load sz22 rfl rfl) ?_))
    refine rg_q (q_len isl22 rfl (by exact len_map _ _)) ?_
    refine rg_q (q_move (x := .d (.sl _ _)) rfl) ?_
    refine rg_q (q_call en64 (.cons rfl (.cons rfl .nil)) rfl (rfiringsErr_p t.ar.el.length fs (by omega) (by omega))) ?_
    refine rg_q (q_a rfl) ?_
    refine rn ?_
    change Awp _ _ _ _ _
    refine awp_len (t := 38) rfl (fun hl38 => ?_)
    (try simp only [List.length_map] at hl38)
    refine awp_seq ?_
    refine awp_seq ?_
    refine awp_region 2 mixed (by kernel_rfl) ?_
    refine rg_q (q_m rfl) (rg_q (q_neq rfl rfl) ?_)
    refine rn ?_
    change Awp _ _ _ _ _
    refine awp_cond rfl (fun hc9 => ?_) (fun hc9 => ?_)
    ·
     (try simp only [nb, ne_eq] at hc9)
     rw [hwn] at hc9
     have hz1 : shR t fs = ([], frE (t.ar.el.length : Int) fs) := by unfold shR; rw [hw, if_pos hc9, hwn]
     rw [hz1]
     refine awp_seq ?_
     refine awp_region 9 mixed (by kernel_rfl) ?_
     refine rg_q (q_m rfl) (rg_q (q_m rfl) (rg_q (q_eql rfl rfl) (rg_q (q_m rfl) ?_)))
     refine rg_g rfl rfl (fun hG => (q_move (x := .d (.sl _ _)) rfl)) ?_
     refine rg_g rfl rfl (fun hG => (q_len isl72 rfl (by exact len_map _ _))) ?_
     refine rg_g rfl rfl (fun hG => (q_eql rfl rfl)) ?_
     refine rg_pick rfl rfl rfl rfl rfl rfl ?_
     refine rg_q (q_a rfl) ?_
     refine rn ?_
     change Awp _ _ _ _ _
     refine awp_ret ?_
     refine ⟨_, (.cons (.tmp (by exact .d _)) .nil), ?_⟩
     simp [retD]
    ·
     (try simp only [nb, ne_eq] at hc9)
     rw [hwn] at hc9
     have hz1 : shR t fs = (imL t fs [], 0) := by unfold shR; rw [hw, if_neg (fun q => q hc9)]
     have hko := frE_ok hc9
     have hen : t.ne.toNat = t.ar.el.length := by omega
     have hnI : ((t.ne.toNat : Nat) : Int) = t.ne := by omega
     have hrl := rs_len fs t.ar.el.length
     have hro : KsOk t.ne (rsL t.ar.el.length fs) := by rw [← hel]; exact rs_ok _ _
     have hz2 : shR t (rsL t.ar.el.length fs) = (imL t (rsL t.ar.el.length fs) [], 0) := by
      have e : shE t (rsL t.ar.el.length fs) = 0 := by unfold shE; rw [if_neg (fun q => q hc7)]; exact frE_zero hro
      unfold shR; rw [e, if_neg (fun q => q rfl)]
     have hz3 : imgR t = (imL t (evI t) [], 0) := by unfold imgR; rw [if_neg (fun q => q hc7)]
     have hz4 : mgR [imL t fs [], imL t (rsL t.ar.el.length fs) []] = (imL t (evI t) [], 0) := mg_two hok (by omega) (by omega) (by rw [← hen]; exact rs_perm (by rw [hnI]; exact hko))
     rw [hz1]
     refine awp_skip ?_
     change Awp _ _ _ _ _
     refine awp_seq ?_
     refine awp_seq ?_
     refine awp_region 10 mixed (by kernel_rfl) ?_
     refine rg_q (q_m rfl) (rg_q (q_neq rfl rfl) (rg_q (q_m rfl) ?_))
     refine rg_g rfl rfl (fun hG => (q_move (x := .d (.sl _ _)) rfl)) ?_
     refine rg_g rfl rfl (fun hG => (q_loadA sz37 rfl rfl rfl)) ?_
     refine rg_g rfl rfl (fun hG => (q_move (x := .d (.sl _ _)) rfl)) ?_
     refine rg_g rfl rfl (fun hG => (q_call en65 (.cons rfl (.cons rfl .nil)) rfl (rshare_p t fs hok hko))) ?_
     refine rg_g rfl rfl (fun hG => (q_call en38 (.cons rfl (.cons rfl .nil)) rfl (sameNums_p _ _))) ?_
     refine rg_g rfl rfl (fun hG => (q_not rfl)) ?_
     refine rg_pick rfl rfl rfl rfl rfl rfl ?_
     refine rn ?_
     change Awp _ _ _ _ _
     refine awp_cond rfl (fun hc11 => ?_) (fun hc11 => ?_)
     ·
      simp at hc11
     ·
      (try simp only [nb, ne_eq] at hc11)
      refine awp_skip ?_
      change Awp _ _ _ _ _
      refine awp_seq ?_
      refine awp_region 14 mixed (by kernel_rfl) ?_
      refine rg_q (q_loadA sz37 rfl rfl rfl) ?_
      refine rg_q (q_call en21 (.cons rfl .nil) rfl (rcopyT_p _ (by omega) (by omega))) ?_
      refine rg_q (q_fieldAddr fld37_0 rfl) (rg_q (q_fieldAddr fld28_0 rfl) (rg_q (q_load sz22 rfl rfl) ?_))
      refine rg_q (q_len isl22 rfl (by exact len_map _ _)) ?_
      refine rg_q (q_move (x := .d (.sl _ _)) rfl) ?_
      refine rg_q (q_call en66 (.cons rfl (.cons rfl .nil)) rfl (rest_p t.ar.el.length fs (by omega))) ?_
      refine rg_q (q_call en63 (.cons rfl (.cons rfl .nil)) rfl ((by have q := share5_p t (rsL t.ar.el.length fs) (by omega); rw [hz2] at q; exact q))) ?_
      refine rg_q (q_move (x := .d (.tup _)) rfl) (rg_q (q_extract rfl rfl) (rg_q (q_extract rfl rfl) (rg_q (q_assign (x := .d (.sl _ _)) rfl) (rg_q (q_a rfl) ?_))))
      refine rn ?_
      change Awp _ _ _ _ _
      refine awp_len (t := 67) rfl (fun hl67 => ?_)
      (try simp only [List.length_map] at hl67)
      refine awp_seq ?_
      refine awp_region 8 mixed (by kernel_rfl) ?_
      refine rg_q (q_loadA sz37 rfl rfl rfl) ?_
      refine rg_q (q_call en21 (.cons rfl .nil) rfl (rcopyT_p _ (by omega) (by omega))) ?_
      refine rg_q (q_call en37 (.cons rfl .nil) rfl ((by have q := image5_p t; rw [hz3] at q; exact q))) ?_
      refine rg_q (q_move (x := .d (.tup _)) rfl) (rg_q (q_extract rfl rfl) (rg_q (q_extract rfl rfl) (rg_q (q_assign (x := .d (.sl _ _)) rfl) (rg_q (q_a rfl) ?_))))
      refine rs (awp_region 9 mixed (by kernel_rfl) ?_)
      refine rg_q (q_move (x := .d (.sl _ _)) rfl) (rg_q (q_move (x := .d (.sl _ _)) rfl) ?_)
      refine rg_q (q_buildSlice sl105 zr72 rfl rfl (by decide) (.cons rfl (by exact .inl rfl) (.cons rfl (by exact .inl rfl) .nil)) ⟨rfl, rfl, rfl, rfl, trivial⟩ rfl (by decide) rfl) ?_
      refine rg_q (q_call en60 (.cons rfl .nil) rfl ((by have q := mergedI_p [imL t fs [], imL t (rsL t.ar.el.length fs) []]; rw [hz4] at q; exact q))) ?_
      refine rg_q (q_move (x := .d (.tup _)) rfl) (rg_q (q_extract rfl rfl) (rg_q (q_extract rfl rfl) (rg_q (q_assign (x := .d (.sl _ _)) rfl) (rg_q (q_a rfl) ?_))))
      refine rs (awp_region 16 mixed (by kernel_rfl) ?_)
      refine rg_q (q_m rfl) (rg_q (q_eql rfl rfl) (rg_q (q_m rfl) ?_))
      refine rg_g rfl rfl (fun hG => (q_m rfl)) ?_
      refine rg_g rfl rfl (fun hG => (q_eql rfl rfl)) ?_
      refine rg_pick rfl rfl rfl rfl rfl rfl ?_
      refine rg_q (q_m rfl) ?_
      refine rg_g rfl rfl (fun hG => (q_m rfl)) ?_
      refine rg_g rfl rfl (fun hG => (q_eql rfl rfl)) ?_
      refine rg_pick rfl rfl rfl rfl rfl rfl ?_
      refine rg_q (q_m rfl) ?_
      refine rg_g rfl rfl (fun hG => (q_move (x := .d (.sl _ _)) rfl)) ?_
      refine rg_g rfl rfl (fun hG => (q_move (x := .d (.sl _ _)) rfl)) ?_
      refine rg_g rfl rfl (fun hG => (q_call en38 (.cons rfl (.cons rfl .nil)) rfl (sameNums_p _ _))) ?_
      refine rg_pick rfl rfl rfl rfl rfl rfl ?_
      refine rg_q (q_a rfl) ?_
      refine rn ?_
      change Awp _ _ _ _ _
      refine awp_ret ?_
      refine ⟨_, (.cons (.tmp (by exact .d _)) .nil), ?_⟩
      simp [retD]
   ·
    (try simp only [nb, ne_eq] at hc7)
    have hw : shE t fs = (ckT t).2 := by unfold shE; rw [if_pos hc7]
    refine awp_skip ?_
    change Awp _ _ _ _ _
    refine awp_seq ?_
    refine awp_seq ?_
    refine awp_region 2 mixed (by kernel_rfl) ?_
    refine rg_q (q_m rfl) (rg_q (q_neq rfl rfl) ?_)
    refine rn ?_
    change Awp _ _ _ _ _
    refine awp_cond rfl (fun hc9 => ?_) (fun hc9 => ?_)
    ·
     (try simp only [nb, ne_eq] at hc9)
     have hz1 : shR t fs = ([], (ckT t).2) := by unfold shR; rw [hw, if_pos hc7]
     rw [hz1]
     refine awp_seq ?_
     refine awp_region 9 mixed (by kernel_rfl) ?_
     refine rg_q (q_m rfl) (rg_q (q_m rfl) (rg_q (q_eql rfl rfl) (rg_q (q_m rfl) ?_)))
     refine rg_g rfl rfl (fun hG => (q_move (x := .d (.sl _ _)) rfl)) ?_
     refine rg_g rfl rfl (fun hG => (q_len isl72 rfl (by exact len_map _ _))) ?_
     refine rg_g rfl rfl (fun hG => (q_eql rfl rfl)) ?_
     refine rg_pick rfl rfl rfl rfl rfl rfl ?_
     refine rg_q (q_a rfl) ?_
     refine rn ?_
     change Awp _ _ _ _ _
     refine awp_ret ?_
     refine ⟨_, (.cons (.tmp (by exact .d _)) .nil), ?_⟩
     simp [retD]
    ·
     (try simp only [nb, ne_eq] at hc9)
     exact absurd hc9 hc7
end Go.Proofs.YtphlaicnmmglhaaGreat.Am.M
