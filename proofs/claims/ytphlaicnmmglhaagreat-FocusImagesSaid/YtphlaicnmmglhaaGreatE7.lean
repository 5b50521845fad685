/- Contracts over the abstract machine: package focus: pairs as an iterator, sums. Conditions: none. -/
import Derived.Test.YtphlaicnmmglhaaGreatE6
set_option linter.unusedVariables false
set_option linter.unusedSimpArgs false
-- mini
namespace Go.Proofs.YtphlaicnmmglhaaGreat.Am.M
open Go
set_option maxRecDepth 100000 in
theorem index5_p (l : List Int) (n : Int) : PC Tryz.prog 236 [.sl 1 (l.map iC), .v (.int .i64 (n))] (.v (.int .i64 (idxOf (fun x => decide (n = x)) 0 l))) := by
 refine pc_of_awp Tryz.func236 rfl Tryz.ntmps236 (rs := [.tmp 4]) Tryz.results236 (by simp) fun w0 => ?_
 refine awp_seq ?_
 refine awp_region 1 mixed (by kernel_rfl) ?_
 refine rg_q (q_assign (x := .d (.v _)) rfl) ?_
 refine rg_nil (aops_nil ?_)
 change Awp _ _ _ _ _
 refine awp_seq ?_
 refine awp_seq ?_
 refine awp_region 3 mixed (by kernel_rfl) ?_
 refine rg_q (q_move (x := .d (.sl _ _)) rfl) ?_
 refine rg_q (q_len isl77 rfl (by exact len_map _ _)) ?_
 refine rg_q (q_move (x := .d (.v _)) rfl) ?_
 refine rg_nil (aops_nil ?_)
 change Awp _ _ _ _ _
 refine awp_len (t := 6) rfl (fun hl6 => ?_)
 (try simp only [List.length_map] at hl6)
 refine awp_block ?_
 refine awp_loopH [4, 5, 8, 9, 10, 11, 12, 13, 14, 15, 16, 17, 18] [] (α := Nat) (fun k => [(8, T.i (k : Int))]) (fun k => []) (fun k => k ≤ l.length ∧ idxOf (fun x => decide (n = x)) 0 l = idxOf (fun x => decide (n = x)) k (l.drop k)) (fun k => l.length - k) 0 ⟨Nat.zero_le _, rfl⟩ ?_ ?_
 · exact le_head (ms := []) (by repeat (exact Out.refl _)) ⟨(by rfl), trivial⟩ trivial rfl rfl rfl rfl
 ·
  intro k ⟨hk, hh⟩
  refine awp_seq ?_
  refine awp_region 1 mixed (by kernel_rfl) ?_
  refine rg_q (q_lss rfl rfl) ?_
  refine rg_nil (aops_nil ?_)
  change Awp _ _ _ _ _
  refine awp_seq ?_
  refine awp_cond rfl (fun hc2 => ?_) (fun hc2 => ?_)
  ·
   (try simp only [nb, ne_eq] at hc2)
   have hlt : k < l.length := by omega
   have hx := List.getElem?_eq_getElem hlt
   have hd : idxOf (fun x => decide (n = x)) k (l.drop k) = if decide (n = l[k]) = true then (k : Int) else idxOf (fun x => decide (n = x)) (k + 1) (l.drop (k + 1)) := by rw [List.drop_eq_getElem_cons hlt]; rfl
   generalize l[k] = x at *
   refine awp_skip ?_
   change Awp _ _ _ _ _
   refine awp_seq ?_
   refine awp_block ?_
   refine awp_seq ?_
   refine awp_region 2 mixed (by kernel_rfl) ?_
   refine rg_q (q_move (x := .d (.v _)) rfl) (rg_q (q_assign (x := .d (.v _)) rfl) ?_)
   refine rg_nil (aops_nil ?_)
   change Awp _ _ _ _ _
   refine awp_seq ?_
   refine awp_region 6 mixed (by kernel_rfl) ?_
   refine rg_q (q_move (x := .d (.v _)) rfl) (rg_q (q_move (x := .d (.sl _ _)) rfl) (rg_q (q_move (x := .d (.v _)) rfl) ?_))
   refine rg_q (q_indexAddr sl77 rfl rfl (by omega) (map_at (by omega) hx)) ?_
   refine rg_q (q_load sz3 rfl rfl) (rg_q (q_eql rfl rfl) ?_)
   refine rg_nil (aops_nil ?_)
   change Awp _ _ _ _ _
   refine awp_cond rfl (fun hc4 => ?_) (fun hc4 => ?_)
   ·
    (try simp only [nb, ne_eq] at hc4)
    refine awp_seq ?_
    refine awp_region 2 mixed (by kernel_rfl) ?_
    refine rg_q (q_move (x := .d (.v _)) rfl) (rg_q (q_assign (x := .d (.v _)) rfl) ?_)
    refine rg_nil (aops_nil ?_)
    change Awp _ _ _ _ _
    refine awp_ret ?_
    refine ⟨_, (.cons (.tmp (by exact .d _)) .nil), ?_⟩
    rw [hh, hd, if_pos (by simpa using hc4)]; rfl
   ·
    (try simp only [nb, ne_eq] at hc4)
    refine awp_skip ?_
    change Awp _ _ _ _ _
    refine awp_region 2 mixed (by kernel_rfl) ?_
    refine rg_q (q_add rfl rfl (In64.mk (by omega) (by omega))) ?_
    refine rg_q (q_move (x := .d (.v _)) rfl) ?_
    refine rg_nil (aops_nil ?_)
    refine ⟨k + 1, ⟨by omega, by rw [hh, hd, if_neg (by simpa using hc4)]⟩, by omega, ?_⟩
    exact le_head (ms := []) (by repeat (first | exact Out.head rfl rfl | (refine Out.put ?_ rfl))) ⟨(by rfl), trivial⟩ trivial rfl rfl rfl rfl
  ·
   (try simp only [nb, ne_eq] at hc2)
   refine awp_exit ?_
   change Awp _ _ _ _ _
   refine awp_seq ?_
   refine awp_region 1 mixed (by kernel_rfl) ?_
   refine rg_q (q_assign (x := .d (.v _)) rfl) ?_
   refine rg_nil (aops_nil ?_)
   change Awp _ _ _ _ _
   refine awp_ret ?_
   refine ⟨_, (.cons (.tmp (by exact .d _)) .nil), ?_⟩
   rw [hh, List.drop_of_length_le (by omega)]; rfl
set_option maxRecDepth 100000 in
theorem contains5_p (l : List Int) (n : Int) : PC Tryz.prog 170 [.sl 1 (l.map iC), .v (.int .i64 (n))] (.v (.bool (l.any fun x => decide (n = x)))) := by
 refine pc_of_awp Tryz.func170 rfl Tryz.ntmps170 (rs := [.tmp 4]) Tryz.results170 (by simp) fun w0 => ?_
 refine awp_seq ?_
 refine awp_region 1 mixed (by kernel_rfl) ?_
 refine rg_q (q_assign (x := .d (.v _)) rfl) ?_
 refine rg_nil (aops_nil ?_)
 change Awp _ _ _ _ _
 refine awp_seq ?_
 refine awp_region 5 mixed (by kernel_rfl) ?_
 refine rg_q (q_move (x := .d (.sl _ _)) rfl) (rg_q (q_move (x := .d (.v _)) rfl) ?_)
 refine rg_q (q_call en236 (.cons rfl (.cons rfl .nil)) rfl (index5_p _ _)) ?_
 refine rg_q (q_geq rfl rfl) (rg_q (q_assign (x := .d (.v _)) rfl) ?_)
 refine rg_nil (aops_nil ?_)
 change Awp _ _ _ _ _
 refine awp_ret ?_
 refine ⟨_, (.cons (.tmp (by exact .d _)) .nil), ?_⟩
 rw [← idxOf_mem]; rfl
set_option maxRecDepth 100000 in
theorem fpairs_p (t : Tsk) (l : List Int) : PC Tryz.prog 102 [.pt (tkC t) 0, .sl 1 (l.map iC)] (.fn (.func 171) [.pt [.sl 1 (l.map iC)] 0, .pt [.pt (tkC t) 0] 0]) := by
 refine pc_of_awp Tryz.func102 rfl Tryz.ntmps102 (rs := [.tmp 4]) Tryz.results102 (by simp) fun w0 => ?_
 refine awp_seq ?_
 refine awp_region 3 mixed (by kernel_rfl) ?_
 refine rg_q (q_box rfl (by exact .inl rfl)) ?_
 refine rg_q (q_box rfl (by exact .inl rfl)) ?_
 refine rg_q (q_assign (x := .d (.v .nilFunc)) rfl) ?_
 refine rg_nil (aops_nil ?_)
 change Awp _ _ _ _ _
 refine awp_seq ?_
 refine awp_region 2 mixed (by kernel_rfl) ?_
 refine rg_q (q_makeFunc (.cons rfl (.cons rfl .nil))) ?_
 refine rg_q (q_assign (x := .d (.fn _ _)) rfl) ?_
 refine rg_nil (aops_nil ?_)
 change Awp _ _ _ _ _
 refine awp_ret ?_
 refine ⟨_, (.cons (.tmp (by exact .d _)) .nil), ?_⟩
 rfl

def pqR (x : Int) (j : Nat) : List (Int × Int) := (List.range j).map fun r : Nat => (x, (r : Int))
def pqF (l : List Int) (n i : Nat) : List (Int × Int) := (l.take i).flatMap fun x => pqR x n
def pqL (l : List Int) (n : Nat) : List (Int × Int) := l.flatMap fun x => pqR x n
theorem pqR_succ (x : Int) (j : Nat) : pqR x (j + 1) = pqR x j ++ [(x, (j : Int))] := by unfold pqR; rw [List.range_succ, List.map_append]; rfl
theorem pqF_succ {l : List Int} {n i : Nat} {x : Int} (h : l[i]? = some x) : pqF l n (i + 1) = pqF l n i ++ pqR x n := by
  obtain ⟨hlt, hx⟩ := List.getElem?_eq_some_iff.1 h
  unfold pqF
  rw [List.take_succ_eq_append_getElem hlt, hx, List.flatMap_append]; simp
theorem pqF_all (l : List Int) (n : Nat) : pqF l n l.length = pqL l n := by unfold pqF pqL; rw [List.take_length]
theorem pqR_pre (x : Int) {j : Nat} : ∀ {n : Nat}, j ≤ n → pqR x j <+: pqR x n
  | 0, h => by have : j = 0 := by omega
               subst this; exact List.prefix_rfl
  | n + 1, h => by
    by_cases e : j = n + 1
    · subst e; exact List.prefix_rfl
    · rw [pqR_succ]; exact (pqR_pre x (show j ≤ n by omega)).trans (List.prefix_append _ _)
theorem pqF_pre {l : List Int} {n i : Nat} {x : Int} (h : l[i]? = some x) : pqF l n i ++ pqR x n <+: pqL l n := by
  obtain ⟨hlt, hx⟩ := List.getElem?_eq_some_iff.1 h
  rw [← pqF_succ h]
  unfold pqF pqL
  conv => rhs; rw [← List.take_append_drop (i + 1) l]
  rw [List.flatMap_append]
  exact List.prefix_append _ _
theorem pq_pre {l : List Int} {n i j : Nat} {x : Int} (h : l[i]? = some x) (hj : j < n) : pqF l n i ++ pqR x j ++ [(x, (j : Int))] <+: pqL l n := by
  rw [List.append_assoc, ← pqR_succ]
  have h1 := pqR_pre x (show j + 1 ≤ n by omega)
  obtain ⟨t, ht⟩ := h1
  refine List.IsPrefix.trans ?_ (pqF_pre (n := n) h)
  rw [← ht, ← List.append_assoc]
  exact List.prefix_append _ _
theorem pqL_in {l : List Int} {n : Nat} {y : Int × Int} (h : y ∈ pqL l n) : y.1 ∈ l ∧ 0 ≤ y.2 ∧ y.2 < n := by
  unfold pqL at h
  obtain ⟨x, hx, h⟩ := List.mem_flatMap.1 h
  unfold pqR at h
  obtain ⟨r, hr, rfl⟩ := List.mem_map.1 h
  have := List.mem_range.1 hr
  exact ⟨hx, by simp only; omega, by simp only; omega⟩
theorem pqL_len (l : List Int) (n : Nat) : (pqL l n).length = l.length * n := by
  unfold pqL
  induction l with
  | nil => simp
  | cons x l ih =>
    rw [List.flatMap_cons, List.length_append, ih, List.length_cons, Nat.succ_mul]
    unfold pqR
    rw [List.length_map, List.length_range]; omega
def smpS (t : Tsk) (y : Int × Int) : List Int := (chK t.bf (y.1 * t.ne + y.2).toNat).map vI
def encQ (t : Tsk) (y : Int × Int) : List D := [.agg (shC y), .pt (anL (smpS t y)) 0]
theorem smR_at {l : List Nat} {m i : Nat} (h : i < m) : (smR l m)[i]? = some (anL ((chK l i).map vI)) := by
  unfold smR chF
  rw [List.getElem?_map, List.getElem?_map, List.getElem?_range h]; rfl
theorem pr_idx {t : Tsk} (h : TskOk t) {x : Int} {j : Nat} (h1 : 0 ≤ x) (h2 : x < t.ne) (hj : (j : Int) < t.ne) : (0 ≤ x * t.ne ∧ x * t.ne ≤ 256) ∧ x * t.ne + (j : Int) < t.ne * t.ne := by
  have a1 := h.n1
  have a2 := h.n2
  have m := mulb (a := x) (b := t.ne) (A := 16) (B := 16) (by omega) (by omega) (by omega) (by omega)
  have p := Int.mul_nonneg h1 (show 0 ≤ t.ne by omega)
  have q := Int.mul_le_mul_of_nonneg_right (show x ≤ t.ne - 1 by omega) (show 0 ≤ t.ne by omega)
  rw [Int.sub_mul] at q
  omega
set_option maxRecDepth 100000 in
theorem fpairs_i (t : Tsk) (l : List Int) (h : TskOk t) (hl : ∀ x ∈ l, 0 ≤ x ∧ x < t.ne) (hll : l.length ≤ 10000) : PI Tryz.prog 171 [] [.pt [.sl 1 (l.map iC)] 0, .pt [.pt (tkC t) 0] 0] ((encQ t)) (pqL l t.ne.toNat) true := by
  have hn1 := h.n1
  have hn2 := h.n2
  obtain ⟨_, _, hm3⟩ := tsk_len h
  refine pi_of_iwp Tryz.func171 rfl Tryz.ntmps171 rfl rfl fun J c l0 hJ hy hdat hfin => ?_
  refine iwp_seq ?_
  apply iwp_reg hJ
  ·
    intro c1 hmine hrnd
    refine awp_region 3 mixed (by kernel_rfl) ?_
    refine rg_q (q_load sz77 rfl rfl) ?_
    refine rg_q (q_len isl77 rfl (by exact len_map _ _)) ?_
    refine rg_q (q_move (x := .d (.v _)) rfl) ?_
    refine rg_nil (aops_nil ?_)
    exact ⟨rfl, rfl⟩
  change Iwp _ _ _ _ _ _ _
  refine iwp_len (t := 7) rfl (fun hl7 => ?_)
  (try simp only [List.length_map] at hl7)
  refine iwp_block ?_
  refine iwp_loopH [5, 6, 9, 10, 11, 12, 13, 14, 15, 16, 17, 18, 19, 20, 21, 22, 23, 24, 25, 26, 27, 28, 29, 30, 31, 32, 33, 34, 35, 36, 37, 38, 39, 40] [] (β := Nat) (fun i => [(9, T.i (i : Int))]) (fun i => []) (fun i => (true, pqF l t.ne.toNat i)) (fun i => i ≤ l.length) (fun i => l.length - i) 0 (Nat.zero_le _) rfl (fun c1 => ?_) ?_
  · exact le_head (ms := []) (by repeat (exact Out.refl _)) ⟨(by rfl), trivial⟩ trivial rfl rfl rfl rfl
  ·
    intro i hi
    refine iwp_seq ?_
    apply iwp_reg hJ
    ·
      intro c1 hmine hrnd
      refine awp_region 1 mixed (by kernel_rfl) ?_
      refine rg_q (q_lss rfl rfl) ?_
      refine rg_nil (aops_nil ?_)
      exact ⟨rfl, rfl⟩
    change Iwp _ _ _ _ _ _ _
    refine iwp_seq ?_
    refine iwp_cond rfl (fun hc1 => ?_) (fun hc1 => ?_)
    ·
      (try simp only [nb, ne_eq] at hc1)
      have hlt : i < l.length := by omega
      obtain ⟨x, hx⟩ : ∃ x, l[i]? = some x := ⟨_, List.getElem?_eq_getElem hlt⟩
      obtain ⟨hx1, hx2⟩ := hl x (List.mem_of_getElem? hx)
      refine iwp_skip ?_
      change Iwp _ _ _ _ _ _ _
      refine iwp_seq ?_
      refine iwp_block ?_
      refine iwp_seq ?_
      apply iwp_reg hJ
      ·
        intro c1 hmine hrnd
        refine awp_region 3 mixed (by kernel_rfl) ?_
        refine rg_q (q_indexAddr sl77 rfl rfl (by omega) (map_at (by omega) hx)) ?_
        refine rg_q (q_load sz3 rfl rfl) (rg_q (q_assign (x := .d (.v _)) rfl) ?_)
        refine rg_nil (aops_nil ?_)
        exact ⟨rfl, rfl⟩
      change Iwp _ _ _ _ _ _ _
      refine iwp_seq ?_
      apply iwp_reg hJ
      ·
        intro c1 hmine hrnd
        refine awp_region 5 mixed (by kernel_rfl) ?_
        refine rg_q (q_load sz156 rfl rfl) (rg_q (q_nilCheck rfl) (rg_q (q_fieldAddr fld202_2 rfl) (rg_q (q_load sz3 rfl rfl) (rg_q (q_move (x := .d (.v _)) rfl) ?_))))
        refine rg_nil (aops_nil ?_)
        exact ⟨rfl, rfl⟩
      change Iwp _ _ _ _ _ _ _
      refine iwp_block ?_
      refine iwp_loopH [6, 17, 18, 19, 20, 21, 22, 23, 24, 25, 26, 27, 28, 29, 30, 31, 32, 33, 34, 35, 36, 37, 38, 39] [] (β := Nat) (fun j => [(17, T.i (j : Int))]) (fun j => []) (fun j => (true, pqF l t.ne.toNat i ++ pqR x j)) (fun j => j ≤ t.ne.toNat) (fun j => t.ne.toNat - j) 0 (Nat.zero_le _) (by show (true, _ ++ pqR x 0) = (true, _); simp [pqR]) (fun c1 => ?_) ?_
      · exact le_head (ms := []) (by repeat (exact Out.refl _)) ⟨(by rfl), trivial⟩ trivial rfl rfl rfl rfl
      ·
        intro j hj
        refine iwp_seq ?_
        apply iwp_reg hJ
        ·
          intro c1 hmine hrnd
          refine awp_region 1 mixed (by kernel_rfl) ?_
          refine rg_q (q_lss rfl rfl) ?_
          refine rg_nil (aops_nil ?_)
          exact ⟨rfl, rfl⟩
        change Iwp _ _ _ _ _ _ _
        refine iwp_seq ?_
        refine iwp_cond rfl (fun hc4 => ?_) (fun hc4 => ?_)
        ·
          (try simp only [nb, ne_eq] at hc4)
          have hlj : j < t.ne.toNat := by omega
          have hpre := pq_pre (n := t.ne.toNat) hx hlj
          obtain ⟨⟨hq1, hq2⟩, hq3⟩ := pr_idx h (j := j) hx1 hx2 (by omega)
          have hsm : (smR t.bf (tkM t))[(x * t.ne + (j : Int)).toNat]? = some (anL (smpS t (x, (j : Int)))) := smR_at (by omega)
          refine iwp_skip ?_
          change Iwp _ _ _ _ _ _ _
          refine iwp_seq ?_
          refine iwp_block ?_
          refine iwp_seq ?_
          apply iwp_reg hJ
          ·
            intro c1 hmine hrnd
            refine awp_region 2 mixed (by kernel_rfl) ?_
            refine rg_q (q_move (x := .d (.v _)) rfl) (rg_q (q_assign (x := .d (.v _)) rfl) ?_)
            refine rg_nil (aops_nil ?_)
            exact ⟨rfl, rfl⟩
          change Iwp _ _ _ _ _ _ _
          refine iwp_seq ?_
          refine iwp_regionD 17 mixed hJ (by kernel_rfl) (fun c1 hmine => ?_)
          refine rg_q (q_move (x := .d (.fn _ _)) rfl) (rg_q (q_move (x := .d (.v _)) rfl) (rg_q (q_move (x := .d (.v _)) rfl) ?_))
          refine rg_q (q_buildA (cs := [_, _]) ar63 zr63 rfl (.cons rfl (by exact .inl rfl) (.cons rfl (by exact .inl rfl) .nil)) ⟨⟨rfl, by decide⟩, ⟨rfl, by decide⟩, trivial⟩ rfl) ?_
          refine rg_q (q_load sz156 rfl rfl) (rg_q (q_nilCheck rfl) (rg_q (q_fieldAddr fld202_3 rfl) (rg_q (q_load sz200 rfl rfl) (rg_q (q_move (x := .d (.v _)) rfl) (rg_q (q_load sz156 rfl rfl) ?_)))))
          refine rg_q (q_nilCheck rfl) (rg_q (q_fieldAddr fld202_2 rfl) (rg_q (q_load sz3 rfl rfl) ?_))
          refine rg_q (q_mul rfl rfl (In64.mk (by omega) (by omega))) ?_
          refine rg_q (q_move (x := .d (.v _)) rfl) ?_
          refine rg_q (q_add rfl rfl (In64.mk (by omega) (by omega))) ?_
          refine rg_q (q_indexAddr sl200 rfl rfl (by omega) (hsm)) ?_
          refine rg_nil ?_
          refine iops_yield (x := (x, (j : Int))) hy hdat rfl (.cons rfl (.cons rfl .nil)) hpre rfl (fun yb => ?_)
          refine iops_of hJ rfl (fun c1 _ _ _ h => by exact aops_q rfl ((q_not rfl)) h) ?_
          refine iops_nil ?_
          change Iwp _ _ _ _ _ _ _
          refine iwp_cond rfl (fun hc6 => ?_) (fun hc6 => ?_)
          ·
            (try simp only [nb, ne_eq] at hc6)
            have hyb : yb = false := by cases yb <;> first | rfl | (exfalso; simp_all; done)
            refine iwp_ret ?_
            exact ⟨.inl rfl, fun h => by rw [hyb] at h; cases h⟩
          ·
            (try simp only [nb, ne_eq] at hc6)
            have hyb : yb = true := by cases yb <;> first | rfl | (exfalso; simp_all; done)
            refine iwp_skip ?_
            change Iwp _ _ _ _ _ _ _
            apply iwp_reg hJ
            ·
              intro c1 hmine hrnd
              refine awp_region 2 mixed (by kernel_rfl) ?_
              refine rg_q (q_add rfl rfl (In64.mk (by omega) (by omega))) ?_
              refine rg_q (q_move (x := .d (.v _)) rfl) ?_
              refine rg_nil (aops_nil ?_)
              exact ⟨rfl, rfl⟩
            refine ⟨j + 1, by omega, by omega, by rw [hyb, pqR_succ, List.append_assoc], fun c1 => ?_⟩
            exact le_head (ms := []) (by repeat (first | exact Out.head rfl rfl | (refine Out.put ?_ rfl))) ⟨(by rfl), trivial⟩ trivial rfl rfl rfl rfl
        ·
          (try simp only [nb, ne_eq] at hc4)
          have hjn : j = t.ne.toNat := by omega
          refine iwp_exit ?_
          change Iwp _ _ _ _ _ _ _
          apply iwp_reg hJ
          ·
            intro c1 hmine hrnd
            refine awp_region 2 mixed (by kernel_rfl) ?_
            refine rg_q (q_add rfl rfl (In64.mk (by omega) (by omega))) ?_
            refine rg_q (q_move (x := .d (.v _)) rfl) ?_
            refine rg_nil (aops_nil ?_)
            exact ⟨rfl, rfl⟩
          refine ⟨i + 1, by omega, by omega, by rw [hjn, pqF_succ hx], fun c1 => ?_⟩
          exact le_head (ms := []) (by repeat (first | exact Out.head rfl rfl | (refine Out.put ?_ rfl) | (refine Out.headIn ?_ rfl rfl rfl))) ⟨(by rfl), trivial⟩ trivial rfl rfl rfl rfl
    ·
      (try simp only [nb, ne_eq] at hc1)
      have hin : i = l.length := by omega
      refine iwp_exit ?_
      exact ⟨.inr rfl, fun _ => by rw [hin, pqF_all]⟩
set_option maxRecDepth 100000 in
theorem fplus_p (a b c d : Int) (h1 : -1000000000000 ≤ a ∧ a ≤ 1000000000000) (h2 : -1000000000000 ≤ b ∧ b ≤ 1000000000000) (h3 : -1000000000000 ≤ c ∧ c ≤ 1000000000000) (h4 : -1000000000000 ≤ d ∧ d ≤ 1000000000000) : PC Tryz.prog 132 [.agg [.v (.int .i64 (a)), .v (.int .i64 (b))], .agg [.v (.int .i64 (c)), .v (.int .i64 (d))]] (.agg [.v (.int .i64 (a + c)), .v (.int .i64 (b + d))]) := by
 refine pc_of_awp Tryz.func132 rfl Tryz.ntmps132 (rs := [.cell 4 160]) Tryz.results132 (by simp) fun w0 => ?_
 refine awp_seq ?_
 refine awp_region 2 mixed (by kernel_rfl) ?_
 refine rg_q (q_box rfl (by exact .inr ⟨_, rfl⟩)) ?_
 refine rg_q (q_box rfl (by exact .inr ⟨_, rfl⟩)) ?_
 refine rg_nil ?_
 refine aops_alloc zr160 rfl rfl rfl ?_
 refine aops_nil ?_
 change Awp _ _ _ _ _
 refine awp_seq ?_
 refine awp_region 11 mixed (by kernel_rfl) ?_
 refine rg_q (q_fieldAddr fld160_0 rfl) (rg_q (q_load sz3 rfl rfl) (rg_q (q_fieldAddr fld160_0 rfl) (rg_q (q_load sz3 rfl rfl) ?_)))
 refine rg_q (q_add rfl rfl (In64.mk (by omega) (by omega))) ?_
 refine rg_q (q_fieldAddr fld160_1 rfl) (rg_q (q_load sz3 rfl rfl) (rg_q (q_fieldAddr fld160_1 rfl) (rg_q (q_load sz3 rfl rfl) ?_)))
 refine rg_q (q_add rfl rfl (In64.mk (by omega) (by omega))) ?_
 refine rg_q (q_build (cs := [_, _]) pl160 zr160 rfl (.cons rfl (by exact .inl rfl) (.cons rfl (by exact .inl rfl) .nil)) ⟨⟨rfl, by decide⟩, ⟨rfl, by decide⟩, trivial⟩ rfl) ?_
 refine rg_nil ?_
 refine aops_store sz160 rfl rfl (by exact .inr ⟨_, rfl⟩) rfl rfl (by decide) rfl ?_
 refine aops_nil ?_
 change Awp _ _ _ _ _
 refine awp_ret ?_
 refine ⟨_, (.cons (.cellA rfl rfl sz160 rfl) .nil), ?_⟩
 rfl
set_option maxRecDepth 100000 in
theorem fsample_p (re im : Int) (h1 : -4094 ≤ re ∧ re ≤ 4094) (h2 : -4094 ≤ im ∧ im ≤ 4094) : PC Tryz.prog 104 [cx re im] (.agg [.v (.int .i64 (re)), .v (.int .i64 (im))]) := by
 refine pc_of_awp Tryz.func104 rfl Tryz.ntmps104 (rs := [.cell 2 160]) Tryz.results104 (by simp) fun w0 => ?_
 refine awp_seq ?_
 refine awp_region 0 mixed (by kernel_rfl) ?_
 refine rg_nil ?_
 refine aops_alloc zr160 rfl rfl rfl ?_
 refine aops_nil ?_
 change Awp _ _ _ _ _
 refine awp_seq ?_
 refine awp_region 7 mixed (by kernel_rfl) ?_
 refine rg_q (q_move (x := .d (.v _)) rfl) ?_
 refine rg_q (q_real rfl) ?_
 refine rg_q (q_convfi flt117 int3 rfl (f32_int (f32_of (by omega) (by omega)))) ?_
 refine rg_q (q_move (x := .d (.v _)) rfl) ?_
 refine rg_q (q_imag rfl) ?_
 refine rg_q (q_convfi flt117 int3 rfl (f32_int (f32_of (by omega) (by omega)))) ?_
 refine rg_q (q_build (cs := [_, _]) pl160 zr160 rfl (.cons rfl (by exact .inl rfl) (.cons rfl (by exact .inl rfl) .nil)) ⟨⟨rfl, by decide⟩, ⟨rfl, by decide⟩, trivial⟩ rfl) ?_
 refine rg_nil ?_
 refine aops_store sz160 rfl rfl (by exact .inr ⟨_, rfl⟩) rfl rfl (by decide) rfl ?_
 refine aops_nil ?_
 change Awp _ _ _ _ _
 refine awp_ret ?_
 refine ⟨_, (.cons (.cellA rfl rfl sz160 rfl) .nil), ?_⟩
 rfl

def cz (re im : Int) : D := .v (.complex .f64 (FloatKind.f64.nearest re) (FloatKind.f64.nearest im))
set_option maxRecDepth 100000 in
theorem fnumber_p (re im : Int) : PC Tryz.prog 97 [.agg [.v (.int .i64 (re)), .v (.int .i64 (im))]] (cz re im) := by
 refine pc_of_awp Tryz.func97 rfl Tryz.ntmps97 (rs := [.tmp 2]) Tryz.results97 (by simp) fun w0 => ?_
 refine awp_seq ?_
 refine awp_region 2 mixed (by kernel_rfl) ?_
 refine rg_q (q_box rfl (by exact .inr ⟨_, rfl⟩)) ?_
 refine rg_q (q_assign (x := .d (.v _)) rfl) ?_
 refine rg_nil (aops_nil ?_)
 change Awp _ _ _ _ _
 refine awp_seq ?_
 refine awp_region 8 mixed (by kernel_rfl) ?_
 refine rg_q (q_fieldAddr fld160_0 rfl) (rg_q (q_load sz3 rfl rfl) ?_)
 refine rg_q (q_convf int3 flt167 rfl) ?_
 refine rg_q (q_fieldAddr fld160_1 rfl) (rg_q (q_load sz3 rfl rfl) ?_)
 refine rg_q (q_convf int3 flt167 rfl) ?_
 refine rg_q (q_complex rfl rfl) ?_
 refine rg_q (q_assign (x := .d (.v _)) rfl) ?_
 refine rg_nil (aops_nil ?_)
 change Awp _ _ _ _ _
 refine awp_ret ?_
 refine ⟨_, (.cons (.tmp (by exact .d _)) .nil), ?_⟩
 rfl
end Go.Proofs.YtphlaicnmmglhaaGreat.Am.M
