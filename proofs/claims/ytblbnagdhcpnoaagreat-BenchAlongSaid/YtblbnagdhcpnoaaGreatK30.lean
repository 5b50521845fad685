/- Contracts over the abstract machine: scans; BenchAlong. Conditions: none. -/
import Derived.Test.YtblbnagdhcpnoaaGreatK28
import Derived.Test.YtblbnagdhcpnoaaGreatK29
set_option linter.unusedVariables false
set_option linter.unusedSimpArgs false
-- mini
namespace Go.Proofs.YtblbnagdhcpnoaaGreat.Am.M
open Go

theorem mv_spot {p : Int × Int} {c : Int} (h : spotE p = 0) (hc : inR (-100000) c 100000 = true) : spotE (c, p.2) = 0 := by
  have a := (must_zero (show (2 : Int) ≠ 0 by decide)).1 (show mustI (spotB p) 2 = 0 from h)
  refine (must_zero (show (2 : Int) ≠ 0 by decide)).2 ?_
  unfold spotB at a ⊢
  rw [Bool.and_eq_true] at a ⊢
  exact ⟨hc, a.2⟩
theorem mv_flwE {b : Int} {x : Flw} (h : flwE x = 0) (hb : mvB b x = true) : flwE (mvF b x) = 0 := by
  unfold mvB at hb
  rw [Bool.and_eq_true] at hb
  obtain ⟨b1, b2⟩ := hb
  unfold flwE at h ⊢
  rw [show (mvF b x).kd = x.kd from rfl]
  by_cases h1 : ¬ (0 ≤ x.kd ∧ x.kd ≤ 1)
  · rw [if_pos h1] at h; cases h
  rw [if_neg h1] at h ⊢
  by_cases h2 : flwE0 x ≠ 0
  · rw [if_pos h2] at h; exact absurd h h2
  rw [if_neg h2] at h
  have h0 : flwE0 (mvF b x) = 0 := by
    have h3 := Decidable.not_not.1 h2
    unfold flwE0 at h3 ⊢
    rw [first_zero] at h3 ⊢
    simp only [List.mem_cons, List.not_mem_nil, or_false, forall_eq_or_imp, forall_eq] at h3 ⊢
    exact ⟨mv_spot h3.1 b1, h3.2⟩
  rw [if_neg (fun q => q h0)]
  by_cases hk : x.kd = 0
  · rw [if_pos hk] at h ⊢
    have e : (mvF b x).to_ = x.to_ := by unfold mvF; rw [if_neg (by omega)]
    unfold poreE at h ⊢
    rw [e]; exact h
  · rw [if_neg hk] at h ⊢
    have hk1 : x.kd = 1 := by omega
    have e : (mvF b x).to_ = (x.to_.1 + b, x.to_.2) := by unfold mvF; rw [if_pos hk1]
    unfold planeE at h ⊢
    rw [first_zero] at h ⊢
    simp only [List.mem_cons, List.not_mem_nil, or_false, forall_eq_or_imp, forall_eq] at h ⊢
    obtain ⟨p1, p2, p3⟩ := h
    rw [e] at b2 ⊢
    refine ⟨mv_spot p1 b2, p2, ?_⟩
    rw [when_zero (show (11 : Int) ≠ 0 by decide), decide_eq_false_iff_not] at p3 ⊢
    intro q
    apply p3
    simp only [List.cons.injEq, and_true] at q ⊢
    have q1 : x.to_.1 + b = x.at_.1 + b := q.1
    exact ⟨by omega, q.2⟩
theorem mv_flE {t b : Int} {x : Flw} (h : flE t x = 0) (hb : mvB b x = true) : flE t (mvF b x) = 0 := by
  have h0 : firstE [flwE x, plateE x.at_.2 t] = 0 := by
    unfold flE at h
    split at h
    · rename_i q; exact q.1
    · exact h
  have h1 := first_zero.1 h0
  simp only [List.mem_cons, List.not_mem_nil, or_false, forall_eq_or_imp, forall_eq] at h1
  have h2 : firstE [flwE (mvF b x), plateE (mvF b x).at_.2 t] = 0 := first_zero.2 (by
    simp only [List.mem_cons, List.not_mem_nil, or_false, forall_eq_or_imp, forall_eq]
    exact ⟨mv_flwE h1.1 hb, h1.2⟩)
  unfold flE at h ⊢
  rw [show (mvF b x).kd = x.kd from rfl]
  by_cases hk : x.kd = 1
  · rw [if_pos ⟨h0, hk⟩] at h
    rw [if_pos ⟨h2, hk⟩]
    have e : (mvF b x).to_ = (x.to_.1 + b, x.to_.2) := by unfold mvF; rw [if_pos hk]
    rw [e]; exact h
  · rw [if_neg (fun q => hk q.2)]; exact h2
theorem ckFls_zero {t : Int} : ∀ {l : List Flw} {i : Nat}, (∀ x ∈ l, flE t x = 0) → (ckFls t i l).2 = 0
  | [], _, _ => rfl
  | x :: xs, i, h => by
    unfold ckFls
    rw [if_neg (fun q => q (h x (by simp)))]
    exact ckFls_zero fun y hy => h y (by simp [hy])
theorem ckFls_flE {t : Int} : ∀ {l : List Flw} {i : Nat}, (ckFls t i l).2 = 0 → ∀ x ∈ l, flE t x = 0
  | [], _, _, x, hx => by cases hx
  | y :: ys, i, h, x, hx => by
    unfold ckFls at h
    by_cases h1 : flE t y ≠ 0
    · rw [if_pos h1] at h; exact absurd h h1
    · rw [if_neg h1] at h
      rcases List.mem_cons.1 hx with rfl | hx
      · exact Decidable.not_not.1 h1
      · exact ckFls_flE h x hx
theorem mvS_ok {s : Spc} {b : Int} (h : (ckSpc s).2 = 0) (ha : s.fl.all (mvB b) = true) : (ckSpc (mvS s b)).2 = 0 := by
  have e0 : spcE0 (mvS s b) = spcE0 s := by
    unfold spcE0
    rw [show (mvS s b).fl.length = s.fl.length from List.length_map _, show (mvS s b).pl = s.pl from rfl]
  unfold ckSpc at h ⊢
  rw [e0, show (mvS s b).ar = s.ar from rfl]
  by_cases h1 : (ckArr s.ar).2 ≠ 0
  · rw [if_pos h1] at h; exact absurd h h1
  rw [if_neg h1] at h ⊢
  by_cases h2 : spcE0 s ≠ 0
  · rw [if_pos h2] at h; exact absurd h h2
  rw [if_neg h2] at h ⊢
  refine ckFls_zero fun y hy => ?_
  obtain ⟨x, hx, rfl⟩ := List.mem_map.1 (show y ∈ s.fl.map (mvF b) from hy)
  exact mv_flE (ckFls_flE h x hx) (List.all_eq_true.1 ha x hx)
def mvK (s : Spc) (st : Int) (k : Nat) : Spc × Int := mvR0 s (-(k : Int) * st)
def alE (s : Spc) (st : Int) (k : Nat) : Int := if (mvK s st k).2 ≠ 0 then (mvK s st k).2 else (mxR (mvK s st k).1).2
def alM (s : Spc) (st : Int) (k : Nat) : Int × List Int := (mxR (mvK s st k).1).1
def alR0 (s : Spc) (st : Int) (n : Nat) : List (Int × List Int) × Int := if firstE ((List.range n).map (alE s st)) ≠ 0 then ([], firstE ((List.range n).map (alE s st))) else ((List.range n).map (alM s st), 0)
theorem first_app {l m : List Int} (h : ∀ x ∈ l, x = 0) : firstE (l ++ m) = firstE m := by
  induction l with
  | nil => rfl
  | cons a l ih =>
    have ha : a = 0 := h a (by simp)
    rw [show firstE (a :: l ++ m) = (if a = 0 then firstE (l ++ m) else a) from rfl, if_pos ha]
    exact ih fun x hx => h x (by simp [hx])
theorem alR_stop {s : Spc} {st : Int} {n k : Nat} (hk : k < n) (h : ∀ j, j < k → alE s st j = 0) (he : alE s st k ≠ 0) : alR0 s st n = ([], alE s st k) := by
  have : firstE ((List.range n).map (alE s st)) = alE s st k := by
    obtain ⟨m, rfl⟩ : ∃ m, n = k + (m + 1) := ⟨n - k - 1, by omega⟩
    rw [List.range_add, List.map_append, first_app (by intro x hx; obtain ⟨j, hj, rfl⟩ := List.mem_map.1 hx; exact h j (List.mem_range.1 hj)), List.range_succ_eq_map, List.map_cons, List.map_cons]
    unfold firstE
    rw [if_neg (by simpa using he)]; rfl
  unfold alR0
  rw [this, if_pos he]
theorem alR_all {s : Spc} {st : Int} {n : Nat} (h : ∀ j, j < n → alE s st j = 0) : alR0 s st n = ((List.range n).map (alM s st), 0) := by
  have : firstE ((List.range n).map (alE s st)) = 0 := first_zero.2 (by intro x hx; obtain ⟨j, hj, rfl⟩ := List.mem_map.1 hx; exact h j (List.mem_range.1 hj))
  unfold alR0
  rw [this, if_neg (by decide)]

def alR1 (s : Spc) (st n : Int) : List (Int × List Int) × Int := if (inR (-100000) st 100000 && inR 1 n 20) = true then alR0 s st n.toNat else ([], 2)
def alR (s : Spc) (st n : Int) : List (Int × List Int) × Int := if (ckSpc s).2 ≠ 0 then ([], (ckSpc s).2) else alR1 s st n
theorem mvK_ok {s : Spc} {st : Int} {k : Nat} (h : (ckSpc s).2 = 0) (he : (mvK s st k).2 = 0) : (ckSpc (mvK s st k).1).2 = 0 := by
  unfold mvK mvR0 at he ⊢
  split at he
  · rename_i h1
    rw [if_pos h1]
    split at he
    · rename_i h2
      rw [if_pos h2]; exact mvS_ok h h2
    · cases he
  · cases he
theorem alM_step (s : Spc) (st : Int) (k : Nat) : ((List.range k).map (alM s st)).map mxC ++ [mxC (alM s st k)] = ((List.range (k + 1)).map (alM s st)).map mxC := by
  rw [List.range_succ, List.map_append, List.map_append]; rfl
theorem al_step {s : Spc} {st : Int} {k : Nat} (h : ∀ j, j < k → alE s st j = 0) (he : alE s st k = 0) : ∀ j, j < k + 1 → alE s st j = 0 := fun j hj => by
  by_cases e : j = k
  · rw [e]; exact he
  · exact h j (by omega)
set_option maxRecDepth 100000 in
theorem along_p (s : Spc) (st n : Int) : PC Tryz.prog 39 [.agg (spcC s), .v (.int .i64 (st)), .v (.int .i64 (n))] (.tup [.sl 2 ((alR s st n).1.map mxC), .v (.int .i64 ((alR s st n).2))]) := by
  refine pc_of_awpN Tryz.func39 rfl Tryz.ntmps39 (rs := [.tmp 6, .tmp 7]) Tryz.results39 (by simp) fun w0 hmine hrnd hpn => ?_
  refine awp_seq ?_
  refine awp_region 3 mixed (by kernel_rfl) ?_
  refine rg_q (q_box rfl (by exact .inr ⟨_, rfl⟩)) ?_
  refine rg_q (q_assign_nil) ?_
  refine rg_q (q_assign (x := .d (.v _)) rfl) ?_
  refine rg_nil ?_
  refine aops_nil ?_
  change Awp _ _ _ _ _
  refine awp_seq ?_
  refine awp_seq ?_
  refine awp_region 7 mixed (by kernel_rfl) ?_
  refine rg_q (q_loadA sz32 rfl rfl rfl) ?_
  refine rg_q (q_call en72 (.cons rfl .nil) rfl (checkSpecimen_p _)) ?_
  refine rg_q (q_move (x := .d (.tup _)) rfl) ?_
  refine rg_q (q_extract rfl rfl) ?_
  refine rg_q (q_extract rfl rfl) ?_
  refine rg_q (q_assign (x := .d (.v _)) rfl) ?_
  refine rg_q (q_assign (x := .d (.v _)) rfl) ?_
  refine rg_nil ?_
  refine aops_nil ?_
  change Awp _ _ _ _ _
  refine awp_seq ?_
  refine awp_region 2 mixed (by kernel_rfl) ?_
  refine rg_q (q_move (x := .d (.v _)) rfl) ?_
  refine rg_q (q_neq rfl rfl) ?_
  refine rg_nil ?_
  refine aops_nil ?_
  change Awp _ _ _ _ _
  refine awp_cond rfl (fun hc2 => ?_) (fun hc2 => ?_)
  ·
    (try simp only [decide_eq_true_eq, decide_eq_false_iff_not, Bool.and_eq_true, Bool.or_eq_true, Bool.and_eq_false_iff, Bool.or_eq_false_iff, Bool.not_eq_true', Bool.not_eq_false', Bool.not_true, Bool.not_false, bif_and, bif_or, Bool.not_not, ne_eq, Decidable.not_not, not_true_eq_false, not_false_eq_true, Int.not_le, Int.not_lt] at hc2)
    have hz : alR s st n = ([], (ckSpc s).2) := by unfold alR; rw [if_pos hc2]
    refine awp_seq ?_
    refine awp_region 3 mixed (by kernel_rfl) ?_
    refine rg_q (q_move (x := .d (.v _)) rfl) ?_
    refine rg_q (q_assign_nil) ?_
    refine rg_q (q_assign (x := .d (.v _)) rfl) ?_
    refine rg_nil ?_
    refine aops_nil ?_
    change Awp _ _ _ _ _
    refine awp_ret ?_
    refine ⟨_, (.cons (.tmp (by exact .nil 2)) (.cons (.tmp (by exact .d _)) .nil)), ?_⟩
    rw [hz]; rfl
  ·
    (try simp only [decide_eq_true_eq, decide_eq_false_iff_not, Bool.and_eq_true, Bool.or_eq_true, Bool.and_eq_false_iff, Bool.or_eq_false_iff, Bool.not_eq_true', Bool.not_eq_false', Bool.not_true, Bool.not_false, bif_and, bif_or, Bool.not_not, ne_eq, Decidable.not_not, not_true_eq_false, not_false_eq_true, Int.not_le, Int.not_lt] at hc2)
    have h0 : (ckSpc s).2 = 0 := hc2
    have hsp := spc_ok h0
    have hok := hsp.ar
    have hn1 := hok.n1
    have hn2 := hok.n2
    have hp1 := hsp.p1
    have hp0 := (plsE_ok (spc_pulse h0)).1
    have hf1 := hsp.f1
    have hz : alR s st n = alR1 s st n := by unfold alR; rw [if_neg (fun q => q h0)]
    refine awp_skip ?_
    change Awp _ _ _ _ _
    refine awp_seq ?_
    refine awp_seq ?_
    refine awp_region 8 mixed (by kernel_rfl) ?_
    refine rg_q (q_move (x := .d (.v _)) rfl) ?_
    refine rg_q (q_call en78 (.cons rfl (.cons rfl .nil)) rfl (bsmall_p _ _ (by omega) (by omega))) ?_
    refine rg_q (q_not rfl) ?_
    refine rg_q (q_move (x := .d (.v _)) rfl) ?_
    refine rg_g rfl rfl (fun hG => (q_move (x := .d (.v _)) rfl)) ?_
    refine rg_g rfl rfl (fun hG => (q_call en57 (.cons rfl (.cons rfl (.cons rfl .nil))) rfl (bwithin_p _ _ _))) ?_
    refine rg_g rfl rfl (fun hG => (q_not rfl)) ?_
    refine rg_pick rfl rfl rfl rfl rfl rfl ?_
    refine rg_nil ?_
    refine aops_nil ?_
    change Awp _ _ _ _ _
    refine awp_cond rfl (fun hc4 => ?_) (fun hc4 => ?_)
    ·
      (try simp only [decide_eq_true_eq, decide_eq_false_iff_not, Bool.and_eq_true, Bool.or_eq_true, Bool.and_eq_false_iff, Bool.or_eq_false_iff, Bool.not_eq_true', Bool.not_eq_false', Bool.not_true, Bool.not_false, bif_and, bif_or, Bool.not_not, ne_eq, Decidable.not_not, not_true_eq_false, not_false_eq_true, Int.not_le, Int.not_lt] at hc4)
      have hz2 : alR1 s st n = ([], 2) := by
        unfold alR1
        rw [if_neg (fun q => by rw [Bool.and_eq_true] at q; simp [q.1, q.2] at hc4)]
      refine awp_seq ?_
      refine awp_region 2 mixed (by kernel_rfl) ?_
      refine rg_q (q_assign_nil) ?_
      refine rg_q (q_assign (x := .d (.v _)) rfl) ?_
      refine rg_nil ?_
      refine aops_nil ?_
      change Awp _ _ _ _ _
      refine awp_ret ?_
      refine ⟨_, (.cons (.tmp (by exact .nil 2)) (.cons (.tmp (by exact .d _)) .nil)), ?_⟩
      rw [hz, hz2]; rfl
    ·
      (try simp only [decide_eq_true_eq, decide_eq_false_iff_not, Bool.and_eq_true, Bool.or_eq_true, Bool.and_eq_false_iff, Bool.or_eq_false_iff, Bool.not_eq_true', Bool.not_eq_false', Bool.not_true, Bool.not_false, bif_and, bif_or, Bool.not_not, ne_eq, Decidable.not_not, not_true_eq_false, not_false_eq_true, Int.not_le, Int.not_lt] at hc4)
      have hb3 : (inR (-100000) st 100000 && inR 1 n 20) = true := by
        rw [Bool.and_eq_true]; exact ⟨hc4.1, hc4.2⟩
      have hb4 : (-100000 ≤ st ∧ st ≤ 100000) ∧ 1 ≤ n ∧ n ≤ 20 := by
        rw [Bool.and_eq_true] at hb3; unfold inR at hb3; simp at hb3; omega
      obtain ⟨N, rfl⟩ : ∃ N : Nat, n = (N : Int) := ⟨n.toNat, by omega⟩
      have hz2 : alR1 s st (N : Int) = alR0 s st N := by unfold alR1; rw [if_pos hb3]; rfl
      refine awp_skip ?_
      change Awp _ _ _ _ _
      refine awp_seq ?_
      refine awp_region 1 mixed (by kernel_rfl) ?_
      refine rg_q (q_assign_nil) ?_
      refine rg_nil ?_
      refine aops_nil ?_
      change Awp _ _ _ _ _
      refine awp_seq ?_
      refine awp_seq ?_
      refine awp_region 2 mixed (by kernel_rfl) ?_
      refine rg_q (q_move (x := .d (.v _)) rfl) ?_
      refine rg_q (q_move (x := .d (.v _)) rfl) ?_
      refine rg_nil ?_
      refine aops_nil ?_
      change Awp _ _ _ _ _
      refine Awp.le (le_own (k := 10) (e := 59) (sz := 2) rfl rfl) ?_
      refine awp_block ?_
      refine awp_loopH [6, 7, 10, 11, 12, 13, 14, 32, 33, 34, 35, 36, 37, 38, 39, 40, 41, 42, 43, 44, 45, 46, 47, 48, 49, 50, 51, 52, 53, 54, 55, 56, 57, 58, 59] [10] (α := Nat) (fun k => [(32, T.i (k : Int)), (10, .rs 10)]) (fun k => [(10, .row 59 2 (((List.range k).map (alM s st)).map mxC))]) (fun k => k ≤ N ∧ ∀ j, j < k → alE s st j = 0) (fun k => N - k) 0 ⟨Nat.zero_le _, fun j hj => absurd hj (Nat.not_lt_zero _)⟩ ?_ ?_
      · exact le_head (ms := [10]) (by repeat (exact Out.refl _)) ⟨(by rfl), (by rfl), trivial⟩ ⟨(by rfl), trivial⟩ rfl rfl rfl rfl
      ·
        intro k ⟨hk, hall⟩
        refine awp_seq ?_
        refine awp_region 1 mixed (by kernel_rfl) ?_
        refine rg_q (q_lss rfl rfl) ?_
        refine rg_nil ?_
        refine aops_nil ?_
        change Awp _ _ _ _ _
        refine awp_seq ?_
        refine awp_cond rfl (fun hc8 => ?_) (fun hc8 => ?_)
        ·
          (try simp only [decide_eq_true_eq, decide_eq_false_iff_not, Bool.and_eq_true, Bool.or_eq_true, Bool.and_eq_false_iff, Bool.or_eq_false_iff, Bool.not_eq_true', Bool.not_eq_false', Bool.not_true, Bool.not_false, bif_and, bif_or, Bool.not_not, ne_eq, Decidable.not_not, not_true_eq_false, not_false_eq_true, Int.not_le, Int.not_lt] at hc8)
          have hlt : k < N := by omega
          have hmu := mulb (a := -(k : Int)) (b := st) (A := 20) (B := 100000) (by omega) (by omega) (by omega) (by omega)
          refine awp_skip ?_
          change Awp _ _ _ _ _
          refine awp_seq ?_
          refine awp_block ?_
          refine awp_seq ?_
          refine awp_region 2 mixed (by kernel_rfl) ?_
          refine rg_q (q_move (x := .d (.v _)) rfl) ?_
          refine rg_q (q_assign (x := .d (.v _)) rfl) ?_
          refine rg_nil ?_
          refine aops_nil ?_
          change Awp _ _ _ _ _
          refine awp_seq ?_
          refine awp_region 9 mixed (by kernel_rfl) ?_
          refine rg_q (q_loadA sz32 rfl rfl rfl) ?_
          refine rg_q (q_move (x := .d (.v _)) rfl) ?_
          refine rg_q (q_neg rfl (In64.mk (by omega) (by omega))) ?_
          refine rg_q (q_move (x := .d (.v _)) rfl) ?_
          refine rg_q (q_mul rfl rfl (In64.mk (by omega) (by omega))) ?_
          refine rg_q (q_call en75 (.cons rfl (.cons rfl .nil)) rfl (moved0_p s (by omega) (by omega) (by omega) (by omega) (by omega) (-(k : Int) * st) hsp.fl)) ?_
          refine rg_q (q_move (x := .d (.tup _)) rfl) ?_
          refine rg_q (q_extract rfl rfl) ?_
          refine rg_q (q_extract rfl rfl) ?_
          refine rg_nil ?_
          refine aops_allocD zr32 rfl sz32 rfl rfl (by exact .inr ⟨_, rfl⟩) rfl rfl ?_
          refine aops_q rfl (q_assign (x := .d (.v _)) rfl) ?_
          refine aops_nil ?_
          change Awp _ _ _ _ _
          refine awp_seq ?_
          refine awp_seq ?_
          refine awp_region 2 mixed (by kernel_rfl) ?_
          refine rg_q (q_move (x := .d (.v _)) rfl) ?_
          refine rg_q (q_neq rfl rfl) ?_
          refine rg_nil ?_
          refine aops_nil ?_
          change Awp _ _ _ _ _
          refine awp_cond rfl (fun hc11 => ?_) (fun hc11 => ?_)
          ·
            (try simp only [decide_eq_true_eq, decide_eq_false_iff_not, Bool.and_eq_true, Bool.or_eq_true, Bool.and_eq_false_iff, Bool.or_eq_false_iff, Bool.not_eq_true', Bool.not_eq_false', Bool.not_true, Bool.not_false, bif_and, bif_or, Bool.not_not, ne_eq, Decidable.not_not, not_true_eq_false, not_false_eq_true, Int.not_le, Int.not_lt] at hc11)
            have he1 : (mvK s st k).2 ≠ 0 := hc11
            have he : alE s st k = (mvK s st k).2 := by unfold alE; rw [if_pos he1]
            have hz3 := alR_stop hlt hall (by rw [he]; exact he1)
            refine awp_seq ?_
            refine awp_region 3 mixed (by kernel_rfl) ?_
            refine rg_q (q_move (x := .d (.v _)) rfl) ?_
            refine rg_q (q_assign_nil) ?_
            refine rg_q (q_assign (x := .d (.v _)) rfl) ?_
            refine rg_nil ?_
            refine aops_nil ?_
            change Awp _ _ _ _ _
            refine awp_ret ?_
            refine ⟨_, (.cons (.tmp (by exact .nil 2)) (.cons (.tmp (by exact .d _)) .nil)), ?_⟩
            rw [hz, hz2, hz3, he]; rfl
          ·
            (try simp only [decide_eq_true_eq, decide_eq_false_iff_not, Bool.and_eq_true, Bool.or_eq_true, Bool.and_eq_false_iff, Bool.or_eq_false_iff, Bool.not_eq_true', Bool.not_eq_false', Bool.not_true, Bool.not_false, bif_and, bif_or, Bool.not_not, ne_eq, Decidable.not_not, not_true_eq_false, not_false_eq_true, Int.not_le, Int.not_lt] at hc11)
            have he1 : (mvK s st k).2 = 0 := hc11
            have he : alE s st k = (mxR (mvK s st k).1).2 := by unfold alE; rw [if_neg (fun q => q he1)]
            refine awp_skip ?_
            change Awp _ _ _ _ _
            refine awp_seq ?_
            refine awp_region 5 mixed (by kernel_rfl) ?_
            refine rg_q (q_loadA sz32 rfl rfl rfl) ?_
            refine rg_q (q_call en20 (.cons rfl .nil) rfl (matrix_p (mvK s st k).1)) ?_
            refine rg_q (q_move (x := .d (.tup _)) rfl) ?_
            refine rg_q (q_extract rfl rfl) ?_
            refine rg_q (q_extract rfl rfl) ?_
            refine rg_nil ?_
            refine aops_allocD zr59 rfl sz59 rfl rfl (by exact .inr ⟨_, rfl⟩) rfl rfl ?_
            refine aops_q rfl (q_assign (x := .d (.v _)) rfl) ?_
            refine aops_nil ?_
            change Awp _ _ _ _ _
            refine awp_seq ?_
            refine awp_seq ?_
            refine awp_region 2 mixed (by kernel_rfl) ?_
            refine rg_q (q_move (x := .d (.v _)) rfl) ?_
            refine rg_q (q_neq rfl rfl) ?_
            refine rg_nil ?_
            refine aops_nil ?_
            change Awp _ _ _ _ _
            refine awp_cond rfl (fun hc14 => ?_) (fun hc14 => ?_)
            ·
              (try simp only [decide_eq_true_eq, decide_eq_false_iff_not, Bool.and_eq_true, Bool.or_eq_true, Bool.and_eq_false_iff, Bool.or_eq_false_iff, Bool.not_eq_true', Bool.not_eq_false', Bool.not_true, Bool.not_false, bif_and, bif_or, Bool.not_not, ne_eq, Decidable.not_not, not_true_eq_false, not_false_eq_true, Int.not_le, Int.not_lt] at hc14)
              have he2 : (mxR (mvK s st k).1).2 ≠ 0 := hc14
              have hz3 := alR_stop hlt hall (by rw [he]; exact he2)
              refine awp_seq ?_
              refine awp_region 3 mixed (by kernel_rfl) ?_
              refine rg_q (q_move (x := .d (.v _)) rfl) ?_
              refine rg_q (q_assign_nil) ?_
              refine rg_q (q_assign (x := .d (.v _)) rfl) ?_
              refine rg_nil ?_
              refine aops_nil ?_
              change Awp _ _ _ _ _
              refine awp_ret ?_
              refine ⟨_, (.cons (.tmp (by exact .nil 2)) (.cons (.tmp (by exact .d _)) .nil)), ?_⟩
              rw [hz, hz2, hz3, he]; rfl
            ·
              (try simp only [decide_eq_true_eq, decide_eq_false_iff_not, Bool.and_eq_true, Bool.or_eq_true, Bool.and_eq_false_iff, Bool.or_eq_false_iff, Bool.not_eq_true', Bool.not_eq_false', Bool.not_true, Bool.not_false, bif_and, bif_or, Bool.not_not, ne_eq, Decidable.not_not, not_true_eq_false, not_false_eq_true, Int.not_le, Int.not_lt] at hc14)
              have he2 : (mxR (mvK s st k).1).2 = 0 := hc14
              have hs1 := alM_step s st k
              refine awp_skip ?_
              change Awp _ _ _ _ _
              refine awp_region 3 mixed (by kernel_rfl) ?_
              refine rg_q (q_move (x := .rs _) rfl) ?_
              refine rg_q (q_loadA (ds := [_, _]) sz59 rfl rfl rfl) ?_
              refine rg_q (q_buildSlice sl85 zr59 rfl rfl (by decide) (.cons rfl (by exact .inr ⟨_, rfl⟩) .nil) ⟨rfl, rfl, trivial⟩ rfl (by decide) rfl) ?_
              refine rg_nil ?_
              refine aops_append sl85 zr59 by59 rfl (by decide) rfl rfl rfl rfl (by (try simp only [List.length_map, List.length_append, List.length_cons, List.length_nil, List.length_range]); omega) (by (try simp only [List.length_map, List.length_append, List.length_cons, List.length_nil, List.length_range]); omega) rfl rfl ?_
              refine aops_q rfl (q_assign (x := .rs _) rfl) ?_
              refine aops_nil ?_
              change Awp _ _ _ _ _
              refine awp_region 2 mixed (by kernel_rfl) ?_
              refine rg_q (q_add rfl rfl (In64.mk (by omega) (by omega))) ?_
              refine rg_q (q_move (x := .d (.v _)) rfl) ?_
              refine rg_nil ?_
              refine aops_nil ?_
              refine ⟨k + 1, ⟨by omega, al_step hall (he.trans he2)⟩, by omega, ?_⟩
              exact le_head (ms := [10]) (by repeat (first | exact Out.head rfl rfl | (refine Out.put ?_ rfl) | (refine Out.site ?_ rfl) | (refine Out.killS ?_ rfl))) ⟨(by rfl), (by rfl), trivial⟩ ⟨(by ((show Site.row _ _ _ = Site.row _ _ _; rw [← hs1]; rfl))), trivial⟩ rfl rfl rfl rfl
        ·
          (try simp only [decide_eq_true_eq, decide_eq_false_iff_not, Bool.and_eq_true, Bool.or_eq_true, Bool.and_eq_false_iff, Bool.or_eq_false_iff, Bool.not_eq_true', Bool.not_eq_false', Bool.not_true, Bool.not_false, bif_and, bif_or, Bool.not_not, ne_eq, Decidable.not_not, not_true_eq_false, not_false_eq_true, Int.not_le, Int.not_lt] at hc8)
          have hkn : k = N := by omega
          subst hkn
          have hz3 := alR_all hall
          refine awp_exit ?_
          change Awp _ _ _ _ _
          refine awp_seq ?_
          refine awp_region 3 mixed (by kernel_rfl) ?_
          refine rg_q (q_move (x := .rs _) rfl) ?_
          refine rg_q (q_assign (x := .rs _) rfl) ?_
          refine rg_q (q_assign (x := .d (.v _)) rfl) ?_
          refine rg_nil ?_
          refine aops_nil ?_
          change Awp _ _ _ _ _
          refine awp_ret ?_
          refine ⟨_, (.cons (.tmp (by exact .rs rfl)) (.cons (.tmp (by exact .d _)) .nil)), ?_⟩
          rw [hz, hz2, hz3]; rfl
set_option maxRecDepth 100000 in
theorem ralong_p (s : Spc) (st n : Int) (h0 : (ckSpc s).2 = 0) : PC Tryz.prog 40 [.agg (spcC s), .v (.int .i64 (st)), .v (.int .i64 (n))] (.tup [.sl 2 ((alR1 s st n).1.map mxC), .v (.int .i64 ((alR1 s st n).2))]) := by
  have hsp := spc_ok h0
  have hok := hsp.ar
  have hn1 := hok.n1
  have hn2 := hok.n2
  have hp1 := hsp.p1
  have hf1 := hsp.f1
  refine pc_of_awpN Tryz.func40 rfl Tryz.ntmps40 (rs := [.tmp 6, .tmp 7]) Tryz.results40 (by simp) fun w0 hmine hrnd hpn => ?_
  refine awp_seq ?_
  refine awp_region 3 mixed (by kernel_rfl) ?_
  refine rg_q (q_box rfl (by exact .inr ⟨_, rfl⟩)) ?_
  refine rg_q (q_assign_nil) ?_
  refine rg_q (q_assign (x := .d (.v _)) rfl) ?_
  refine rg_nil ?_
  refine aops_nil ?_
  change Awp _ _ _ _ _
  refine awp_seq ?_
  refine awp_seq ?_
  refine awp_region 8 mixed (by kernel_rfl) ?_
  refine rg_q (q_move (x := .d (.v _)) rfl) ?_
  refine rg_q (q_call en33 (.cons rfl (.cons rfl (.cons rfl .nil))) rfl (within4_p _ _ _)) ?_
  refine rg_q (q_not rfl) ?_
  refine rg_q (q_move (x := .d (.v _)) rfl) ?_
  refine rg_g rfl rfl (fun hG => (q_move (x := .d (.v _)) rfl)) ?_
  refine rg_g rfl rfl (fun hG => (q_call en33 (.cons rfl (.cons rfl (.cons rfl .nil))) rfl (within4_p _ _ _))) ?_
  refine rg_g rfl rfl (fun hG => (q_not rfl)) ?_
  refine rg_pick rfl rfl rfl rfl rfl rfl ?_
  refine rg_nil ?_
  refine aops_nil ?_
  change Awp _ _ _ _ _
  refine awp_cond rfl (fun hc1 => ?_) (fun hc1 => ?_)
  ·
    (try simp only [decide_eq_true_eq, decide_eq_false_iff_not, Bool.and_eq_true, Bool.or_eq_true, Bool.and_eq_false_iff, Bool.or_eq_false_iff, Bool.not_eq_true', Bool.not_eq_false', Bool.not_true, Bool.not_false, bif_and, bif_or, Bool.not_not, ne_eq, Decidable.not_not, not_true_eq_false, not_false_eq_true, Int.not_le, Int.not_lt] at hc1)
    have hz2 : alR1 s st n = ([], 2) := by
      unfold alR1
      rw [if_neg (fun q => by rw [Bool.and_eq_true] at q; simp [q.1, q.2] at hc1)]
    refine awp_seq ?_
    refine awp_region 2 mixed (by kernel_rfl) ?_
    refine rg_q (q_assign_nil) ?_
    refine rg_q (q_assign (x := .d (.v _)) rfl) ?_
    refine rg_nil ?_
    refine aops_nil ?_
    change Awp _ _ _ _ _
    refine awp_ret ?_
    refine ⟨_, (.cons (.tmp (by exact .nil 2)) (.cons (.tmp (by exact .d _)) .nil)), ?_⟩
    rw [hz2]; rfl
  ·
    (try simp only [decide_eq_true_eq, decide_eq_false_iff_not, Bool.and_eq_true, Bool.or_eq_true, Bool.and_eq_false_iff, Bool.or_eq_false_iff, Bool.not_eq_true', Bool.not_eq_false', Bool.not_true, Bool.not_false, bif_and, bif_or, Bool.not_not, ne_eq, Decidable.not_not, not_true_eq_false, not_false_eq_true, Int.not_le, Int.not_lt] at hc1)
    have hb3 : (inR (-100000) st 100000 && inR 1 n 20) = true := by
      rw [Bool.and_eq_true]; exact ⟨hc1.1, hc1.2⟩
    have hb4 : (-100000 ≤ st ∧ st ≤ 100000) ∧ 1 ≤ n ∧ n ≤ 20 := by
      rw [Bool.and_eq_true] at hb3; unfold inR at hb3; simp at hb3; omega
    obtain ⟨N, rfl⟩ : ∃ N : Nat, n = (N : Int) := ⟨n.toNat, by omega⟩
    have hz2 : alR1 s st (N : Int) = alR0 s st N := by unfold alR1; rw [if_pos hb3]; rfl
    refine awp_skip ?_
    change Awp _ _ _ _ _
    refine awp_seq ?_
    refine awp_region 1 mixed (by kernel_rfl) ?_
    refine rg_q (q_assign_nil) ?_
    refine rg_nil ?_
    refine aops_nil ?_
    change Awp _ _ _ _ _
    refine awp_seq ?_
    refine awp_seq ?_
    refine awp_region 1 mixed (by kernel_rfl) ?_
    refine rg_q (q_assign (x := .d (.v _)) rfl) ?_
    refine rg_nil ?_
    refine aops_nil ?_
    change Awp _ _ _ _ _
    refine Awp.le (le_own (k := 8) (e := 59) (sz := 2) rfl rfl) ?_
    refine awp_block ?_
    refine awp_loopH [6, 7, 8, 9, 10, 11, 12, 21, 22, 23, 24, 25, 26, 27, 28, 29, 30, 31, 32, 33, 34, 35, 36, 37, 38, 39, 40, 41, 42, 43, 44, 45, 46, 47, 48, 49] [8] (α := Nat) (fun k => [(9, T.i (k : Int)), (8, .rs 8)]) (fun k => [(8, .row 59 2 (((List.range k).map (alM s st)).map mxC))]) (fun k => k ≤ N ∧ ∀ j, j < k → alE s st j = 0) (fun k => N - k) 0 ⟨Nat.zero_le _, fun j hj => absurd hj (Nat.not_lt_zero _)⟩ ?_ ?_
    · exact le_head (ms := [8]) (by repeat (exact Out.refl _)) ⟨(by rfl), (by rfl), trivial⟩ ⟨(by rfl), trivial⟩ rfl rfl rfl rfl
    ·
      intro k ⟨hk, hall⟩
      refine awp_seq ?_
      refine awp_seq ?_
      refine awp_region 3 mixed (by kernel_rfl) ?_
      refine rg_q (q_move (x := .d (.v _)) rfl) ?_
      refine rg_q (q_move (x := .d (.v _)) rfl) ?_
      refine rg_q (q_lss rfl rfl) ?_
      refine rg_nil ?_
      refine aops_nil ?_
      change Awp _ _ _ _ _
      refine awp_cond rfl (fun hc5 => ?_) (fun hc5 => ?_)
      ·
        (try simp only [decide_eq_true_eq, decide_eq_false_iff_not, Bool.and_eq_true, Bool.or_eq_true, Bool.and_eq_false_iff, Bool.or_eq_false_iff, Bool.not_eq_true', Bool.not_eq_false', Bool.not_true, Bool.not_false, bif_and, bif_or, Bool.not_not, ne_eq, Decidable.not_not, not_true_eq_false, not_false_eq_true, Int.not_le, Int.not_lt] at hc5)
        have hlt : k < N := by omega
        have hmu := mulb (a := -(k : Int)) (b := st) (A := 20) (B := 100000) (by omega) (by omega) (by omega) (by omega)
        refine awp_skip ?_
        change Awp _ _ _ _ _
        refine awp_seq ?_
        refine awp_block ?_
        refine awp_seq ?_
        refine awp_region 9 mixed (by kernel_rfl) ?_
        refine rg_q (q_loadA sz32 rfl rfl rfl) ?_
        refine rg_q (q_move (x := .d (.v _)) rfl) ?_
        refine rg_q (q_neg rfl (In64.mk (by omega) (by omega))) ?_
        refine rg_q (q_move (x := .d (.v _)) rfl) ?_
        refine rg_q (q_mul rfl rfl (In64.mk (by omega) (by omega))) ?_
        refine rg_q (q_call en38 (.cons rfl (.cons rfl .nil)) rfl (rmoved0_p s (by omega) (by omega) (by omega) (-(k : Int) * st) h0)) ?_
        refine rg_q (q_move (x := .d (.tup _)) rfl) ?_
        refine rg_q (q_extract rfl rfl) ?_
        refine rg_q (q_extract rfl rfl) ?_
        refine rg_nil ?_
        refine aops_allocD zr32 rfl sz32 rfl rfl (by exact .inr ⟨_, rfl⟩) rfl rfl ?_
        refine aops_q rfl (q_assign (x := .d (.v _)) rfl) ?_
        refine aops_nil ?_
        change Awp _ _ _ _ _
        refine awp_seq ?_
        refine awp_seq ?_
        refine awp_region 2 mixed (by kernel_rfl) ?_
        refine rg_q (q_move (x := .d (.v _)) rfl) ?_
        refine rg_q (q_neq rfl rfl) ?_
        refine rg_nil ?_
        refine aops_nil ?_
        change Awp _ _ _ _ _
        refine awp_cond rfl (fun hc8 => ?_) (fun hc8 => ?_)
        ·
          (try simp only [decide_eq_true_eq, decide_eq_false_iff_not, Bool.and_eq_true, Bool.or_eq_true, Bool.and_eq_false_iff, Bool.or_eq_false_iff, Bool.not_eq_true', Bool.not_eq_false', Bool.not_true, Bool.not_false, bif_and, bif_or, Bool.not_not, ne_eq, Decidable.not_not, not_true_eq_false, not_false_eq_true, Int.not_le, Int.not_lt] at hc8)
          have he1 : (mvK s st k).2 ≠ 0 := hc8
          have he : alE s st k = (mvK s st k).2 := by unfold alE; rw [if_pos he1]
          have hz3 := alR_stop hlt hall (by rw [he]; exact he1)
          refine awp_seq ?_
          refine awp_region 3 mixed (by kernel_rfl) ?_
          refine rg_q (q_move (x := .d (.v _)) rfl) ?_
          refine rg_q (q_assign_nil) ?_
          refine rg_q (q_assign (x := .d (.v _)) rfl) ?_
          refine rg_nil ?_
          refine aops_nil ?_
          change Awp _ _ _ _ _
          refine awp_ret ?_
          refine ⟨_, (.cons (.tmp (by exact .nil 2)) (.cons (.tmp (by exact .d _)) .nil)), ?_⟩
          rw [hz2, hz3, he]; rfl
        ·
          (try simp only [decide_eq_true_eq, decide_eq_false_iff_not, Bool.and_eq_true, Bool.or_eq_true, Bool.and_eq_false_iff, Bool.or_eq_false_iff, Bool.not_eq_true', Bool.not_eq_false', Bool.not_true, Bool.not_false, bif_and, bif_or, Bool.not_not, ne_eq, Decidable.not_not, not_true_eq_false, not_false_eq_true, Int.not_le, Int.not_lt] at hc8)
          have he1 : (mvK s st k).2 = 0 := hc8
          have he : alE s st k = (mxR (mvK s st k).1).2 := by unfold alE; rw [if_neg (fun q => q he1)]
          have hr : (ckSpc (mvK s st k).1).2 = 0 := mvK_ok h0 he1
          refine awp_skip ?_
          change Awp _ _ _ _ _
          refine awp_seq ?_
          refine awp_region 5 mixed (by kernel_rfl) ?_
          refine rg_q (q_loadA sz32 rfl rfl rfl) ?_
          refine rg_q (q_call en21 (.cons rfl .nil) rfl (rmatrix_p (mvK s st k).1 hr)) ?_
          refine rg_q (q_move (x := .d (.tup _)) rfl) ?_
          refine rg_q (q_extract rfl rfl) ?_
          refine rg_q (q_extract rfl rfl) ?_
          refine rg_nil ?_
          refine aops_allocD zr59 rfl sz59 rfl rfl (by exact .inr ⟨_, rfl⟩) rfl rfl ?_
          refine aops_q rfl (q_assign (x := .d (.v _)) rfl) ?_
          refine aops_nil ?_
          change Awp _ _ _ _ _
          refine awp_seq ?_
          refine awp_seq ?_
          refine awp_region 2 mixed (by kernel_rfl) ?_
          refine rg_q (q_move (x := .d (.v _)) rfl) ?_
          refine rg_q (q_neq rfl rfl) ?_
          refine rg_nil ?_
          refine aops_nil ?_
          change Awp _ _ _ _ _
          refine awp_cond rfl (fun hc11 => ?_) (fun hc11 => ?_)
          ·
            (try simp only [decide_eq_true_eq, decide_eq_false_iff_not, Bool.and_eq_true, Bool.or_eq_true, Bool.and_eq_false_iff, Bool.or_eq_false_iff, Bool.not_eq_true', Bool.not_eq_false', Bool.not_true, Bool.not_false, bif_and, bif_or, Bool.not_not, ne_eq, Decidable.not_not, not_true_eq_false, not_false_eq_true, Int.not_le, Int.not_lt] at hc11)
            have he2 : (mxR (mvK s st k).1).2 ≠ 0 := hc11
            have hz3 := alR_stop hlt hall (by rw [he]; exact he2)
            refine awp_seq ?_
            refine awp_region 3 mixed (by kernel_rfl) ?_
            refine rg_q (q_move (x := .d (.v _)) rfl) ?_
            refine rg_q (q_assign_nil) ?_
            refine rg_q (q_assign (x := .d (.v _)) rfl) ?_
            refine rg_nil ?_
            refine aops_nil ?_
            change Awp _ _ _ _ _
            refine awp_ret ?_
            refine ⟨_, (.cons (.tmp (by exact .nil 2)) (.cons (.tmp (by exact .d _)) .nil)), ?_⟩
            rw [hz2, hz3, he]; rfl
          ·
            (try simp only [decide_eq_true_eq, decide_eq_false_iff_not, Bool.and_eq_true, Bool.or_eq_true, Bool.and_eq_false_iff, Bool.or_eq_false_iff, Bool.not_eq_true', Bool.not_eq_false', Bool.not_true, Bool.not_false, bif_and, bif_or, Bool.not_not, ne_eq, Decidable.not_not, not_true_eq_false, not_false_eq_true, Int.not_le, Int.not_lt] at hc11)
            have he2 : (mxR (mvK s st k).1).2 = 0 := hc11
            have hs1 := alM_step s st k
            refine awp_skip ?_
            change Awp _ _ _ _ _
            refine awp_region 3 mixed (by kernel_rfl) ?_
            refine rg_q (q_move (x := .rs _) rfl) ?_
            refine rg_q (q_loadA (ds := [_, _]) sz59 rfl rfl rfl) ?_
            refine rg_q (q_buildSlice sl85 zr59 rfl rfl (by decide) (.cons rfl (by exact .inr ⟨_, rfl⟩) .nil) ⟨rfl, rfl, trivial⟩ rfl (by decide) rfl) ?_
            refine rg_nil ?_
            refine aops_append sl85 zr59 by59 rfl (by decide) rfl rfl rfl rfl (by (try simp only [List.length_map, List.length_append, List.length_cons, List.length_nil, List.length_range]); omega) (by (try simp only [List.length_map, List.length_append, List.length_cons, List.length_nil, List.length_range]); omega) rfl rfl ?_
            refine aops_q rfl (q_assign (x := .rs _) rfl) ?_
            refine aops_nil ?_
            change Awp _ _ _ _ _
            refine awp_region 3 mixed (by kernel_rfl) ?_
            refine rg_q (q_move (x := .d (.v _)) rfl) ?_
            refine rg_q (q_add rfl rfl (In64.mk (by omega) (by omega))) ?_
            refine rg_q (q_assign (x := .d (.v _)) rfl) ?_
            refine rg_nil ?_
            refine aops_nil ?_
            refine ⟨k + 1, ⟨by omega, al_step hall (he.trans he2)⟩, by omega, ?_⟩
            exact le_head (ms := [8]) (by repeat (first | exact Out.head rfl rfl | (refine Out.put ?_ rfl) | (refine Out.site ?_ rfl) | (refine Out.killS ?_ rfl))) ⟨(by rfl), (by rfl), trivial⟩ ⟨(by ((show Site.row _ _ _ = Site.row _ _ _; rw [← hs1]; rfl))), trivial⟩ rfl rfl rfl rfl
      ·
        (try simp only [decide_eq_true_eq, decide_eq_false_iff_not, Bool.and_eq_true, Bool.or_eq_true, Bool.and_eq_false_iff, Bool.or_eq_false_iff, Bool.not_eq_true', Bool.not_eq_false', Bool.not_true, Bool.not_false, bif_and, bif_or, Bool.not_not, ne_eq, Decidable.not_not, not_true_eq_false, not_false_eq_true, Int.not_le, Int.not_lt] at hc5)
        have hkn : k = N := by omega
        subst hkn
        have hz3 := alR_all hall
        refine awp_exit ?_
        change Awp _ _ _ _ _
        refine awp_seq ?_
        refine awp_region 3 mixed (by kernel_rfl) ?_
        refine rg_q (q_move (x := .rs _) rfl) ?_
        refine rg_q (q_assign (x := .rs _) rfl) ?_
        refine rg_q (q_assign (x := .d (.v _)) rfl) ?_
        refine rg_nil ?_
        refine aops_nil ?_
        change Awp _ _ _ _ _
        refine awp_ret ?_
        refine ⟨_, (.cons (.tmp (by exact .rs rfl)) (.cons (.tmp (by exact .d _)) .nil)), ?_⟩
        rw [hz2, hz3]; rfl

theorem same_mx (m : Int × List Int) : PC Tryz.prog 22 [.agg (mxC m), .agg (mxC m)] (.v (.bool true)) := by
  have h := sameMatrix_p m m
  rw [same_self] at h; exact h
set_option maxRecDepth 100000 in
theorem benchAlong_p (s : Spc) (st n : Int) : PC Tryz.prog 8 [.agg (spcC s), .v (.int .i64 (st)), .v (.int .i64 (n))] (.v (.bool (true))) := by
  refine pc_of_awpN Tryz.func8 rfl Tryz.ntmps8 (rs := [.tmp 6]) Tryz.results8 (by simp) fun w0 hmine hrnd hpn => ?_
  refine awp_seq ?_
  refine awp_region 2 mixed (by kernel_rfl) ?_
  refine rg_q (q_box rfl (by exact .inr ⟨_, rfl⟩)) ?_
  refine rg_q (q_assign (x := .d (.v _)) rfl) ?_
  refine rg_nil ?_
  refine aops_nil ?_
  change Awp _ _ _ _ _
  refine awp_seq ?_
  refine awp_seq ?_
  refine awp_region 2 mixed (by kernel_rfl) ?_
  refine rg_q (q_call en9 .nil rfl (awake_p)) ?_
  refine rg_q (q_not rfl) ?_
  refine rg_nil ?_
  refine aops_nil ?_
  change Awp _ _ _ _ _
  refine awp_cond rfl (fun hc1 => ?_) (fun hc1 => ?_)
  ·
    simp at hc1
  ·
    (try simp only [decide_eq_true_eq, decide_eq_false_iff_not, Bool.and_eq_true, Bool.or_eq_true, Bool.and_eq_false_iff, Bool.or_eq_false_iff, Bool.not_eq_true', Bool.not_eq_false', Bool.not_true, Bool.not_false, bif_and, bif_or, Bool.not_not, ne_eq, Decidable.not_not, not_true_eq_false, not_false_eq_true, Int.not_le, Int.not_lt] at hc1)
    refine awp_skip ?_
    change Awp _ _ _ _ _
    refine awp_seq ?_
    refine awp_seq ?_
    refine awp_region 11 mixed (by kernel_rfl) ?_
    refine rg_q (q_loadA sz32 rfl rfl rfl) ?_
    refine rg_q (q_call en10 (.cons rfl .nil) rfl (slight_p _)) ?_
    refine rg_q (q_not rfl) ?_
    refine rg_q (q_move (x := .d (.v _)) rfl) ?_
    refine rg_g rfl rfl (fun hG => (q_move (x := .d (.v _)) rfl)) ?_
    refine rg_g rfl rfl (fun hG => (q_gtr rfl rfl)) ?_
    refine rg_g rfl rfl (fun hG => (q_move (x := .d (.v _)) rfl)) ?_
    refine rg_g rfl rfl (fun hG => (q_move (x := .d (.v _)) rfl)) ?_
    refine rg_g rfl rfl (fun hG => (q_leq rfl rfl)) ?_
    refine rg_pickg rfl rfl rfl rfl rfl rfl rfl rfl ?_
    refine rg_pick rfl rfl rfl rfl rfl rfl ?_
    refine rg_nil ?_
    refine aops_nil ?_
    change Awp _ _ _ _ _
    refine awp_cond rfl (fun hc3 => ?_) (fun hc3 => ?_)
    ·
      (try simp only [decide_eq_true_eq, decide_eq_false_iff_not, Bool.and_eq_true, Bool.or_eq_true, Bool.and_eq_false_iff, Bool.or_eq_false_iff, Bool.not_eq_true', Bool.not_eq_false', Bool.not_true, Bool.not_false, bif_and, bif_or, Bool.not_not, ne_eq, Decidable.not_not, not_true_eq_false, not_false_eq_true, Int.not_le, Int.not_lt] at hc3)
      refine awp_seq ?_
      refine awp_region 1 mixed (by kernel_rfl) ?_
      refine rg_q (q_assign (x := .d (.v _)) rfl) ?_
      refine rg_nil ?_
      refine aops_nil ?_
      change Awp _ _ _ _ _
      refine awp_ret ?_
      refine ⟨_, (.cons (.tmp (by exact .d _)) .nil), ?_⟩
      rfl
    ·
      (try simp only [decide_eq_true_eq, decide_eq_false_iff_not, Bool.and_eq_true, Bool.or_eq_true, Bool.and_eq_false_iff, Bool.or_eq_false_iff, Bool.not_eq_true', Bool.not_eq_false', Bool.not_true, Bool.not_false, bif_and, bif_or, Bool.not_not, ne_eq, Decidable.not_not, not_true_eq_false, not_false_eq_true, Int.not_le, Int.not_lt] at hc3)
      have hfw : sliB s = true := by
        cases q : sliB s with
        | true => rfl
        | false => simp [q] at hc3
      obtain ⟨l1, l2, l3⟩ := sli_le hfw
      refine awp_skip ?_
      change Awp _ _ _ _ _
      refine awp_seq ?_
      refine awp_region 10 mixed (by kernel_rfl) ?_
      refine rg_q (q_loadA sz32 rfl rfl rfl) ?_
      refine rg_q (q_call en12 (.cons rfl .nil) rfl (copySpc_p s (by omega) (by omega) (by omega))) ?_
      refine rg_q (q_move (x := .d (.v _)) rfl) ?_
      refine rg_q (q_move (x := .d (.v _)) rfl) ?_
      refine rg_q (q_call en39 (.cons rfl (.cons rfl (.cons rfl .nil))) rfl (along_p s st n)) ?_
      refine rg_q (q_move (x := .d (.tup _)) rfl) ?_
      refine rg_q (q_extract rfl rfl) ?_
      refine rg_q (q_extract rfl rfl) ?_
      refine rg_q (q_assign (x := .d (.sl _ _)) rfl) ?_
      refine rg_q (q_assign (x := .d (.v _)) rfl) ?_
      refine rg_nil ?_
      refine aops_nil ?_
      change Awp _ _ _ _ _
      refine awp_seq ?_
      refine awp_region 3 mixed (by kernel_rfl) ?_
      refine rg_q (q_loadA sz32 rfl rfl rfl) ?_
      refine rg_q (q_call en13 (.cons rfl .nil) rfl (specimenErr_p _)) ?_
      refine rg_q (q_assign (x := .d (.v _)) rfl) ?_
      refine rg_nil ?_
      refine aops_nil ?_
      change Awp _ _ _ _ _
      refine awp_seq ?_
      refine awp_region 1 mixed (by kernel_rfl) ?_
      refine rg_q (q_assign_nil) ?_
      refine rg_nil ?_
      refine aops_nil ?_
      change Awp _ _ _ _ _
      refine awp_seq ?_
      refine awp_seq ?_
      refine awp_region 2 mixed (by kernel_rfl) ?_
      refine rg_q (q_move (x := .d (.v _)) rfl) ?_
      refine rg_q (q_eql rfl rfl) ?_
      refine rg_nil ?_
      refine aops_nil ?_
      change Awp _ _ _ _ _
      refine awp_cond rfl (fun hc8 => ?_) (fun hc8 => ?_)
      ·
        (try simp only [decide_eq_true_eq, decide_eq_false_iff_not, Bool.and_eq_true, Bool.or_eq_true, Bool.and_eq_false_iff, Bool.or_eq_false_iff, Bool.not_eq_true', Bool.not_eq_false', Bool.not_true, Bool.not_false, bif_and, bif_or, Bool.not_not, ne_eq, Decidable.not_not, not_true_eq_false, not_false_eq_true, Int.not_le, Int.not_lt] at hc8)
        have h0 : (ckSpc s).2 = 0 := hc8
        have hz : alR s st n = alR1 s st n := by unfold alR; rw [if_neg (fun q => q h0)]
        refine awp_region 9 mixed (by kernel_rfl) ?_
        refine rg_q (q_loadA sz32 rfl rfl rfl) ?_
        refine rg_q (q_move (x := .d (.v _)) rfl) ?_
        refine rg_q (q_move (x := .d (.v _)) rfl) ?_
        refine rg_q (q_call en40 (.cons rfl (.cons rfl (.cons rfl .nil))) rfl ((by have h := ralong_p s st n h0; rw [← hz] at h; exact h))) ?_
        refine rg_q (q_move (x := .d (.tup _)) rfl) ?_
        refine rg_q (q_extract rfl rfl) ?_
        refine rg_q (q_extract rfl rfl) ?_
        refine rg_q (q_assign (x := .d (.sl _ _)) rfl) ?_
        refine rg_q (q_assign (x := .d (.v _)) rfl) ?_
        refine rg_nil ?_
        refine aops_nil ?_
        change Awp _ _ _ _ _
        refine awp_seq ?_
        refine awp_seq ?_
        refine awp_region 10 mixed (by kernel_rfl) ?_
        refine rg_q (q_move (x := .d (.v _)) rfl) ?_
        refine rg_q (q_move (x := .d (.v _)) rfl) ?_
        refine rg_q (q_neq rfl rfl) ?_
        refine rg_q (q_move (x := .d (.v _)) rfl) ?_
        refine rg_g rfl rfl (fun hG => (q_move (x := .d (.sl _ _)) rfl)) ?_
        refine rg_g rfl rfl (fun hG => (q_len isl85 rfl (by exact len_map _ _))) ?_
        refine rg_g rfl rfl (fun hG => (q_move (x := .d (.sl _ _)) rfl)) ?_
        refine rg_g rfl rfl (fun hG => (q_len isl85 rfl (by exact len_map _ _))) ?_
        refine rg_g rfl rfl (fun hG => (q_neq rfl rfl)) ?_
        refine rg_pick rfl rfl rfl rfl rfl rfl ?_
        refine rg_nil ?_
        refine aops_nil ?_
        change Awp _ _ _ _ _
        refine awp_cond rfl (fun hc10 => ?_) (fun hc10 => ?_)
        ·
          simp at hc10
        ·
          (try simp only [decide_eq_true_eq, decide_eq_false_iff_not, Bool.and_eq_true, Bool.or_eq_true, Bool.and_eq_false_iff, Bool.or_eq_false_iff, Bool.not_eq_true', Bool.not_eq_false', Bool.not_true, Bool.not_false, bif_and, bif_or, Bool.not_not, ne_eq, Decidable.not_not, not_true_eq_false, not_false_eq_true, Int.not_le, Int.not_lt] at hc10)
          refine awp_skip ?_
          change Awp _ _ _ _ _
          refine awp_seq ?_
          refine awp_seq ?_
          refine awp_region 1 mixed (by kernel_rfl) ?_
          refine rg_q (q_assign (x := .d (.v _)) rfl) ?_
          refine rg_nil ?_
          refine aops_nil ?_
          change Awp _ _ _ _ _
          refine awp_block ?_
          refine awp_loopH [6, 11, 54, 55, 56, 57, 58, 59, 60, 61, 62, 63, 64, 65, 66, 67, 68, 69] [] (α := Nat) (fun k => [(11, T.i (k : Int))]) (fun k => []) (fun k => k ≤ (alR s st n).1.length) (fun k => (alR s st n).1.length - k) 0 (Nat.zero_le _) ?_ ?_
          · exact le_head (ms := []) (by repeat (exact Out.refl _)) ⟨(by rfl), trivial⟩ trivial rfl rfl rfl rfl
          ·
            intro k hk
            refine awp_seq ?_
            refine awp_seq ?_
            refine awp_region 4 mixed (by kernel_rfl) ?_
            refine rg_q (q_move (x := .d (.v _)) rfl) ?_
            refine rg_q (q_move (x := .d (.sl _ _)) rfl) ?_
            refine rg_q (q_len isl85 rfl (by exact len_map _ _)) ?_
            refine rg_q (q_lss rfl rfl) ?_
            refine rg_nil ?_
            refine aops_nil ?_
            change Awp _ _ _ _ _
            refine awp_len (t := 55) rfl (fun hl55 => ?_)
            (try simp only [List.length_map] at hl55)
            refine awp_cond rfl (fun hc13 => ?_) (fun hc13 => ?_)
            ·
              (try simp only [decide_eq_true_eq, decide_eq_false_iff_not, Bool.and_eq_true, Bool.or_eq_true, Bool.and_eq_false_iff, Bool.or_eq_false_iff, Bool.not_eq_true', Bool.not_eq_false', Bool.not_true, Bool.not_false, bif_and, bif_or, Bool.not_not, ne_eq, Decidable.not_not, not_true_eq_false, not_false_eq_true, Int.not_le, Int.not_lt] at hc13)
              have hlt : k < (alR s st n).1.length := by omega
              obtain ⟨x, hx⟩ : ∃ x, (alR s st n).1[k]? = some x := ⟨_, List.getElem?_eq_getElem hlt⟩
              refine awp_skip ?_
              change Awp _ _ _ _ _
              refine awp_seq ?_
              refine awp_block ?_
              refine awp_seq ?_
              refine awp_region 10 mixed (by kernel_rfl) ?_
              refine rg_q (q_move (x := .d (.sl _ _)) rfl) ?_
              refine rg_q (q_move (x := .d (.v _)) rfl) ?_
              refine rg_q (q_indexAddr sl85 rfl rfl (by omega) (map_at (by omega) hx)) ?_
              refine rg_q (q_loadA (ds := [_, _]) sz59 rfl rfl rfl) ?_
              refine rg_q (q_move (x := .d (.sl _ _)) rfl) ?_
              refine rg_q (q_move (x := .d (.v _)) rfl) ?_
              refine rg_q (q_indexAddr sl85 rfl rfl (by omega) (map_at (by omega) hx)) ?_
              refine rg_q (q_loadA (ds := [_, _]) sz59 rfl rfl rfl) ?_
              refine rg_q (q_call en22 (.cons rfl (.cons rfl .nil)) rfl (same_mx x)) ?_
              refine rg_q (q_not rfl) ?_
              refine rg_nil ?_
              refine aops_nil ?_
              change Awp _ _ _ _ _
              refine awp_cond rfl (fun hc15 => ?_) (fun hc15 => ?_)
              ·
                simp at hc15
              ·
                (try simp only [decide_eq_true_eq, decide_eq_false_iff_not, Bool.and_eq_true, Bool.or_eq_true, Bool.and_eq_false_iff, Bool.or_eq_false_iff, Bool.not_eq_true', Bool.not_eq_false', Bool.not_true, Bool.not_false, bif_and, bif_or, Bool.not_not, ne_eq, Decidable.not_not, not_true_eq_false, not_false_eq_true, Int.not_le, Int.not_lt] at hc15)
                refine awp_skip ?_
                change Awp _ _ _ _ _
                refine awp_region 3 mixed (by kernel_rfl) ?_
                refine rg_q (q_move (x := .d (.v _)) rfl) ?_
                refine rg_q (q_add rfl rfl (In64.mk (by omega) (by omega))) ?_
                refine rg_q (q_assign (x := .d (.v _)) rfl) ?_
                refine rg_nil ?_
                refine aops_nil ?_
                refine ⟨k + 1, by omega, by omega, ?_⟩
                exact le_head (ms := []) (by repeat (first | exact Out.head rfl rfl | (refine Out.put ?_ rfl))) ⟨(by rfl), trivial⟩ trivial rfl rfl rfl rfl
            ·
              (try simp only [decide_eq_true_eq, decide_eq_false_iff_not, Bool.and_eq_true, Bool.or_eq_true, Bool.and_eq_false_iff, Bool.or_eq_false_iff, Bool.not_eq_true', Bool.not_eq_false', Bool.not_true, Bool.not_false, bif_and, bif_or, Bool.not_not, ne_eq, Decidable.not_not, not_true_eq_false, not_false_eq_true, Int.not_le, Int.not_lt] at hc13)
              refine awp_exit ?_
              change Awp _ _ _ _ _
              refine awp_seq ?_
              refine awp_region 1 mixed (by kernel_rfl) ?_
              refine rg_q (q_assign (x := .d (.v _)) rfl) ?_
              refine rg_nil ?_
              refine aops_nil ?_
              change Awp _ _ _ _ _
              refine awp_ret ?_
              refine ⟨_, (.cons (.tmp (by exact .d _)) .nil), ?_⟩
              rfl
      ·
        (try simp only [decide_eq_true_eq, decide_eq_false_iff_not, Bool.and_eq_true, Bool.or_eq_true, Bool.and_eq_false_iff, Bool.or_eq_false_iff, Bool.not_eq_true', Bool.not_eq_false', Bool.not_true, Bool.not_false, bif_and, bif_or, Bool.not_not, ne_eq, Decidable.not_not, not_true_eq_false, not_false_eq_true, Int.not_le, Int.not_lt] at hc8)
        have h0 : ¬ (ckSpc s).2 = 0 := hc8
        have hz : alR s st n = ([], (ckSpc s).2) := by unfold alR; rw [if_pos h0]
        refine awp_skip ?_
        change Awp _ _ _ _ _
        refine awp_seq ?_
        refine awp_seq ?_
        refine awp_region 10 mixed (by kernel_rfl) ?_
        refine rg_q (q_move (x := .d (.v _)) rfl) ?_
        refine rg_q (q_move (x := .d (.v _)) rfl) ?_
        refine rg_q (q_neq rfl rfl) ?_
        refine rg_q (q_move (x := .d (.v _)) rfl) ?_
        refine rg_g rfl rfl (fun hG => (q_move (x := .d (.sl _ _)) rfl)) ?_
        refine rg_g rfl rfl (fun hG => (q_len isl85 rfl (by exact len_map _ _))) ?_
        refine rg_g rfl rfl (fun hG => (q_move (x := .d (.v _)) rfl)) ?_
        refine rg_g rfl rfl (fun hG => (q_len_nil isl85 rfl)) ?_
        refine rg_g rfl rfl (fun hG => (q_neq rfl rfl)) ?_
        refine rg_pick rfl rfl rfl rfl rfl rfl ?_
        refine rg_nil ?_
        refine aops_nil ?_
        change Awp _ _ _ _ _
        refine awp_cond rfl (fun hc10 => ?_) (fun hc10 => ?_)
        ·
          rw [hz] at hc10; simp at hc10
        ·
          (try simp only [decide_eq_true_eq, decide_eq_false_iff_not, Bool.and_eq_true, Bool.or_eq_true, Bool.and_eq_false_iff, Bool.or_eq_false_iff, Bool.not_eq_true', Bool.not_eq_false', Bool.not_true, Bool.not_false, bif_and, bif_or, Bool.not_not, ne_eq, Decidable.not_not, not_true_eq_false, not_false_eq_true, Int.not_le, Int.not_lt] at hc10)
          refine awp_skip ?_
          change Awp _ _ _ _ _
          refine awp_seq ?_
          refine awp_seq ?_
          refine awp_region 1 mixed (by kernel_rfl) ?_
          refine rg_q (q_assign (x := .d (.v _)) rfl) ?_
          refine rg_nil ?_
          refine aops_nil ?_
          change Awp _ _ _ _ _
          refine awp_block ?_
          refine awp_loopH [6, 11, 54, 55, 56, 57, 58, 59, 60, 61, 62, 63, 64, 65, 66, 67, 68, 69] [] (α := Nat) (fun k => [(11, T.i (k : Int))]) (fun k => []) (fun k => k ≤ (alR s st n).1.length) (fun k => (alR s st n).1.length - k) 0 (Nat.zero_le _) ?_ ?_
          · exact le_head (ms := []) (by repeat (exact Out.refl _)) ⟨(by rfl), trivial⟩ trivial rfl rfl rfl rfl
          ·
            intro k hk
            refine awp_seq ?_
            refine awp_seq ?_
            refine awp_region 4 mixed (by kernel_rfl) ?_
            refine rg_q (q_move (x := .d (.v _)) rfl) ?_
            refine rg_q (q_move (x := .d (.sl _ _)) rfl) ?_
            refine rg_q (q_len isl85 rfl (by exact len_map _ _)) ?_
            refine rg_q (q_lss rfl rfl) ?_
            refine rg_nil ?_
            refine aops_nil ?_
            change Awp _ _ _ _ _
            refine awp_len (t := 55) rfl (fun hl55 => ?_)
            (try simp only [List.length_map] at hl55)
            refine awp_cond rfl (fun hc13 => ?_) (fun hc13 => ?_)
            ·
              rw [hz] at hc13; exact absurd (of_decide_eq_true hc13) (by simp)
            ·
              (try simp only [decide_eq_true_eq, decide_eq_false_iff_not, Bool.and_eq_true, Bool.or_eq_true, Bool.and_eq_false_iff, Bool.or_eq_false_iff, Bool.not_eq_true', Bool.not_eq_false', Bool.not_true, Bool.not_false, bif_and, bif_or, Bool.not_not, ne_eq, Decidable.not_not, not_true_eq_false, not_false_eq_true, Int.not_le, Int.not_lt] at hc13)
              refine awp_exit ?_
              change Awp _ _ _ _ _
              refine awp_seq ?_
              refine awp_region 1 mixed (by kernel_rfl) ?_
              refine rg_q (q_assign (x := .d (.v _)) rfl) ?_
              refine rg_nil ?_
              refine aops_nil ?_
              change Awp _ _ _ _ _
              refine awp_ret ?_
              refine ⟨_, (.cons (.tmp (by exact .d _)) .nil), ?_⟩
              rfl
end Go.Proofs.YtblbnagdhcpnoaaGreat.Am.M
