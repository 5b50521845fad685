/- Contracts over the abstract machine: TuneTables. Conditions: none. -/
import Derived.Test.YtgdcidbpadhkpaaC10
set_option linter.unusedVariables false
set_option linter.unusedSimpArgs false
namespace Go.Proofs.Ytgdcidbpadhkpaa.Am.M
open Go

theorem encS_one (n : Int) : encS (n, 1) = (n, n) := by simp [encS, ceilI]
theorem depE_row {l : List (Int × Int)} {k : Nat} {x : Int × Int} (hck : (ckT l).2 = 0) (hx : l[k]? = some x) : depE l x.1 = 0 := by
  have hT := ckT_tab hck
  have hpos := hT.pos
  obtain ⟨x0, hx0⟩ : ∃ x, l[0]? = some x := ⟨_, List.getElem?_eq_getElem hpos⟩
  obtain ⟨z, hz⟩ : ∃ z, l[l.length - 1]? = some z := ⟨_, List.getElem?_eq_getElem (by omega)⟩
  have hk := (List.getElem?_eq_some_iff.1 hx).1
  obtain ⟨a1, a2, a3, a4⟩ := hT.rows x (List.mem_of_getElem? hx)
  unfold depE
  rw [getD_at hx0, getD_at hz, if_neg (by simp [inR]; omega), if_neg]
  have h1 : x0.1 ≤ x.1 := by
    by_cases h : k = 0
    · subst h; rw [hx0] at hx; cases hx; omega
    · have := asc_lt hT.asc hx0 hx (by omega); omega
  have h2 : x.1 ≤ z.1 := by
    by_cases h : k = l.length - 1
    · subst h; rw [hz] at hx; cases hx; omega
    · have := asc_lt hT.asc hx hz (by omega); omega
  simp [inR]; omega
theorem ckT_fst {l : List (Int × Int)} : (ckT l).2 = 0 → (ckT l).1 = 0 := by
  have key : ∀ (l : List (Int × Int)) (i : Nat) (p : Option Int), (ckFrom i p l).2 = 0 → (ckFrom i p l).1 = 0 := by
    intro l
    induction l with
    | nil => intro i p _; rfl
    | cons x xs ih =>
      intro i p h
      unfold ckFrom at h ⊢
      split at h
      · rename_i hb; exact absurd h hb
      · rename_i hb
        rw [if_neg hb]
        split at h
        · simp at h
        · rename_i ho; rw [if_neg ho]; exact ih _ _ h
  intro h
  unfold ckT at h ⊢
  split at h
  · simp at h
  · rename_i h1
    rw [if_neg h1]
    split at h
    · simp at h
    · rename_i h2; rw [if_neg h2]; exact key _ _ _ h
theorem rngS_err (p : (Int × Int) × Int) : (rngS p).2 = p.2 := by unfold rngS; split; rfl; rename_i h; simp at h; simp [h]

theorem echo_ck {l : List (Int × Int)} {d : Int} (h : (ckT l).2 ≠ 0) : (echoS l d).2 = (ckT l).2 := by unfold echoS; rw [if_pos h]
set_option maxRecDepth 100000 in
theorem tuneTables_p (l : List (Int × Int)) (d t : Int) : PC Try.prog 6 [.sl 2 (l.map rowC), .v (.int .i64 (d)), .v (.int .i64 (t))] (.v (.bool true)) := by
  refine pc_of_awp Try.func6 rfl Try.ntmps6 (rs := [.tmp 6]) Try.results6 (by simp) fun w0 => ?_
  refine awp_seq ?_
  refine awp_region 1 mixed (by kernel_rfl) ?_
  refine rg_q (q_assign (x := .d (.v _)) rfl) ?_
  refine rg_nil ?_
  refine aops_nil ?_
  change Awp _ _ _ _ _
  refine awp_seq ?_
  refine awp_seq ?_
  refine awp_region 2 mixed (by kernel_rfl) ?_
  first | refine rg_q (q_call en16 .nil rfl (awake_p)) ?_ | refine rg_q (q_callF en16 .nil rfl (awake_p) (by first | exact .v _ | exact D.Flat.tupF (by repeat first | exact trivial | refine ⟨.v _, ?_⟩) | exact D.Flat.aggF (by repeat first | exact trivial | refine ⟨.v _, ?_⟩))) ?_
  refine rg_q (q_not rfl) ?_
  refine rg_nil ?_
  refine aops_nil ?_
  change Awp _ _ _ _ _
  refine awp_cond rfl (fun hc1 => ?_) (fun hc1 => ?_)
  ·
    exfalso; (try simp only [decide_eq_true_eq, decide_eq_false_iff_not, Bool.and_eq_true, Bool.or_eq_true, Bool.and_eq_false_iff, Bool.or_eq_false_iff, Bool.not_eq_true', Bool.not_eq_false', Bool.not_true, Bool.not_false, bif_and, bif_or, Bool.not_not, ne_eq, Decidable.not_not, not_true_eq_false, not_false_eq_true, Int.not_le, Int.not_lt] at hc1); first | omega | simp_all
  ·
    (try simp only [decide_eq_true_eq, decide_eq_false_iff_not, Bool.and_eq_true, Bool.or_eq_true, Bool.and_eq_false_iff, Bool.or_eq_false_iff, Bool.not_eq_true', Bool.not_eq_false', Bool.not_true, Bool.not_false, bif_and, bif_or, Bool.not_not, ne_eq, Decidable.not_not, not_true_eq_false, not_false_eq_true, Int.not_le, Int.not_lt] at hc1)
    refine awp_skip ?_
    change Awp _ _ _ _ _
    refine awp_seq ?_
    refine awp_seq ?_
    refine awp_region 3 mixed (by kernel_rfl) ?_
    first | refine rg_q (q_move (x := .d (.sl _ _)) rfl) ?_ | refine rg_q (q_move (x := .rs _) rfl) ?_ | refine rg_q (q_move (x := .d (.v _)) rfl) ?_
    first | refine rg_q (q_call en17 (.cons rfl .nil) rfl (rows_p rowC _)) ?_ | refine rg_q (q_callF en17 (.cons (by first | exact .d _ | exact .rs rfl | exact .ref rfl | exact .nil _ | exact .tref rfl (by repeat (first | exact .nil | refine .cons (.d _ rfl) ?_ | refine .cons (.rs rfl) ?_))) .nil) rfl (rows_p rowC _) (by first | exact .v _ | exact D.Flat.tupF (by repeat first | exact trivial | refine ⟨.v _, ?_⟩) | exact D.Flat.aggF (by repeat first | exact trivial | refine ⟨.v _, ?_⟩))) ?_
    refine rg_q (q_not rfl) ?_
    refine rg_nil ?_
    refine aops_nil ?_
    change Awp _ _ _ _ _
    refine awp_cond rfl (fun hc3 => ?_) (fun hc3 => ?_)
    ·
      (try simp only [decide_eq_true_eq, decide_eq_false_iff_not, Bool.and_eq_true, Bool.or_eq_true, Bool.and_eq_false_iff, Bool.or_eq_false_iff, Bool.not_eq_true', Bool.not_eq_false', Bool.not_true, Bool.not_false, bif_and, bif_or, Bool.not_not, ne_eq, Decidable.not_not, not_true_eq_false, not_false_eq_true, Int.not_le, Int.not_lt] at hc3)
      refine awp_seq ?_
      refine awp_region 1 mixed (by kernel_rfl) ?_
      refine rg_q (q_assign (x := .d (.v _)) rfl) ?_
      refine rg_nil ?_
      refine aops_nil ?_
      change Awp _ _ _ _ _
      refine awp_ret ?_
      refine ⟨_, (.cons (.tmp (by first | exact .d _ | exact .rs rfl | exact .ref rfl | exact .tref rfl (.cons (.d _ rfl) (.cons (.rs rfl) .nil)))) .nil), ?_⟩
      rfl
    ·
      (try simp only [decide_eq_true_eq, decide_eq_false_iff_not, Bool.and_eq_true, Bool.or_eq_true, Bool.and_eq_false_iff, Bool.or_eq_false_iff, Bool.not_eq_true', Bool.not_eq_false', Bool.not_true, Bool.not_false, bif_and, bif_or, Bool.not_not, ne_eq, Decidable.not_not, not_true_eq_false, not_false_eq_true, Int.not_le, Int.not_lt] at hc3)
      have hl : l.length ≤ 1000 := by omega
      have hE := EchoAt_p l d
      have hG := GainAt_p l d t
      obtain ⟨E, hEe⟩ : ∃ E, rngS (echoS l d) = E := ⟨_, rfl⟩
      obtain ⟨G, hGe⟩ : ∃ G, gainS (echoS l d) t 1000 = G := ⟨_, rfl⟩
      rw [hEe] at hE
      rw [hGe] at hG
      obtain ⟨⟨x1, x2⟩, xe⟩ := E
      obtain ⟨⟨g1, g2⟩, ge⟩ := G
      simp only at hE hG
      refine awp_skip ?_
      change Awp _ _ _ _ _
      refine awp_seq ?_
      refine awp_region 8 mixed (by kernel_rfl) ?_
      first | refine rg_q (q_move (x := .d (.sl _ _)) rfl) ?_ | refine rg_q (q_move (x := .rs _) rfl) ?_ | refine rg_q (q_move (x := .d (.v _)) rfl) ?_
      first | refine rg_q (q_call en19 (.cons rfl .nil) rfl (copyTable_p _ (by omega))) ?_ | refine rg_q (q_callF en19 (.cons (by first | exact .d _ | exact .rs rfl | exact .ref rfl | exact .nil _ | exact .tref rfl (by repeat (first | exact .nil | refine .cons (.d _ rfl) ?_ | refine .cons (.rs rfl) ?_))) .nil) rfl (copyTable_p _ (by omega)) (by first | exact .v _ | exact D.Flat.tupF (by repeat first | exact trivial | refine ⟨.v _, ?_⟩) | exact D.Flat.aggF (by repeat first | exact trivial | refine ⟨.v _, ?_⟩))) ?_
      first | refine rg_q (q_call en34 (.cons rfl .nil) rfl (checkTable_p _)) ?_ | refine rg_q (q_callF en34 (.cons (by first | exact .d _ | exact .rs rfl | exact .ref rfl | exact .nil _ | exact .tref rfl (by repeat (first | exact .nil | refine .cons (.d _ rfl) ?_ | refine .cons (.rs rfl) ?_))) .nil) rfl (checkTable_p _) (by first | exact .v _ | exact D.Flat.tupF (by repeat first | exact trivial | refine ⟨.v _, ?_⟩) | exact D.Flat.aggF (by repeat first | exact trivial | refine ⟨.v _, ?_⟩))) ?_
      refine rg_q (q_move (x := .d (.tup _)) rfl) ?_
      refine rg_q (q_extract rfl rfl) ?_
      refine rg_q (q_extract rfl rfl) ?_
      refine rg_q (q_assign (x := .d (.v _)) rfl) ?_
      refine rg_q (q_assign (x := .d (.v _)) rfl) ?_
      refine rg_nil ?_
      refine aops_nil ?_
      change Awp _ _ _ _ _
      refine awp_seq ?_
      refine awp_region 7 mixed (by kernel_rfl) ?_
      first | refine rg_q (q_move (x := .d (.sl _ _)) rfl) ?_ | refine rg_q (q_move (x := .rs _) rfl) ?_ | refine rg_q (q_move (x := .d (.v _)) rfl) ?_
      first | refine rg_q (q_call en19 (.cons rfl .nil) rfl (copyTable_p _ (by omega))) ?_ | refine rg_q (q_callF en19 (.cons (by first | exact .d _ | exact .rs rfl | exact .ref rfl | exact .nil _ | exact .tref rfl (by repeat (first | exact .nil | refine .cons (.d _ rfl) ?_ | refine .cons (.rs rfl) ?_))) .nil) rfl (copyTable_p _ (by omega)) (by first | exact .v _ | exact D.Flat.tupF (by repeat first | exact trivial | refine ⟨.v _, ?_⟩) | exact D.Flat.aggF (by repeat first | exact trivial | refine ⟨.v _, ?_⟩))) ?_
      refine rg_q (q_move (x := .d (.v _)) rfl) ?_
      first | refine rg_q (q_call en35 (.cons rfl (.cons rfl .nil)) rfl (hE)) ?_ | refine rg_q (q_callF en35 (.cons (by first | exact .d _ | exact .rs rfl | exact .ref rfl | exact .nil _ | exact .tref rfl (by repeat (first | exact .nil | refine .cons (.d _ rfl) ?_ | refine .cons (.rs rfl) ?_))) (.cons (by first | exact .d _ | exact .rs rfl | exact .ref rfl | exact .nil _ | exact .tref rfl (by repeat (first | exact .nil | refine .cons (.d _ rfl) ?_ | refine .cons (.rs rfl) ?_))) .nil)) rfl (hE) (by first | exact .v _ | exact D.Flat.tupF (by repeat first | exact trivial | refine ⟨.v _, ?_⟩) | exact D.Flat.aggF (by repeat first | exact trivial | refine ⟨.v _, ?_⟩))) ?_
      refine rg_q (q_move (x := .d (.tup _)) rfl) ?_
      refine rg_q (q_extract rfl rfl) ?_
      refine rg_q (q_extract rfl rfl) ?_
      refine rg_nil ?_
      refine aops_alloc zr52 rfl rfl rfl ?_
      first | refine aops_store sz52 rfl rfl (by first | exact .inl rfl | exact .inr ⟨_, rfl⟩) rfl rfl (by first | decide | simp) rfl ?_ | refine aops_storeT (z := .rs _) sz52 rfl rfl rfl rfl (by first | decide | simp) rfl ?_ | refine aops_storeT (z := .d _) sz52 rfl rfl rfl rfl (by first | decide | simp) rfl ?_ | refine aops_storeTA sz52 rfl rfl (by first | exact .inl rfl | exact .inr ⟨_, rfl⟩) rfl rfl (by first | decide | simp) rfl ?_
      refine aops_q rfl (q_assign (x := .d (.v _)) rfl) ?_
      refine aops_nil ?_
      change Awp _ _ _ _ _
      refine awp_seq ?_
      refine awp_region 8 mixed (by kernel_rfl) ?_
      first | refine rg_q (q_move (x := .d (.sl _ _)) rfl) ?_ | refine rg_q (q_move (x := .rs _) rfl) ?_ | refine rg_q (q_move (x := .d (.v _)) rfl) ?_
      first | refine rg_q (q_call en19 (.cons rfl .nil) rfl (copyTable_p _ (by omega))) ?_ | refine rg_q (q_callF en19 (.cons (by first | exact .d _ | exact .rs rfl | exact .ref rfl | exact .nil _ | exact .tref rfl (by repeat (first | exact .nil | refine .cons (.d _ rfl) ?_ | refine .cons (.rs rfl) ?_))) .nil) rfl (copyTable_p _ (by omega)) (by first | exact .v _ | exact D.Flat.tupF (by repeat first | exact trivial | refine ⟨.v _, ?_⟩) | exact D.Flat.aggF (by repeat first | exact trivial | refine ⟨.v _, ?_⟩))) ?_
      refine rg_q (q_move (x := .d (.v _)) rfl) ?_
      refine rg_q (q_move (x := .d (.v _)) rfl) ?_
      first | refine rg_q (q_call en36 (.cons rfl (.cons rfl (.cons rfl .nil))) rfl (hG)) ?_ | refine rg_q (q_callF en36 (.cons (by first | exact .d _ | exact .rs rfl | exact .ref rfl | exact .nil _ | exact .tref rfl (by repeat (first | exact .nil | refine .cons (.d _ rfl) ?_ | refine .cons (.rs rfl) ?_))) (.cons (by first | exact .d _ | exact .rs rfl | exact .ref rfl | exact .nil _ | exact .tref rfl (by repeat (first | exact .nil | refine .cons (.d _ rfl) ?_ | refine .cons (.rs rfl) ?_))) (.cons (by first | exact .d _ | exact .rs rfl | exact .ref rfl | exact .nil _ | exact .tref rfl (by repeat (first | exact .nil | refine .cons (.d _ rfl) ?_ | refine .cons (.rs rfl) ?_))) .nil))) rfl (hG) (by first | exact .v _ | exact D.Flat.tupF (by repeat first | exact trivial | refine ⟨.v _, ?_⟩) | exact D.Flat.aggF (by repeat first | exact trivial | refine ⟨.v _, ?_⟩))) ?_
      refine rg_q (q_move (x := .d (.tup _)) rfl) ?_
      refine rg_q (q_extract rfl rfl) ?_
      refine rg_q (q_extract rfl rfl) ?_
      refine rg_nil ?_
      refine aops_alloc zr52 rfl rfl rfl ?_
      first | refine aops_store sz52 rfl rfl (by first | exact .inl rfl | exact .inr ⟨_, rfl⟩) rfl rfl (by first | decide | simp) rfl ?_ | refine aops_storeT (z := .rs _) sz52 rfl rfl rfl rfl (by first | decide | simp) rfl ?_ | refine aops_storeT (z := .d _) sz52 rfl rfl rfl rfl (by first | decide | simp) rfl ?_ | refine aops_storeTA sz52 rfl rfl (by first | exact .inl rfl | exact .inr ⟨_, rfl⟩) rfl rfl (by first | decide | simp) rfl ?_
      refine aops_q rfl (q_assign (x := .d (.v _)) rfl) ?_
      refine aops_nil ?_
      change Awp _ _ _ _ _
      refine awp_seq ?_
      refine awp_region 7 mixed (by kernel_rfl) ?_
      first | refine rg_q (q_move (x := .d (.sl _ _)) rfl) ?_ | refine rg_q (q_move (x := .rs _) rfl) ?_ | refine rg_q (q_move (x := .d (.v _)) rfl) ?_
      first | refine rg_q (q_call en20 (.cons rfl .nil) rfl (rcheckTable_p _)) ?_ | refine rg_q (q_callF en20 (.cons (by first | exact .d _ | exact .rs rfl | exact .ref rfl | exact .nil _ | exact .tref rfl (by repeat (first | exact .nil | refine .cons (.d _ rfl) ?_ | refine .cons (.rs rfl) ?_))) .nil) rfl (rcheckTable_p _) (by first | exact .v _ | exact D.Flat.tupF (by repeat first | exact trivial | refine ⟨.v _, ?_⟩) | exact D.Flat.aggF (by repeat first | exact trivial | refine ⟨.v _, ?_⟩))) ?_
      refine rg_q (q_move (x := .d (.tup _)) rfl) ?_
      refine rg_q (q_extract rfl rfl) ?_
      refine rg_q (q_extract rfl rfl) ?_
      refine rg_q (q_assign (x := .d (.v _)) rfl) ?_
      refine rg_q (q_assign (x := .d (.v _)) rfl) ?_
      refine rg_nil ?_
      refine aops_nil ?_
      change Awp _ _ _ _ _
      refine awp_seq ?_
      refine awp_seq ?_
      refine awp_region 8 mixed (by kernel_rfl) ?_
      refine rg_q (q_move (x := .d (.v _)) rfl) ?_
      refine rg_q (q_move (x := .d (.v _)) rfl) ?_
      refine rg_q (q_neq rfl rfl) ?_
      refine rg_q (q_move (x := .d (.v _)) rfl) ?_
      refine rg_g rfl rfl (fun hG => (q_move (x := .d (.v _)) rfl)) ?_
      refine rg_g rfl rfl (fun hG => (q_move (x := .d (.v _)) rfl)) ?_
      refine rg_g rfl rfl (fun hG => (q_neq rfl rfl)) ?_
      first | refine rg_pick rfl rfl rfl rfl rfl rfl ?_ | refine rg_q (q_pick rfl rfl rfl) ?_
      refine rg_nil ?_
      refine aops_nil ?_
      change Awp _ _ _ _ _
      refine awp_cond rfl (fun hc9 => ?_) (fun hc9 => ?_)
      ·
        exfalso; (try simp only [decide_eq_true_eq, decide_eq_false_iff_not, Bool.and_eq_true, Bool.or_eq_true, Bool.and_eq_false_iff, Bool.or_eq_false_iff, Bool.not_eq_true', Bool.not_eq_false', Bool.not_true, Bool.not_false, bif_and, bif_or, Bool.not_not, ne_eq, Decidable.not_not, not_true_eq_false, not_false_eq_true, Int.not_le, Int.not_lt] at hc9); first | omega | simp_all
      ·
        (try simp only [decide_eq_true_eq, decide_eq_false_iff_not, Bool.and_eq_true, Bool.or_eq_true, Bool.and_eq_false_iff, Bool.or_eq_false_iff, Bool.not_eq_true', Bool.not_eq_false', Bool.not_true, Bool.not_false, bif_and, bif_or, Bool.not_not, ne_eq, Decidable.not_not, not_true_eq_false, not_false_eq_true, Int.not_le, Int.not_lt] at hc9)
        refine awp_skip ?_
        change Awp _ _ _ _ _
        refine awp_seq ?_
        refine awp_seq ?_
        refine awp_region 2 mixed (by kernel_rfl) ?_
        refine rg_q (q_move (x := .d (.v _)) rfl) ?_
        refine rg_q (q_eql rfl rfl) ?_
        refine rg_nil ?_
        refine aops_nil ?_
        change Awp _ _ _ _ _
        refine awp_cond rfl (fun hc11 => ?_) (fun hc11 => ?_)
        ·
          (try simp only [decide_eq_true_eq, decide_eq_false_iff_not, Bool.and_eq_true, Bool.or_eq_true, Bool.and_eq_false_iff, Bool.or_eq_false_iff, Bool.not_eq_true', Bool.not_eq_false', Bool.not_true, Bool.not_false, bif_and, bif_or, Bool.not_not, ne_eq, Decidable.not_not, not_true_eq_false, not_false_eq_true, Int.not_le, Int.not_lt] at hc11)
          have hck : (ckT l).2 = 0 := hc11
          have hpos := (ckT_tab hck).pos
          have he := echo_dep (d := d) hck
          refine awp_region 4 mixed (by kernel_rfl) ?_
          first | refine rg_q (q_move (x := .d (.sl _ _)) rfl) ?_ | refine rg_q (q_move (x := .rs _) rfl) ?_ | refine rg_q (q_move (x := .d (.v _)) rfl) ?_
          refine rg_q (q_move (x := .d (.v _)) rfl) ?_
          first | refine rg_q (q_call en37 (.cons rfl (.cons rfl .nil)) rfl (DepthErr_p _ _ (by omega) (by omega))) ?_ | refine rg_q (q_callF en37 (.cons (by first | exact .d _ | exact .rs rfl | exact .ref rfl | exact .nil _ | exact .tref rfl (by repeat (first | exact .nil | refine .cons (.d _ rfl) ?_ | refine .cons (.rs rfl) ?_))) (.cons (by first | exact .d _ | exact .rs rfl | exact .ref rfl | exact .nil _ | exact .tref rfl (by repeat (first | exact .nil | refine .cons (.d _ rfl) ?_ | refine .cons (.rs rfl) ?_))) .nil)) rfl (DepthErr_p _ _ (by omega) (by omega)) (by first | exact .v _ | exact D.Flat.tupF (by repeat first | exact trivial | refine ⟨.v _, ?_⟩) | exact D.Flat.aggF (by repeat first | exact trivial | refine ⟨.v _, ?_⟩))) ?_
          refine rg_q (q_assign (x := .d (.v _)) rfl) ?_
          refine rg_nil ?_
          refine aops_nil ?_
          change Awp _ _ _ _ _
          refine awp_seq ?_
          refine awp_seq ?_
          refine awp_region 2 mixed (by kernel_rfl) ?_
          refine rg_q (q_move (x := .d (.v _)) rfl) ?_
          refine rg_q (q_neq rfl rfl) ?_
          refine rg_nil ?_
          refine aops_nil ?_
          change Awp _ _ _ _ _
          refine awp_cond rfl (fun hc13 => ?_) (fun hc13 => ?_)
          ·
            (try simp only [decide_eq_true_eq, decide_eq_false_iff_not, Bool.and_eq_true, Bool.or_eq_true, Bool.and_eq_false_iff, Bool.or_eq_false_iff, Bool.not_eq_true', Bool.not_eq_false', Bool.not_true, Bool.not_false, bif_and, bif_or, Bool.not_not, ne_eq, Decidable.not_not, not_true_eq_false, not_false_eq_true, Int.not_le, Int.not_lt] at hc13)
            have hb : (echoS l d).2 ≠ 0 := by rw [he]; exact hc13
            rw [rng_bad hb, he] at hEe
            rw [gain_bad hb, he] at hGe
            cases hEe
            cases hGe
            refine awp_seq ?_
            refine awp_region 19 mixed (by kernel_rfl) ?_
            refine rg_q (q_move (x := .d (.v _)) rfl) ?_
            refine rg_q (q_move (x := .d (.v _)) rfl) ?_
            refine rg_q (q_eql rfl rfl) ?_
            refine rg_q (q_move (x := .d (.v _)) rfl) ?_
            refine rg_g rfl rfl (fun hG => (q_move (x := .d (.v _)) rfl)) ?_
            refine rg_g rfl rfl (fun hG => (q_move (x := .d (.v _)) rfl)) ?_
            refine rg_g rfl rfl (fun hG => (q_eql rfl rfl)) ?_
            first | refine rg_pick rfl rfl rfl rfl rfl rfl ?_ | refine rg_q (q_pick rfl rfl rfl) ?_
            refine rg_q (q_move (x := .d (.v _)) rfl) ?_
            first | refine rg_g rfl rfl (fun hG => (q_loadA (ds := [_, _]) sz52 rfl rfl rfl)) ?_ | refine rg_g rfl rfl (fun hG => (q_load_refA (ds := [_, _]) sz52 rfl rfl rfl rfl)) ?_
            refine rg_g rfl rfl (fun hG => (q_build (cs := [_, _]) pl52 zr52 rfl .nil trivial rfl)) ?_
            refine rg_g rfl rfl (fun hG => (q_eqlI (xs := [_, _]) (ys := [_, _]) eqi52 rfl rfl rfl rfl)) ?_
            first | refine rg_pick rfl rfl rfl rfl rfl rfl ?_ | refine rg_q (q_pick rfl rfl rfl) ?_
            refine rg_q (q_move (x := .d (.v _)) rfl) ?_
            first | refine rg_g rfl rfl (fun hG => (q_loadA (ds := [_, _]) sz52 rfl rfl rfl)) ?_ | refine rg_g rfl rfl (fun hG => (q_load_refA (ds := [_, _]) sz52 rfl rfl rfl rfl)) ?_
            refine rg_g rfl rfl (fun hG => (q_build (cs := [_, _]) pl52 zr52 rfl .nil trivial rfl)) ?_
            refine rg_g rfl rfl (fun hG => (q_eqlI (xs := [_, _]) (ys := [_, _]) eqi52 rfl rfl rfl rfl)) ?_
            first | refine rg_pick rfl rfl rfl rfl rfl rfl ?_ | refine rg_q (q_pick rfl rfl rfl) ?_
            refine rg_q (q_assign (x := .d (.v _)) rfl) ?_
            refine rg_nil ?_
            refine aops_nil ?_
            change Awp _ _ _ _ _
            refine awp_ret ?_
            refine ⟨_, (.cons (.tmp (by first | exact .d _ | exact .rs rfl | exact .ref rfl | exact .tref rfl (.cons (.d _ rfl) (.cons (.rs rfl) .nil)))) .nil), ?_⟩
            simp [retD]
          ·
            (try simp only [decide_eq_true_eq, decide_eq_false_iff_not, Bool.and_eq_true, Bool.or_eq_true, Bool.and_eq_false_iff, Bool.or_eq_false_iff, Bool.not_eq_true', Bool.not_eq_false', Bool.not_true, Bool.not_false, bif_and, bif_or, Bool.not_not, ne_eq, Decidable.not_not, not_true_eq_false, not_false_eq_true, Int.not_le, Int.not_lt] at hc13)
            have hd : depE l d = 0 := hc13
            rw [rng_law hck hd] at hEe
            cases hEe
            refine awp_skip ?_
            change Awp _ _ _ _ _
            refine awp_seq ?_
            refine awp_seq ?_
            refine awp_region 9 mixed (by kernel_rfl) ?_
            refine rg_q (q_move (x := .d (.v _)) rfl) ?_
            refine rg_q (q_neq rfl rfl) ?_
            refine rg_q (q_move (x := .d (.v _)) rfl) ?_
            first | refine rg_g rfl rfl (fun hG => (q_loadA (ds := [_, _]) sz52 rfl rfl rfl)) ?_ | refine rg_g rfl rfl (fun hG => (q_load_refA (ds := [_, _]) sz52 rfl rfl rfl rfl)) ?_
            first | refine rg_g rfl rfl (fun hG => (q_move (x := .d (.sl _ _)) rfl)) ?_ | refine rg_g rfl rfl (fun hG => (q_move (x := .rs _) rfl)) ?_ | refine rg_g rfl rfl (fun hG => (q_move (x := .d (.v _)) rfl)) ?_
            refine rg_g rfl rfl (fun hG => (q_move (x := .d (.v _)) rfl)) ?_
            first | refine rg_g rfl rfl (fun hG => (q_call en38 (.cons rfl (.cons rfl .nil)) rfl (rEchoAt_p l d hck hd))) ?_ | refine rg_g rfl rfl (fun hG => (q_callF en38 (.cons (by first | exact .d _ | exact .rs rfl | exact .ref rfl | exact .nil _ | exact .tref rfl (by repeat (first | exact .nil | refine .cons (.d _ rfl) ?_ | refine .cons (.rs rfl) ?_))) (.cons (by first | exact .d _ | exact .rs rfl | exact .ref rfl | exact .nil _ | exact .tref rfl (by repeat (first | exact .nil | refine .cons (.d _ rfl) ?_ | refine .cons (.rs rfl) ?_))) .nil)) rfl (rEchoAt_p l d hck hd) (by first | exact .v _ | exact D.Flat.tupF (by repeat first | exact trivial | refine ⟨.v _, ?_⟩) | exact D.Flat.aggF (by repeat first | exact trivial | refine ⟨.v _, ?_⟩)))) ?_
            refine rg_g rfl rfl (fun hG => (q_neqI (xs := [_, _]) (ys := [_, _]) eqi52 rfl rfl rfl rfl)) ?_
            first | refine rg_pick rfl rfl rfl rfl rfl rfl ?_ | refine rg_q (q_pick rfl rfl rfl) ?_
            refine rg_nil ?_
            refine aops_nil ?_
            change Awp _ _ _ _ _
            refine awp_cond rfl (fun hc15 => ?_) (fun hc15 => ?_)
            ·
              simp [encS] at hc15
            ·
              (try simp only [decide_eq_true_eq, decide_eq_false_iff_not, Bool.and_eq_true, Bool.or_eq_true, Bool.and_eq_false_iff, Bool.or_eq_false_iff, Bool.not_eq_true', Bool.not_eq_false', Bool.not_true, Bool.not_false, bif_and, bif_or, Bool.not_not, ne_eq, Decidable.not_not, not_true_eq_false, not_false_eq_true, Int.not_le, Int.not_lt] at hc15)
              refine awp_skip ?_
              change Awp _ _ _ _ _
              refine awp_seq ?_
              refine awp_seq ?_
              refine awp_region 1 mixed (by kernel_rfl) ?_
              refine rg_q (q_assign (x := .d (.v _)) rfl) ?_
              refine rg_nil ?_
              refine aops_nil ?_
              change Awp _ _ _ _ _
              refine awp_block ?_
              refine awp_loopH [6, 15, 16, 17, 91, 92, 93, 94, 95, 96, 97, 98, 99, 100, 101, 102, 103, 104, 105, 106, 107, 108, 109, 110, 111, 112, 113, 114, 115, 116, 117, 118, 119, 120, 121, 122, 123, 124] [] (α := Nat) (fun k => [(15, T.i (k : Int))]) (fun k => []) (fun k => k ≤ l.length) (fun k => l.length - k) 0 (Nat.zero_le _) ?_ ?_
              · exact le_head (ms := []) (by repeat (first | exact Out.refl _ | exact Out.head rfl rfl | (refine Out.put ?_ rfl) | (refine Out.site ?_ rfl) | (refine Out.putn ?_) | (refine Out.headIn ?_ rfl rfl rfl) | (refine Out.called ?_ rfl rfl))) ⟨(by first | rfl | (simp; done)), trivial⟩ trivial rfl rfl rfl rfl
              ·
                intro k hk
                refine awp_seq ?_
                refine awp_seq ?_
                refine awp_region 4 mixed (by kernel_rfl) ?_
                refine rg_q (q_move (x := .d (.v _)) rfl) ?_
                first | refine rg_q (q_move (x := .d (.sl _ _)) rfl) ?_ | refine rg_q (q_move (x := .rs _) rfl) ?_ | refine rg_q (q_move (x := .d (.v _)) rfl) ?_
                first | refine rg_q (q_len isl22 rfl (by first | exact len_map _ _ | rfl)) ?_ | refine rg_q (q_len_rs isl22 rfl rfl) ?_ | refine rg_q (q_len_nil isl22 rfl) ?_
                refine rg_q (q_lss rfl rfl) ?_
                refine rg_nil ?_
                refine aops_nil ?_
                change Awp _ _ _ _ _
                first | refine awp_len (t := 92) rfl (fun hl92 => ?_) | skip
                (try simp only [List.length_map] at hl92)
                refine awp_cond rfl (fun hc18 => ?_) (fun hc18 => ?_)
                ·
                  (try simp only [decide_eq_true_eq, decide_eq_false_iff_not, Bool.and_eq_true, Bool.or_eq_true, Bool.and_eq_false_iff, Bool.or_eq_false_iff, Bool.not_eq_true', Bool.not_eq_false', Bool.not_true, Bool.not_false, bif_and, bif_or, Bool.not_not, ne_eq, Decidable.not_not, not_true_eq_false, not_false_eq_true, Int.not_le, Int.not_lt] at hc18)
                  have hlt : k < l.length := by omega
                  obtain ⟨x, hx⟩ : ∃ x, l[k]? = some x := ⟨_, List.getElem?_eq_getElem hlt⟩
                  have hdr := depE_row hck hx
                  have hEr := EchoAt_p l x.1
                  rw [rng_law hck hdr, refQ_at (ckT_tab hck) hx rfl, encS_one] at hEr
                  refine awp_skip ?_
                  change Awp _ _ _ _ _
                  refine awp_seq ?_
                  refine awp_block ?_
                  refine awp_seq ?_
                  refine awp_regionM 14 [none, none, none, none, none, none, none, none, none, none, none, some 16, some 16, none] mixed (by kernel_rfl) ?_
                  first | refine rgm_q rfl (q_move (x := .d (.sl _ _)) rfl) ?_ | refine rgm_q rfl (q_move (x := .rs _) rfl) ?_ | refine rgm_q rfl (q_move (x := .d (.v _)) rfl) ?_
                  first | refine rgm_q rfl (q_call en19 (.cons rfl .nil) rfl (copyTable_p _ (by omega))) ?_ | refine rgm_q rfl (q_callF en19 (.cons (by first | exact .d _ | exact .rs rfl | exact .ref rfl | exact .nil _ | exact .tref rfl (by repeat (first | exact .nil | refine .cons (.d _ rfl) ?_ | refine .cons (.rs rfl) ?_))) .nil) rfl (copyTable_p _ (by omega)) (by first | exact .v _ | exact D.Flat.tupF (by repeat first | exact trivial | refine ⟨.v _, ?_⟩) | exact D.Flat.aggF (by repeat first | exact trivial | refine ⟨.v _, ?_⟩))) ?_
                  first | refine rgm_q rfl (q_move (x := .d (.sl _ _)) rfl) ?_ | refine rgm_q rfl (q_move (x := .rs _) rfl) ?_ | refine rgm_q rfl (q_move (x := .d (.v _)) rfl) ?_
                  refine rgm_q rfl (q_move (x := .d (.v _)) rfl) ?_
                  first | refine rgm_q rfl (q_indexAddr sl22 rfl rfl (by omega) (map_at (by omega) hx)) ?_ | refine rgm_q rfl (q_indexAddr_rs sl22 rfl rfl rfl (by omega) (by omega)) ?_
                  first | refine rgm_q rfl (q_fieldAddr fld59_0 rfl) ?_ | refine rgm_q rfl (q_fieldAddr_ref fld59_0 rfl) ?_
                  first | refine rgm_q rfl (q_load sz3 rfl rfl) ?_ | refine rgm_q rfl (q_load_ref sz3 rfl rfl rfl) ?_ | refine rgm_q rfl (q_load_tb (x := .d _) sz3 rfl rfl rfl) ?_ | refine rgm_q rfl (q_load_tb (x := .rs _) sz3 rfl rfl rfl) ?_
                  first | refine rgm_q rfl (q_call en35 (.cons rfl (.cons rfl .nil)) rfl (hEr)) ?_ | refine rgm_q rfl (q_callF en35 (.cons (by first | exact .d _ | exact .rs rfl | exact .ref rfl | exact .nil _ | exact .tref rfl (by repeat (first | exact .nil | refine .cons (.d _ rfl) ?_ | refine .cons (.rs rfl) ?_))) (.cons (by first | exact .d _ | exact .rs rfl | exact .ref rfl | exact .nil _ | exact .tref rfl (by repeat (first | exact .nil | refine .cons (.d _ rfl) ?_ | refine .cons (.rs rfl) ?_))) .nil)) rfl (hEr) (by first | exact .v _ | exact D.Flat.tupF (by repeat first | exact trivial | refine ⟨.v _, ?_⟩) | exact D.Flat.aggF (by repeat first | exact trivial | refine ⟨.v _, ?_⟩))) ?_
                  refine rgm_q rfl (q_move (x := .d (.tup _)) rfl) ?_
                  refine rgm_q rfl (q_extract rfl rfl) ?_
                  refine rgm_q rfl (q_extract rfl rfl) ?_
                  refine rgm_m (k := 16) rfl rfl (by rfl) (m_alloc zr52 rfl rfl) ?_
                  refine rgm_m (k := 16) rfl rfl (by rfl) (m_store sz52 rfl rfl (by first | exact .inl rfl | exact .inr ⟨_, rfl⟩) rfl rfl (by first | decide | simp) rfl) ?_
                  refine rgm_q rfl (q_assign (x := .d (.v _)) rfl) ?_
                  refine rgm_nil ?_
                  refine aops_nil ?_
                  change Awp _ _ _ _ _
                  refine awp_seq ?_
                  refine awp_region 17 mixed (by kernel_rfl) ?_
                  refine rg_q (q_move (x := .d (.v _)) rfl) ?_
                  refine rg_q (q_neq rfl rfl) ?_
                  refine rg_q (q_move (x := .d (.v _)) rfl) ?_
                  first | refine rg_g rfl rfl (fun hG => (q_loadA (ds := [_, _]) sz52 rfl rfl rfl)) ?_ | refine rg_g rfl rfl (fun hG => (q_load_refA (ds := [_, _]) sz52 rfl rfl rfl rfl)) ?_
                  first | refine rg_g rfl rfl (fun hG => (q_move (x := .d (.sl _ _)) rfl)) ?_ | refine rg_g rfl rfl (fun hG => (q_move (x := .rs _) rfl)) ?_ | refine rg_g rfl rfl (fun hG => (q_move (x := .d (.v _)) rfl)) ?_
                  refine rg_g rfl rfl (fun hG => (q_move (x := .d (.v _)) rfl)) ?_
                  first | refine rg_g rfl rfl (fun hG => (q_indexAddr sl22 rfl rfl (by (have hg0 := T.bool_inj (a := _) hG.1; (try simp only [decide_eq_true_eq, decide_eq_false_iff_not, Bool.and_eq_true, Bool.or_eq_true, Bool.and_eq_false_iff, Bool.or_eq_false_iff, Bool.not_eq_true', Bool.not_eq_false', Bool.not_true, Bool.not_false, bif_and, bif_or, Bool.not_not, ne_eq, Decidable.not_not, not_true_eq_false, not_false_eq_true, Int.not_le, Int.not_lt] at hg0); omega)) (map_at (by (have hg0 := T.bool_inj (a := _) hG.1; (try simp only [decide_eq_true_eq, decide_eq_false_iff_not, Bool.and_eq_true, Bool.or_eq_true, Bool.and_eq_false_iff, Bool.or_eq_false_iff, Bool.not_eq_true', Bool.not_eq_false', Bool.not_true, Bool.not_false, bif_and, bif_or, Bool.not_not, ne_eq, Decidable.not_not, not_true_eq_false, not_false_eq_true, Int.not_le, Int.not_lt] at hg0); omega)) hx))) ?_ | refine rg_g rfl rfl (fun hG => (q_indexAddr_rs sl22 rfl rfl rfl (by (have hg0 := T.bool_inj (a := _) hG.1; (try simp only [decide_eq_true_eq, decide_eq_false_iff_not, Bool.and_eq_true, Bool.or_eq_true, Bool.and_eq_false_iff, Bool.or_eq_false_iff, Bool.not_eq_true', Bool.not_eq_false', Bool.not_true, Bool.not_false, bif_and, bif_or, Bool.not_not, ne_eq, Decidable.not_not, not_true_eq_false, not_false_eq_true, Int.not_le, Int.not_lt] at hg0); omega)) (by (have hg0 := T.bool_inj (a := _) hG.1; (try simp only [decide_eq_true_eq, decide_eq_false_iff_not, Bool.and_eq_true, Bool.or_eq_true, Bool.and_eq_false_iff, Bool.or_eq_false_iff, Bool.not_eq_true', Bool.not_eq_false', Bool.not_true, Bool.not_false, bif_and, bif_or, Bool.not_not, ne_eq, Decidable.not_not, not_true_eq_false, not_false_eq_true, Int.not_le, Int.not_lt] at hg0); omega)))) ?_
                  first | refine rg_g rfl rfl (fun hG => (q_fieldAddr fld59_1 rfl)) ?_ | refine rg_g rfl rfl (fun hG => (q_fieldAddr_ref fld59_1 rfl)) ?_
                  first | refine rg_g rfl rfl (fun hG => (q_load sz3 rfl rfl)) ?_ | refine rg_g rfl rfl (fun hG => (q_load_ref sz3 rfl rfl rfl)) ?_ | refine rg_g rfl rfl (fun hG => (q_load_tb (x := .d _) sz3 rfl rfl rfl)) ?_ | refine rg_g rfl rfl (fun hG => (q_load_tb (x := .rs _) sz3 rfl rfl rfl)) ?_
                  first | refine rg_g rfl rfl (fun hG => (q_move (x := .d (.sl _ _)) rfl)) ?_ | refine rg_g rfl rfl (fun hG => (q_move (x := .rs _) rfl)) ?_ | refine rg_g rfl rfl (fun hG => (q_move (x := .d (.v _)) rfl)) ?_
                  refine rg_g rfl rfl (fun hG => (q_move (x := .d (.v _)) rfl)) ?_
                  first | refine rg_g rfl rfl (fun hG => (q_indexAddr sl22 rfl rfl (by (have hg0 := T.bool_inj (a := _) hG.1; (try simp only [decide_eq_true_eq, decide_eq_false_iff_not, Bool.and_eq_true, Bool.or_eq_true, Bool.and_eq_false_iff, Bool.or_eq_false_iff, Bool.not_eq_true', Bool.not_eq_false', Bool.not_true, Bool.not_false, bif_and, bif_or, Bool.not_not, ne_eq, Decidable.not_not, not_true_eq_false, not_false_eq_true, Int.not_le, Int.not_lt] at hg0); omega)) (map_at (by (have hg0 := T.bool_inj (a := _) hG.1; (try simp only [decide_eq_true_eq, decide_eq_false_iff_not, Bool.and_eq_true, Bool.or_eq_true, Bool.and_eq_false_iff, Bool.or_eq_false_iff, Bool.not_eq_true', Bool.not_eq_false', Bool.not_true, Bool.not_false, bif_and, bif_or, Bool.not_not, ne_eq, Decidable.not_not, not_true_eq_false, not_false_eq_true, Int.not_le, Int.not_lt] at hg0); omega)) hx))) ?_ | refine rg_g rfl rfl (fun hG => (q_indexAddr_rs sl22 rfl rfl rfl (by (have hg0 := T.bool_inj (a := _) hG.1; (try simp only [decide_eq_true_eq, decide_eq_false_iff_not, Bool.and_eq_true, Bool.or_eq_true, Bool.and_eq_false_iff, Bool.or_eq_false_iff, Bool.not_eq_true', Bool.not_eq_false', Bool.not_true, Bool.not_false, bif_and, bif_or, Bool.not_not, ne_eq, Decidable.not_not, not_true_eq_false, not_false_eq_true, Int.not_le, Int.not_lt] at hg0); omega)) (by (have hg0 := T.bool_inj (a := _) hG.1; (try simp only [decide_eq_true_eq, decide_eq_false_iff_not, Bool.and_eq_true, Bool.or_eq_true, Bool.and_eq_false_iff, Bool.or_eq_false_iff, Bool.not_eq_true', Bool.not_eq_false', Bool.not_true, Bool.not_false, bif_and, bif_or, Bool.not_not, ne_eq, Decidable.not_not, not_true_eq_false, not_false_eq_true, Int.not_le, Int.not_lt] at hg0); omega)))) ?_
                  first | refine rg_g rfl rfl (fun hG => (q_fieldAddr fld59_1 rfl)) ?_ | refine rg_g rfl rfl (fun hG => (q_fieldAddr_ref fld59_1 rfl)) ?_
                  first | refine rg_g rfl rfl (fun hG => (q_load sz3 rfl rfl)) ?_ | refine rg_g rfl rfl (fun hG => (q_load_ref sz3 rfl rfl rfl)) ?_ | refine rg_g rfl rfl (fun hG => (q_load_tb (x := .d _) sz3 rfl rfl rfl)) ?_ | refine rg_g rfl rfl (fun hG => (q_load_tb (x := .rs _) sz3 rfl rfl rfl)) ?_
                  refine rg_g rfl rfl (fun hG => (q_build (cs := [_, _]) pl52 zr52 rfl (.cons rfl (by first | exact .inl rfl | exact .inr ⟨_, rfl⟩) (.cons rfl (by first | exact .inl rfl | exact .inr ⟨_, rfl⟩) .nil)) ⟨⟨rfl, by decide⟩, ⟨rfl, by decide⟩, trivial⟩ rfl)) ?_
                  refine rg_g rfl rfl (fun hG => (q_neqI (xs := [_, _]) (ys := [_, _]) eqi52 rfl rfl rfl rfl)) ?_
                  first | refine rg_pick rfl rfl rfl rfl rfl rfl ?_ | refine rg_q (q_pick rfl rfl rfl) ?_
                  refine rg_nil ?_
                  refine aops_nil ?_
                  change Awp _ _ _ _ _
                  refine awp_cond rfl (fun hc21 => ?_) (fun hc21 => ?_)
                  ·
                    simp at hc21
                  ·
                    (try simp only [decide_eq_true_eq, decide_eq_false_iff_not, Bool.and_eq_true, Bool.or_eq_true, Bool.and_eq_false_iff, Bool.or_eq_false_iff, Bool.not_eq_true', Bool.not_eq_false', Bool.not_true, Bool.not_false, bif_and, bif_or, Bool.not_not, ne_eq, Decidable.not_not, not_true_eq_false, not_false_eq_true, Int.not_le, Int.not_lt] at hc21)
                    refine awp_skip ?_
                    change Awp _ _ _ _ _
                    refine awp_region 3 mixed (by kernel_rfl) ?_
                    refine rg_q (q_move (x := .d (.v _)) rfl) ?_
                    refine rg_q (q_add rfl rfl (In64.mk (by omega) (by omega))) ?_
                    refine rg_q (q_assign (x := .d (.v _)) rfl) ?_
                    refine rg_nil ?_
                    refine aops_nil ?_
                    refine ⟨k + 1, by omega, by omega, ?_⟩
                    exact le_head (ms := []) (by repeat (first | exact Out.refl _ | exact Out.head rfl rfl | (refine Out.put ?_ rfl) | (refine Out.site ?_ rfl) | (refine Out.putn ?_) | (refine Out.headIn ?_ rfl rfl rfl) | (refine Out.called ?_ rfl rfl))) ⟨(by first | rfl | (simp; done)), trivial⟩ trivial rfl rfl rfl rfl
                ·
                  (try simp only [decide_eq_true_eq, decide_eq_false_iff_not, Bool.and_eq_true, Bool.or_eq_true, Bool.and_eq_false_iff, Bool.or_eq_false_iff, Bool.not_eq_true', Bool.not_eq_false', Bool.not_true, Bool.not_false, bif_and, bif_or, Bool.not_not, ne_eq, Decidable.not_not, not_true_eq_false, not_false_eq_true, Int.not_le, Int.not_lt] at hc18)
                  refine awp_exit ?_
                  change Awp _ _ _ _ _
                  refine awp_seq ?_
                  refine awp_seq ?_
                  refine awp_region 3 mixed (by kernel_rfl) ?_
                  refine rg_q (q_move (x := .d (.v _)) rfl) ?_
                  first | refine rg_q (q_call en39 (.cons rfl .nil) rfl (EchoErr_p _)) ?_ | refine rg_q (q_callF en39 (.cons (by first | exact .d _ | exact .rs rfl | exact .ref rfl | exact .nil _ | exact .tref rfl (by repeat (first | exact .nil | refine .cons (.d _ rfl) ?_ | refine .cons (.rs rfl) ?_))) .nil) rfl (EchoErr_p _) (by first | exact .v _ | exact D.Flat.tupF (by repeat first | exact trivial | refine ⟨.v _, ?_⟩) | exact D.Flat.aggF (by repeat first | exact trivial | refine ⟨.v _, ?_⟩))) ?_
                  refine rg_q (q_assign (x := .d (.v _)) rfl) ?_
                  refine rg_nil ?_
                  refine aops_nil ?_
                  change Awp _ _ _ _ _
                  refine awp_seq ?_
                  refine awp_region 2 mixed (by kernel_rfl) ?_
                  refine rg_q (q_move (x := .d (.v _)) rfl) ?_
                  refine rg_q (q_neq rfl rfl) ?_
                  refine rg_nil ?_
                  refine aops_nil ?_
                  change Awp _ _ _ _ _
                  refine awp_cond rfl (fun hc24 => ?_) (fun hc24 => ?_)
                  ·
                    (try simp only [decide_eq_true_eq, decide_eq_false_iff_not, Bool.and_eq_true, Bool.or_eq_true, Bool.and_eq_false_iff, Bool.or_eq_false_iff, Bool.not_eq_true', Bool.not_eq_false', Bool.not_true, Bool.not_false, bif_and, bif_or, Bool.not_not, ne_eq, Decidable.not_not, not_true_eq_false, not_false_eq_true, Int.not_le, Int.not_lt] at hc24)
                    have hte : echoE t = 2 := by
                      rcases echoE_01 t with h | h
                      · exact absurd h hc24
                      · exact h
                    rw [gain_bad2 (by rw [he]; exact hd) hc24] at hGe
                    cases hGe
                    refine awp_seq ?_
                    refine awp_region 9 mixed (by kernel_rfl) ?_
                    refine rg_q (q_move (x := .d (.v _)) rfl) ?_
                    refine rg_q (q_move (x := .d (.v _)) rfl) ?_
                    refine rg_q (q_eql rfl rfl) ?_
                    refine rg_q (q_move (x := .d (.v _)) rfl) ?_
                    first | refine rg_g rfl rfl (fun hG => (q_loadA (ds := [_, _]) sz52 rfl rfl rfl)) ?_ | refine rg_g rfl rfl (fun hG => (q_load_refA (ds := [_, _]) sz52 rfl rfl rfl rfl)) ?_
                    refine rg_g rfl rfl (fun hG => (q_build (cs := [_, _]) pl52 zr52 rfl .nil trivial rfl)) ?_
                    refine rg_g rfl rfl (fun hG => (q_eqlI (xs := [_, _]) (ys := [_, _]) eqi52 rfl rfl rfl rfl)) ?_
                    first | refine rg_pick rfl rfl rfl rfl rfl rfl ?_ | refine rg_q (q_pick rfl rfl rfl) ?_
                    refine rg_q (q_assign (x := .d (.v _)) rfl) ?_
                    refine rg_nil ?_
                    refine aops_nil ?_
                    change Awp _ _ _ _ _
                    refine awp_ret ?_
                    refine ⟨_, (.cons (.tmp (by first | exact .d _ | exact .rs rfl | exact .ref rfl | exact .tref rfl (.cons (.d _ rfl) (.cons (.rs rfl) .nil)))) .nil), ?_⟩
                    simp [retD, hte]
                  ·
                    (try simp only [decide_eq_true_eq, decide_eq_false_iff_not, Bool.and_eq_true, Bool.or_eq_true, Bool.and_eq_false_iff, Bool.or_eq_false_iff, Bool.not_eq_true', Bool.not_eq_false', Bool.not_true, Bool.not_false, bif_and, bif_or, Bool.not_not, ne_eq, Decidable.not_not, not_true_eq_false, not_false_eq_true, Int.not_le, Int.not_lt] at hc24)
                    have ht : echoE t = 0 := hc24
                    rw [gain_law hck hd ht] at hGe
                    cases hGe
                    refine awp_skip ?_
                    change Awp _ _ _ _ _
                    refine awp_seq ?_
                    refine awp_region 11 mixed (by kernel_rfl) ?_
                    refine rg_q (q_move (x := .d (.v _)) rfl) ?_
                    refine rg_q (q_eql rfl rfl) ?_
                    refine rg_q (q_move (x := .d (.v _)) rfl) ?_
                    first | refine rg_g rfl rfl (fun hG => (q_loadA (ds := [_, _]) sz52 rfl rfl rfl)) ?_ | refine rg_g rfl rfl (fun hG => (q_load_refA (ds := [_, _]) sz52 rfl rfl rfl rfl)) ?_
                    first | refine rg_g rfl rfl (fun hG => (q_move (x := .d (.sl _ _)) rfl)) ?_ | refine rg_g rfl rfl (fun hG => (q_move (x := .rs _) rfl)) ?_ | refine rg_g rfl rfl (fun hG => (q_move (x := .d (.v _)) rfl)) ?_
                    refine rg_g rfl rfl (fun hG => (q_move (x := .d (.v _)) rfl)) ?_
                    refine rg_g rfl rfl (fun hG => (q_move (x := .d (.v _)) rfl)) ?_
                    first | refine rg_g rfl rfl (fun hG => (q_call en40 (.cons rfl (.cons rfl (.cons rfl .nil))) rfl (rGainAt_p l d t hck hd ht))) ?_ | refine rg_g rfl rfl (fun hG => (q_callF en40 (.cons (by first | exact .d _ | exact .rs rfl | exact .ref rfl | exact .nil _ | exact .tref rfl (by repeat (first | exact .nil | refine .cons (.d _ rfl) ?_ | refine .cons (.rs rfl) ?_))) (.cons (by first | exact .d _ | exact .rs rfl | exact .ref rfl | exact .nil _ | exact .tref rfl (by repeat (first | exact .nil | refine .cons (.d _ rfl) ?_ | refine .cons (.rs rfl) ?_))) (.cons (by first | exact .d _ | exact .rs rfl | exact .ref rfl | exact .nil _ | exact .tref rfl (by repeat (first | exact .nil | refine .cons (.d _ rfl) ?_ | refine .cons (.rs rfl) ?_))) .nil))) rfl (rGainAt_p l d t hck hd ht) (by first | exact .v _ | exact D.Flat.tupF (by repeat first | exact trivial | refine ⟨.v _, ?_⟩) | exact D.Flat.aggF (by repeat first | exact trivial | refine ⟨.v _, ?_⟩)))) ?_
                    refine rg_g rfl rfl (fun hG => (q_eqlI (xs := [_, _]) (ys := [_, _]) eqi52 rfl rfl rfl rfl)) ?_
                    first | refine rg_pick rfl rfl rfl rfl rfl rfl ?_ | refine rg_q (q_pick rfl rfl rfl) ?_
                    refine rg_q (q_assign (x := .d (.v _)) rfl) ?_
                    refine rg_nil ?_
                    refine aops_nil ?_
                    change Awp _ _ _ _ _
                    refine awp_ret ?_
                    refine ⟨_, (.cons (.tmp (by first | exact .d _ | exact .rs rfl | exact .ref rfl | exact .tref rfl (.cons (.d _ rfl) (.cons (.rs rfl) .nil)))) .nil), ?_⟩
                    simp [retD, encS]
        ·
          (try simp only [decide_eq_true_eq, decide_eq_false_iff_not, Bool.and_eq_true, Bool.or_eq_true, Bool.and_eq_false_iff, Bool.or_eq_false_iff, Bool.not_eq_true', Bool.not_eq_false', Bool.not_true, Bool.not_false, bif_and, bif_or, Bool.not_not, ne_eq, Decidable.not_not, not_true_eq_false, not_false_eq_true, Int.not_le, Int.not_lt] at hc11)
          have hck : (ckT l).2 ≠ 0 := hc11
          have he := echo_ck (d := d) hck
          refine awp_skip ?_
          change Awp _ _ _ _ _
          refine awp_seq ?_
          refine awp_seq ?_
          refine awp_region 2 mixed (by kernel_rfl) ?_
          refine rg_q (q_move (x := .d (.v _)) rfl) ?_
          refine rg_q (q_neq rfl rfl) ?_
          refine rg_nil ?_
          refine aops_nil ?_
          change Awp _ _ _ _ _
          refine awp_cond rfl (fun hc13 => ?_) (fun hc13 => ?_)
          ·
            (try simp only [decide_eq_true_eq, decide_eq_false_iff_not, Bool.and_eq_true, Bool.or_eq_true, Bool.and_eq_false_iff, Bool.or_eq_false_iff, Bool.not_eq_true', Bool.not_eq_false', Bool.not_true, Bool.not_false, bif_and, bif_or, Bool.not_not, ne_eq, Decidable.not_not, not_true_eq_false, not_false_eq_true, Int.not_le, Int.not_lt] at hc13)
            have hb : (echoS l d).2 ≠ 0 := by rw [he]; exact hc13
            rw [rng_bad hb, he] at hEe
            rw [gain_bad hb, he] at hGe
            cases hEe
            cases hGe
            refine awp_seq ?_
            refine awp_region 19 mixed (by kernel_rfl) ?_
            refine rg_q (q_move (x := .d (.v _)) rfl) ?_
            refine rg_q (q_move (x := .d (.v _)) rfl) ?_
            refine rg_q (q_eql rfl rfl) ?_
            refine rg_q (q_move (x := .d (.v _)) rfl) ?_
            refine rg_g rfl rfl (fun hG => (q_move (x := .d (.v _)) rfl)) ?_
            refine rg_g rfl rfl (fun hG => (q_move (x := .d (.v _)) rfl)) ?_
            refine rg_g rfl rfl (fun hG => (q_eql rfl rfl)) ?_
            first | refine rg_pick rfl rfl rfl rfl rfl rfl ?_ | refine rg_q (q_pick rfl rfl rfl) ?_
            refine rg_q (q_move (x := .d (.v _)) rfl) ?_
            first | refine rg_g rfl rfl (fun hG => (q_loadA (ds := [_, _]) sz52 rfl rfl rfl)) ?_ | refine rg_g rfl rfl (fun hG => (q_load_refA (ds := [_, _]) sz52 rfl rfl rfl rfl)) ?_
            refine rg_g rfl rfl (fun hG => (q_build (cs := [_, _]) pl52 zr52 rfl .nil trivial rfl)) ?_
            refine rg_g rfl rfl (fun hG => (q_eqlI (xs := [_, _]) (ys := [_, _]) eqi52 rfl rfl rfl rfl)) ?_
            first | refine rg_pick rfl rfl rfl rfl rfl rfl ?_ | refine rg_q (q_pick rfl rfl rfl) ?_
            refine rg_q (q_move (x := .d (.v _)) rfl) ?_
            first | refine rg_g rfl rfl (fun hG => (q_loadA (ds := [_, _]) sz52 rfl rfl rfl)) ?_ | refine rg_g rfl rfl (fun hG => (q_load_refA (ds := [_, _]) sz52 rfl rfl rfl rfl)) ?_
            refine rg_g rfl rfl (fun hG => (q_build (cs := [_, _]) pl52 zr52 rfl .nil trivial rfl)) ?_
            refine rg_g rfl rfl (fun hG => (q_eqlI (xs := [_, _]) (ys := [_, _]) eqi52 rfl rfl rfl rfl)) ?_
            first | refine rg_pick rfl rfl rfl rfl rfl rfl ?_ | refine rg_q (q_pick rfl rfl rfl) ?_
            refine rg_q (q_assign (x := .d (.v _)) rfl) ?_
            refine rg_nil ?_
            refine aops_nil ?_
            change Awp _ _ _ _ _
            refine awp_ret ?_
            refine ⟨_, (.cons (.tmp (by first | exact .d _ | exact .rs rfl | exact .ref rfl | exact .tref rfl (.cons (.d _ rfl) (.cons (.rs rfl) .nil)))) .nil), ?_⟩
            simp [retD]
          ·
            simp at hc13
            exact absurd hc13 hck
end Go.Proofs.Ytgdcidbpadhkpaa.Am.M
