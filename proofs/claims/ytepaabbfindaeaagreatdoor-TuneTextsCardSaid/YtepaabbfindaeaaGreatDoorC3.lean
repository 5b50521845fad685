/- Contracts over the abstract machine: echoes at depths (package tune). Conditions: none. -/
import Derived.Test.YtepaabbfindaeaaGreatDoorC2
set_option linter.unusedVariables false
set_option linter.unusedSimpArgs false
namespace Go.Proofs.YtepaabbfindaeaaGreatDoor.Am.M
open Go

def echoS (l : List (Int × Int)) (d : Int) : (Int × Int) × Int :=
  if (ckT l).2 ≠ 0 then ((0, 0), (ckT l).2) else if inR 0 d 100000 = false then ((0, 0), 2) else
  let i := idxOf (fun x => decide (d ≤ x.1)) 0 l
  if i < 0 ∨ (i = 0 ∧ d < (l.getD 0 (0, 0)).1) then ((0, 0), 12) else (betw (l.getD (i - 1).toNat (0, 0)) (l.getD i.toNat (0, 0)) d, 0)
theorem idxOf_bd {α : Type} (f : α → Bool) : ∀ (l : List α) (i : Nat), idxOf f i l = -1 ∨ ((i : Int) ≤ idxOf f i l ∧ idxOf f i l < i + l.length)
  | [], i => .inl rfl
  | x :: xs, i => by
    unfold idxOf
    split
    · right; simp; omega
    · rcases idxOf_bd f xs (i + 1) with h | h
      · exact .inl h
      · right; simp at h ⊢; omega
theorem rowBad_in {x : Int × Int} (h : rowBad x = 0) : RowIn x := by
  unfold rowBad firstE firstE firstE echoE rgd inR at h
  unfold RowIn
  by_cases h1 : 0 ≤ x.1 <;> by_cases h2 : x.1 ≤ 100000 <;> by_cases h3 : 1 ≤ x.2 <;> by_cases h4 : x.2 ≤ 1000000 <;> simp [h1, h2, h3, h4] at h ⊢
theorem ckFrom_ok : ∀ (l : List (Int × Int)) (i : Nat) (p : Option Int), (ckFrom i p l).2 = 0 → (∀ x ∈ l, RowIn x) ∧ l.Pairwise (fun a b => a.1 < b.1) ∧ (∀ y, p = some y → ∀ x ∈ l, y < x.1)
  | [], _, _, _ => ⟨(fun x h => by cases h), List.Pairwise.nil, (fun y _ x h => by cases h)⟩
  | x :: xs, i, p, h => by
    unfold ckFrom at h
    split at h
    · rename_i hb; exact absurd h hb
    · rename_i hb
      have hb : rowBad x = 0 := by simpa using hb
      split at h
      · simp at h
      · rename_i ho
        obtain ⟨k1, k2, k3⟩ := ckFrom_ok xs (i + 1) (some x.1) h
        have hx := k3 x.1 rfl
        refine ⟨fun z hz => ?_, List.Pairwise.cons (fun z hz => hx z hz) k2, fun y hy z hz => ?_⟩
        · rcases List.mem_cons.1 hz with rfl | hz
          · exact rowBad_in hb
          · exact k1 z hz
        · subst hy
          simp only [ordBad, decide_eq_true_eq] at ho
          rcases List.mem_cons.1 hz with rfl | hz
          · omega
          · have := hx z hz; omega
structure Tab (l : List (Int × Int)) : Prop where
  pos : 0 < l.length
  few : l.length ≤ 20
  rows : ∀ x ∈ l, RowIn x
  asc : l.Pairwise (fun a b => a.1 < b.1)
theorem ckT_tab {l : List (Int × Int)} (h : (ckT l).2 = 0) : Tab l := by
  unfold ckT at h
  split at h
  · simp at h
  · split at h
    · simp at h
    · obtain ⟨h1, h2, _⟩ := ckFrom_ok l 0 none h
      exact ⟨by omega, by omega, h1, h2⟩
theorem getD_at {α : Type} {l : List α} {i : Nat} {d x : α} (h : l[i]? = some x) : l.getD i d = x := by rw [List.getD_eq_getElem?_getD, h]; rfl
set_option maxRecDepth 100000 in
theorem echoAt_p (l : List (Int × Int)) (d : Int) : PC Tryz.prog 24 [.sl 2 (l.map rowC), .v (.int .i64 (d))] (.tup [.agg (shC (echoS l d).1), .v (.int .i64 ((echoS l d).2))]) := by
  have hi := idxOf_bd (fun x : Int × Int => decide (d ≤ x.1)) l 0
  refine pc_of_awp Tryz.func24 rfl Tryz.ntmps24 (rs := [.cell 4 69, .tmp 5]) Tryz.results24 (by simp) fun w0 => ?_
  refine awp_seq ?_
  refine awp_region 1 mixed (by kernel_rfl) ?_
  refine rg_q (q_box rfl (by first | exact .inl rfl | exact .inr ⟨_, rfl⟩)) ?_
  refine rg_nil ?_
  refine aops_alloc zr69 rfl rfl rfl ?_
  refine aops_q rfl (q_assign (x := .d (.v _)) rfl) ?_
  refine aops_nil ?_
  change Awp _ _ _ _ _
  refine awp_seq ?_
  refine awp_seq ?_
  refine awp_region 7 mixed (by kernel_rfl) ?_
  first | refine rg_q (q_move (x := .d (.sl _ _)) rfl) ?_ | refine rg_q (q_move (x := .rs _) rfl) ?_ | refine rg_q (q_move (x := .d (.v _)) rfl) ?_
  first | refine rg_q (q_call en35 (.cons rfl .nil) rfl (checkTable_p _)) ?_ | refine rg_q (q_callF en35 (.cons (by first | exact .d _ | exact .rs rfl | exact .ref rfl | exact .nil _ | exact .tref rfl (by repeat (first | exact .nil | refine .cons (.d _ rfl) ?_ | refine .cons (.rs rfl) ?_))) .nil) rfl (checkTable_p _) (by first | exact .v _ | exact D.Flat.tupF (by repeat first | exact trivial | refine ⟨.v _, ?_⟩) | exact D.Flat.aggF (by repeat first | exact trivial | refine ⟨.v _, ?_⟩))) ?_
  refine rg_q (q_move (x := .d (.tup _)) rfl) ?_
  refine rg_q (q_extract rfl rfl) ?_
  refine rg_q (q_extract rfl rfl) ?_
  refine rg_q (q_assign (x := .d (.v _)) rfl) ?_
  refine rg_q (q_assign (x := .d (.v _)) rfl) ?_
  refine rg_nil ?_
  refine aops_nil ?_
  change Awp _ _ _ _ _
  refine awp_seq ?_
  refine awp_region 2 mixed (by kernel_rfl) ?_
  refine rg_q (q_move (x := .d (.v _)) rfl) ?_
  refine rg_q (q_neq rfl rfl) ?_
  refine rg_nil ?_
  refine aops_nil ?_
  change Awp _ _ _ _ _
  refine awp_cond rfl (fun hc2 => ?_) (fun hc2 => ?_)
  ·
    (try simp only [decide_eq_true_eq, decide_eq_false_iff_not, Bool.and_eq_true, Bool.or_eq_true, Bool.and_eq_false_iff, Bool.or_eq_false_iff, Bool.not_eq_true', Bool.not_eq_false', Bool.not_true, Bool.not_false, bif_and, bif_or, Bool.not_not, ne_eq, Decidable.not_not, not_true_eq_false, not_false_eq_true, Int.not_le, Int.not_lt] at hc2)
    have hz : echoS l d = ((0, 0), (ckT l).2) := by unfold echoS; rw [if_pos hc2]
    refine awp_seq ?_
    refine awp_region 2 mixed (by kernel_rfl) ?_
    refine rg_q (q_build (cs := [_, _]) pl69 zr69 rfl .nil trivial rfl) ?_
    refine rg_q (q_move (x := .d (.v _)) rfl) ?_
    refine rg_nil ?_
    first | refine aops_store sz69 rfl rfl (by first | exact .inl rfl | exact .inr ⟨_, rfl⟩) rfl rfl (by first | decide | simp; done | exact Nat.le_of_ble_eq_true rfl) rfl ?_ | refine aops_storeT (z := .rs _) sz69 rfl rfl rfl rfl (by first | decide | simp) rfl ?_ | refine aops_storeT (z := .d _) sz69 rfl rfl rfl rfl (by first | decide | simp) rfl ?_ | refine aops_storeTA sz69 rfl rfl (by first | exact .inl rfl | exact .inr ⟨_, rfl⟩) rfl rfl (by first | decide | simp) rfl ?_
    refine aops_q rfl (q_assign (x := .d (.v _)) rfl) ?_
    refine aops_nil ?_
    change Awp _ _ _ _ _
    refine awp_ret ?_
    refine ⟨_, (.cons (.cellA rfl rfl sz69 rfl) (.cons (.tmp (by first | exact .d _ | exact .rs rfl | exact .ref rfl | exact .tref rfl (.cons (.d _ rfl) (.cons (.rs rfl) .nil)))) .nil)), ?_⟩
    rw [hz]; rfl
  ·
    (try simp only [decide_eq_true_eq, decide_eq_false_iff_not, Bool.and_eq_true, Bool.or_eq_true, Bool.and_eq_false_iff, Bool.or_eq_false_iff, Bool.not_eq_true', Bool.not_eq_false', Bool.not_true, Bool.not_false, bif_and, bif_or, Bool.not_not, ne_eq, Decidable.not_not, not_true_eq_false, not_false_eq_true, Int.not_le, Int.not_lt] at hc2)
    have hT := ckT_tab hc2
    refine awp_skip ?_
    change Awp _ _ _ _ _
    refine awp_seq ?_
    refine awp_seq ?_
    refine awp_region 3 mixed (by kernel_rfl) ?_
    first | refine rg_q (q_load sz3 rfl rfl) ?_ | refine rg_q (q_load_ref sz3 rfl rfl rfl) ?_ | refine rg_q (q_load_tb (x := .d _) sz3 rfl rfl rfl) ?_ | refine rg_q (q_load_tb (x := .rs _) sz3 rfl rfl rfl) ?_
    first | refine rg_q (q_call en32 (.cons rfl (.cons rfl (.cons rfl .nil))) rfl (within_p _ _ _)) ?_ | refine rg_q (q_callF en32 (.cons (by first | exact .d _ | exact .rs rfl | exact .ref rfl | exact .nil _ | exact .tref rfl (by repeat (first | exact .nil | refine .cons (.d _ rfl) ?_ | refine .cons (.rs rfl) ?_))) (.cons (by first | exact .d _ | exact .rs rfl | exact .ref rfl | exact .nil _ | exact .tref rfl (by repeat (first | exact .nil | refine .cons (.d _ rfl) ?_ | refine .cons (.rs rfl) ?_))) (.cons (by first | exact .d _ | exact .rs rfl | exact .ref rfl | exact .nil _ | exact .tref rfl (by repeat (first | exact .nil | refine .cons (.d _ rfl) ?_ | refine .cons (.rs rfl) ?_))) .nil))) rfl (within_p _ _ _) (by first | exact .v _ | exact D.Flat.tupF (by repeat first | exact trivial | refine ⟨.v _, ?_⟩) | exact D.Flat.aggF (by repeat first | exact trivial | refine ⟨.v _, ?_⟩))) ?_
    refine rg_q (q_not rfl) ?_
    refine rg_nil ?_
    refine aops_nil ?_
    change Awp _ _ _ _ _
    refine awp_cond rfl (fun hc4 => ?_) (fun hc4 => ?_)
    ·
      (try simp only [decide_eq_true_eq, decide_eq_false_iff_not, Bool.and_eq_true, Bool.or_eq_true, Bool.and_eq_false_iff, Bool.or_eq_false_iff, Bool.not_eq_true', Bool.not_eq_false', Bool.not_true, Bool.not_false, bif_and, bif_or, Bool.not_not, ne_eq, Decidable.not_not, not_true_eq_false, not_false_eq_true, Int.not_le, Int.not_lt] at hc4)
      have hz : echoS l d = ((0, 0), 2) := by unfold echoS; rw [if_neg (by simpa using hc2), if_pos hc4]
      refine awp_seq ?_
      refine awp_region 1 mixed (by kernel_rfl) ?_
      refine rg_q (q_build (cs := [_, _]) pl69 zr69 rfl .nil trivial rfl) ?_
      refine rg_nil ?_
      first | refine aops_store sz69 rfl rfl (by first | exact .inl rfl | exact .inr ⟨_, rfl⟩) rfl rfl (by first | decide | simp; done | exact Nat.le_of_ble_eq_true rfl) rfl ?_ | refine aops_storeT (z := .rs _) sz69 rfl rfl rfl rfl (by first | decide | simp) rfl ?_ | refine aops_storeT (z := .d _) sz69 rfl rfl rfl rfl (by first | decide | simp) rfl ?_ | refine aops_storeTA sz69 rfl rfl (by first | exact .inl rfl | exact .inr ⟨_, rfl⟩) rfl rfl (by first | decide | simp) rfl ?_
      refine aops_q rfl (q_assign (x := .d (.v _)) rfl) ?_
      refine aops_nil ?_
      change Awp _ _ _ _ _
      refine awp_ret ?_
      refine ⟨_, (.cons (.cellA rfl rfl sz69 rfl) (.cons (.tmp (by first | exact .d _ | exact .rs rfl | exact .ref rfl | exact .tref rfl (.cons (.d _ rfl) (.cons (.rs rfl) .nil)))) .nil)), ?_⟩
      rw [hz]; rfl
    ·
      (try simp only [decide_eq_true_eq, decide_eq_false_iff_not, Bool.and_eq_true, Bool.or_eq_true, Bool.and_eq_false_iff, Bool.or_eq_false_iff, Bool.not_eq_true', Bool.not_eq_false', Bool.not_true, Bool.not_false, bif_and, bif_or, Bool.not_not, ne_eq, Decidable.not_not, not_true_eq_false, not_false_eq_true, Int.not_le, Int.not_lt] at hc4)
      have hin : 0 ≤ d ∧ d ≤ 100000 := by simpa [inR] using hc4
      obtain ⟨hd1, hd2⟩ := hin
      have hz : echoS l d = (let i := idxOf (fun x => decide (d ≤ x.1)) 0 l; if i < 0 ∨ (i = 0 ∧ d < (l.getD 0 (0, 0)).1) then ((0, 0), 12) else (betw (l.getD (i - 1).toNat (0, 0)) (l.getD i.toNat (0, 0)) d, 0)) := by unfold echoS; rw [if_neg (by simpa using hc2), if_neg (by simpa using hc4)]
      have hpos := hT.pos
      have hfew := hT.few
      obtain ⟨x0, hx0⟩ : ∃ x, l[0]? = some x := ⟨_, List.getElem?_eq_getElem hpos⟩
      rw [getD_at hx0] at hz
      simp only at hz
      have hidx := indexRow_p rowC (fun x : Int × Int => decide (d ≤ x.1)) _ [.pt [.v (.int .i64 d)] 0] en44 l (fun _ => rfl) (fun a _ => echoAt1_p a d)
      generalize idxOf (fun x : Int × Int => decide (d ≤ x.1)) 0 l = i at *
      refine awp_skip ?_
      change Awp _ _ _ _ _
      refine awp_seq ?_
      refine awp_region 4 mixed (by kernel_rfl) ?_
      first | refine rg_q (q_move (x := .d (.sl _ _)) rfl) ?_ | refine rg_q (q_move (x := .rs _) rfl) ?_ | refine rg_q (q_move (x := .d (.v _)) rfl) ?_
      refine rg_q (q_makeFunc (.cons rfl .nil)) ?_
      first | refine rg_q (q_call en43 (.cons rfl (.cons rfl .nil)) rfl (hidx)) ?_ | refine rg_q (q_callF en43 (.cons (by first | exact .d _ | exact .rs rfl | exact .ref rfl | exact .nil _ | exact .tref rfl (by repeat (first | exact .nil | refine .cons (.d _ rfl) ?_ | refine .cons (.rs rfl) ?_))) (.cons (by first | exact .d _ | exact .rs rfl | exact .ref rfl | exact .nil _ | exact .tref rfl (by repeat (first | exact .nil | refine .cons (.d _ rfl) ?_ | refine .cons (.rs rfl) ?_))) .nil)) rfl (hidx) (by first | exact .v _ | exact D.Flat.tupF (by repeat first | exact trivial | refine ⟨.v _, ?_⟩) | exact D.Flat.aggF (by repeat first | exact trivial | refine ⟨.v _, ?_⟩))) ?_
      refine rg_q (q_assign (x := .d (.v _)) rfl) ?_
      refine rg_nil ?_
      refine aops_nil ?_
      change Awp _ _ _ _ _
      refine awp_seq ?_
      refine awp_seq ?_
      refine awp_region 14 mixed (by kernel_rfl) ?_
      refine rg_q (q_move (x := .d (.v _)) rfl) ?_
      refine rg_q (q_lss rfl rfl) ?_
      refine rg_q (q_move (x := .d (.v _)) rfl) ?_
      refine rg_g rfl rfl (fun hG => (q_move (x := .d (.v _)) rfl)) ?_
      refine rg_g rfl rfl (fun hG => (q_eql rfl rfl)) ?_
      refine rg_g rfl rfl (fun hG => (q_move (x := .d (.v _)) rfl)) ?_
      first | refine rg_g rfl rfl (fun hG => (q_move (x := .d (.sl _ _)) rfl)) ?_ | refine rg_g rfl rfl (fun hG => (q_move (x := .rs _) rfl)) ?_ | refine rg_g rfl rfl (fun hG => (q_move (x := .d (.v _)) rfl)) ?_
      first | refine rg_g rfl rfl (fun hG => (q_indexAddr sl39 rfl rfl (by (have hg0 := T.bool_inj (a := _) hG.1; (try simp only [decide_eq_true_eq, decide_eq_false_iff_not, Bool.and_eq_true, Bool.or_eq_true, Bool.and_eq_false_iff, Bool.or_eq_false_iff, Bool.not_eq_true', Bool.not_eq_false', Bool.not_true, Bool.not_false, bif_and, bif_or, Bool.not_not, ne_eq, Decidable.not_not, not_true_eq_false, not_false_eq_true, Int.not_le, Int.not_lt] at hg0); have hg1 := T.bool_inj (a := _) hG.2.1; (try simp only [decide_eq_true_eq, decide_eq_false_iff_not, Bool.and_eq_true, Bool.or_eq_true, Bool.and_eq_false_iff, Bool.or_eq_false_iff, Bool.not_eq_true', Bool.not_eq_false', Bool.not_true, Bool.not_false, bif_and, bif_or, Bool.not_not, ne_eq, Decidable.not_not, not_true_eq_false, not_false_eq_true, Int.not_le, Int.not_lt] at hg1); omega)) (map_at (k := 0) (by rfl) hx0))) ?_ | refine rg_g rfl rfl (fun hG => (q_indexAddr_rs sl39 rfl rfl rfl (by (have hg0 := T.bool_inj (a := _) hG.1; (try simp only [decide_eq_true_eq, decide_eq_false_iff_not, Bool.and_eq_true, Bool.or_eq_true, Bool.and_eq_false_iff, Bool.or_eq_false_iff, Bool.not_eq_true', Bool.not_eq_false', Bool.not_true, Bool.not_false, bif_and, bif_or, Bool.not_not, ne_eq, Decidable.not_not, not_true_eq_false, not_false_eq_true, Int.not_le, Int.not_lt] at hg0); have hg1 := T.bool_inj (a := _) hG.2.1; (try simp only [decide_eq_true_eq, decide_eq_false_iff_not, Bool.and_eq_true, Bool.or_eq_true, Bool.and_eq_false_iff, Bool.or_eq_false_iff, Bool.not_eq_true', Bool.not_eq_false', Bool.not_true, Bool.not_false, bif_and, bif_or, Bool.not_not, ne_eq, Decidable.not_not, not_true_eq_false, not_false_eq_true, Int.not_le, Int.not_lt] at hg1); omega)) (by (have hg0 := T.bool_inj (a := _) hG.1; (try simp only [decide_eq_true_eq, decide_eq_false_iff_not, Bool.and_eq_true, Bool.or_eq_true, Bool.and_eq_false_iff, Bool.or_eq_false_iff, Bool.not_eq_true', Bool.not_eq_false', Bool.not_true, Bool.not_false, bif_and, bif_or, Bool.not_not, ne_eq, Decidable.not_not, not_true_eq_false, not_false_eq_true, Int.not_le, Int.not_lt] at hg0); have hg1 := T.bool_inj (a := _) hG.2.1; (try simp only [decide_eq_true_eq, decide_eq_false_iff_not, Bool.and_eq_true, Bool.or_eq_true, Bool.and_eq_false_iff, Bool.or_eq_false_iff, Bool.not_eq_true', Bool.not_eq_false', Bool.not_true, Bool.not_false, bif_and, bif_or, Bool.not_not, ne_eq, Decidable.not_not, not_true_eq_false, not_false_eq_true, Int.not_le, Int.not_lt] at hg1); omega)))) ?_
      first | refine rg_g rfl rfl (fun hG => (q_fieldAddr fld38_0 rfl)) ?_ | refine rg_g rfl rfl (fun hG => (q_fieldAddr_ref fld38_0 rfl)) ?_
      first | refine rg_g rfl rfl (fun hG => (q_load sz3 rfl rfl)) ?_ | refine rg_g rfl rfl (fun hG => (q_load_ref sz3 rfl rfl rfl)) ?_ | refine rg_g rfl rfl (fun hG => (q_load_tb (x := .d _) sz3 rfl rfl rfl)) ?_ | refine rg_g rfl rfl (fun hG => (q_load_tb (x := .rs _) sz3 rfl rfl rfl)) ?_
      first | refine rg_g rfl rfl (fun hG => (q_load sz3 rfl rfl)) ?_ | refine rg_g rfl rfl (fun hG => (q_load_ref sz3 rfl rfl rfl)) ?_ | refine rg_g rfl rfl (fun hG => (q_load_tb (x := .d _) sz3 rfl rfl rfl)) ?_ | refine rg_g rfl rfl (fun hG => (q_load_tb (x := .rs _) sz3 rfl rfl rfl)) ?_
      refine rg_g rfl rfl (fun hG => (q_gtr rfl rfl)) ?_
      refine rg_pickg rfl rfl rfl rfl rfl rfl rfl rfl ?_
      first | refine rg_pick rfl rfl rfl rfl rfl rfl ?_ | refine rg_q (q_pick rfl rfl rfl) ?_
      refine rg_nil ?_
      refine aops_nil ?_
      change Awp _ _ _ _ _
      refine awp_cond rfl (fun hc7 => ?_) (fun hc7 => ?_)
      ·
        (try simp only [decide_eq_true_eq, decide_eq_false_iff_not, Bool.and_eq_true, Bool.or_eq_true, Bool.and_eq_false_iff, Bool.or_eq_false_iff, Bool.not_eq_true', Bool.not_eq_false', Bool.not_true, Bool.not_false, bif_and, bif_or, Bool.not_not, ne_eq, Decidable.not_not, not_true_eq_false, not_false_eq_true, Int.not_le, Int.not_lt] at hc7)
        rw [if_pos (by omega)] at hz
        refine awp_seq ?_
        refine awp_region 1 mixed (by kernel_rfl) ?_
        refine rg_q (q_build (cs := [_, _]) pl69 zr69 rfl .nil trivial rfl) ?_
        refine rg_nil ?_
        first | refine aops_store sz69 rfl rfl (by first | exact .inl rfl | exact .inr ⟨_, rfl⟩) rfl rfl (by first | decide | simp; done | exact Nat.le_of_ble_eq_true rfl) rfl ?_ | refine aops_storeT (z := .rs _) sz69 rfl rfl rfl rfl (by first | decide | simp) rfl ?_ | refine aops_storeT (z := .d _) sz69 rfl rfl rfl rfl (by first | decide | simp) rfl ?_ | refine aops_storeTA sz69 rfl rfl (by first | exact .inl rfl | exact .inr ⟨_, rfl⟩) rfl rfl (by first | decide | simp) rfl ?_
        refine aops_q rfl (q_assign (x := .d (.v _)) rfl) ?_
        refine aops_nil ?_
        change Awp _ _ _ _ _
        refine awp_ret ?_
        refine ⟨_, (.cons (.cellA rfl rfl sz69 rfl) (.cons (.tmp (by first | exact .d _ | exact .rs rfl | exact .ref rfl | exact .tref rfl (.cons (.d _ rfl) (.cons (.rs rfl) .nil)))) .nil)), ?_⟩
        rw [hz]; rfl
      ·
        (try simp only [decide_eq_true_eq, decide_eq_false_iff_not, Bool.and_eq_true, Bool.or_eq_true, Bool.and_eq_false_iff, Bool.or_eq_false_iff, Bool.not_eq_true', Bool.not_eq_false', Bool.not_true, Bool.not_false, bif_and, bif_or, Bool.not_not, ne_eq, Decidable.not_not, not_true_eq_false, not_false_eq_true, Int.not_le, Int.not_lt] at hc7)
        rw [if_neg (by omega)] at hz
        obtain ⟨k, rfl⟩ : ∃ k : Nat, i = (k : Int) := ⟨i.toNat, by omega⟩
        have hk : k < l.length := by omega
        obtain ⟨x, hx⟩ : ∃ x, l[k]? = some x := ⟨_, List.getElem?_eq_getElem hk⟩
        obtain ⟨y, hy⟩ : ∃ y, l[k - 1]? = some y := ⟨_, List.getElem?_eq_getElem (by omega)⟩
        have hxr := hT.rows x (List.mem_of_getElem? hx)
        have hyr := hT.rows y (List.mem_of_getElem? hy)
        rw [show ((k : Int) - 1).toNat = k - 1 by omega, show ((k : Int)).toNat = k by omega, getD_at hx, getD_at hy] at hz
        refine awp_skip ?_
        change Awp _ _ _ _ _
        refine awp_seq ?_
        refine awp_region 12 mixed (by kernel_rfl) ?_
        first | refine rg_q (q_move (x := .d (.sl _ _)) rfl) ?_ | refine rg_q (q_move (x := .rs _) rfl) ?_ | refine rg_q (q_move (x := .d (.v _)) rfl) ?_
        refine rg_q (q_move (x := .d (.v _)) rfl) ?_
        refine rg_q (q_sub rfl rfl (In64.mk (by omega) (by omega))) ?_
        refine rg_q (q_max rfl rfl) ?_
        first | refine rg_q (q_indexAddr sl39 rfl rfl (by omega) (map_at (k := k - 1) (by omega) hy)) ?_ | refine rg_q (q_indexAddr_rs sl39 rfl rfl rfl (by omega) (by omega)) ?_
        first | refine rg_q (q_loadA (ds := [_, _]) sz38 rfl rfl rfl) ?_ | refine rg_q (q_load_refA (ds := [_, _]) sz38 rfl rfl rfl rfl) ?_
        first | refine rg_q (q_move (x := .d (.sl _ _)) rfl) ?_ | refine rg_q (q_move (x := .rs _) rfl) ?_ | refine rg_q (q_move (x := .d (.v _)) rfl) ?_
        refine rg_q (q_move (x := .d (.v _)) rfl) ?_
        first | refine rg_q (q_indexAddr sl39 rfl rfl (by omega) (map_at (k := k) (by omega) hx)) ?_ | refine rg_q (q_indexAddr_rs sl39 rfl rfl rfl (by omega) (by omega)) ?_
        first | refine rg_q (q_loadA (ds := [_, _]) sz38 rfl rfl rfl) ?_ | refine rg_q (q_load_refA (ds := [_, _]) sz38 rfl rfl rfl rfl) ?_
        first | refine rg_q (q_load sz3 rfl rfl) ?_ | refine rg_q (q_load_ref sz3 rfl rfl rfl) ?_ | refine rg_q (q_load_tb (x := .d _) sz3 rfl rfl rfl) ?_ | refine rg_q (q_load_tb (x := .rs _) sz3 rfl rfl rfl) ?_
        first | refine rg_q (q_call en45 (.cons rfl (.cons rfl (.cons rfl .nil))) rfl (between_p _ _ _ hyr hxr ⟨hd1, hd2⟩)) ?_ | refine rg_q (q_callF en45 (.cons (by first | exact .d _ | exact .rs rfl | exact .ref rfl | exact .nil _ | exact .tref rfl (by repeat (first | exact .nil | refine .cons (.d _ rfl) ?_ | refine .cons (.rs rfl) ?_))) (.cons (by first | exact .d _ | exact .rs rfl | exact .ref rfl | exact .nil _ | exact .tref rfl (by repeat (first | exact .nil | refine .cons (.d _ rfl) ?_ | refine .cons (.rs rfl) ?_))) (.cons (by first | exact .d _ | exact .rs rfl | exact .ref rfl | exact .nil _ | exact .tref rfl (by repeat (first | exact .nil | refine .cons (.d _ rfl) ?_ | refine .cons (.rs rfl) ?_))) .nil))) rfl (between_p _ _ _ hyr hxr ⟨hd1, hd2⟩) (by first | exact .v _ | exact D.Flat.tupF (by repeat first | exact trivial | refine ⟨.v _, ?_⟩) | exact D.Flat.aggF (by repeat first | exact trivial | refine ⟨.v _, ?_⟩))) ?_
        refine rg_nil ?_
        first | refine aops_store sz69 rfl rfl (by first | exact .inl rfl | exact .inr ⟨_, rfl⟩) rfl rfl (by first | decide | simp; done | exact Nat.le_of_ble_eq_true rfl) rfl ?_ | refine aops_storeT (z := .rs _) sz69 rfl rfl rfl rfl (by first | decide | simp) rfl ?_ | refine aops_storeT (z := .d _) sz69 rfl rfl rfl rfl (by first | decide | simp) rfl ?_ | refine aops_storeTA sz69 rfl rfl (by first | exact .inl rfl | exact .inr ⟨_, rfl⟩) rfl rfl (by first | decide | simp) rfl ?_
        refine aops_q rfl (q_assign (x := .d (.v _)) rfl) ?_
        refine aops_nil ?_
        change Awp _ _ _ _ _
        refine awp_ret ?_
        refine ⟨_, (.cons (.cellA rfl rfl sz69 rfl) (.cons (.tmp (by first | exact .d _ | exact .rs rfl | exact .ref rfl | exact .tref rfl (.cons (.d _ rfl) (.cons (.rs rfl) .nil)))) .nil)), ?_⟩
        rw [hz]; rfl

def rngS (p : (Int × Int) × Int) : (Int × Int) × Int := if p.2 ≠ 0 then ((0, 0), p.2) else ((p.1.1 / p.1.2, ceilI p.1.1 p.1.2), 0)
theorem betw_in {a b : Int × Int} {d : Int} (ha : RowIn a) (hb : RowIn b) (h1 : a = b ∨ (a.1 ≤ d ∧ d ≤ b.1 ∧ a.1 < b.1)) : 1 ≤ (betw a b d).1 ∧ (betw a b d).1 ≤ 200000000000 ∧ 1 ≤ (betw a b d).2 ∧ (betw a b d).2 ≤ 100000 := by
  obtain ⟨a1, a2, a3, a4⟩ := ha
  obtain ⟨b1, b2, b3, b4⟩ := hb
  unfold betw
  split
  · simp only; omega
  · rename_i hne
    rcases h1 with h | ⟨h1, h2, h3⟩
    · exact absurd h hne
    · have e : a.2 * (b.1 - a.1) + (b.2 - a.2) * (d - a.1) = a.2 * (b.1 - d) + b.2 * (d - a.1) := by grind
      have m1 := mulb (a := a.2) (b := b.1 - d) (A := 1000000) (B := 100000) (by omega) (by omega) (by omega) (by omega)
      have m2 := mulb (a := b.2) (b := d - a.1) (A := 1000000) (B := 100000) (by omega) (by omega) (by omega) (by omega)
      have k1 : 1 * (b.1 - d) ≤ a.2 * (b.1 - d) := Int.mul_le_mul_of_nonneg_right a3 (by omega)
      have k2 : 1 * (d - a.1) ≤ b.2 * (d - a.1) := Int.mul_le_mul_of_nonneg_right b3 (by omega)
      simp only
      rw [e]
      omega
/-- What the search finds: the first one. -/
theorem idxOf_first {α : Type} (f : α → Bool) : ∀ (l : List α) (i : Nat), 0 ≤ idxOf f i l → ∃ k, idxOf f i l = ((i + k : Nat) : Int) ∧ (∃ x, l[k]? = some x ∧ f x = true) ∧ ∀ j, j < k → ∀ y, l[j]? = some y → f y = false
  | [], i, h => by simp [idxOf] at h
  | x :: xs, i, h => by
    unfold idxOf at h ⊢
    split
    · rename_i hx
      exact ⟨0, by simp, ⟨x, rfl, hx⟩, fun j hj => by omega⟩
    · rename_i hx
      rw [if_neg hx] at h
      obtain ⟨k, e, ⟨y, hy, hf⟩, hn⟩ := idxOf_first f xs (i + 1) h
      refine ⟨k + 1, by rw [e]; congr 1; omega, ⟨y, by simpa using hy, hf⟩, fun j hj z hz => ?_⟩
      cases j with
      | zero => simp at hz; subst hz; simpa using hx
      | succ j => exact hn j (by omega) z (by simpa using hz)
/-- The share is within bounds where there is one. -/
theorem echoS_in {l : List (Int × Int)} {d : Int} (h : (echoS l d).2 = 0) : 1 ≤ (echoS l d).1.1 ∧ (echoS l d).1.1 ≤ 200000000000 ∧ 1 ≤ (echoS l d).1.2 ∧ (echoS l d).1.2 ≤ 100000 := by
  unfold echoS at h ⊢
  split at h
  · rename_i hc; exact absurd h hc
  · rename_i hc
    have hT := ckT_tab (l := l) (by simpa using hc)
    split at h
    · simp at h
    · rename_i hr
      rw [if_neg hc, if_neg hr]
      simp only at h ⊢
      split at h
      · simp at h
      · rename_i hi
        rw [if_neg hi]
        have h0 : 0 ≤ idxOf (fun x : Int × Int => decide (d ≤ x.1)) 0 l := by omega
        obtain ⟨k, e, ⟨x, hx, hf⟩, hn⟩ := idxOf_first _ _ _ h0
        simp only [Nat.zero_add] at e
        rw [e] at hi ⊢
        have hk : k < l.length := by obtain ⟨h', -⟩ := List.getElem?_eq_some_iff.1 hx; exact h'
        simp only [decide_eq_true_eq, decide_eq_false_iff_not] at hf hn
        have hxr := hT.rows x (List.mem_of_getElem? hx)
        simp only [show ((k : Int)).toNat = k from by omega]
        rw [getD_at hx]
        by_cases hk0 : k = 0
        · subst hk0
          simp only [show (((0 : Nat) : Int) - 1).toNat = 0 from rfl]
          rw [getD_at hx]
          exact betw_in hxr hxr (.inl rfl)
        · obtain ⟨y, hy⟩ : ∃ y, l[k - 1]? = some y := ⟨_, List.getElem?_eq_getElem (by omega)⟩
          have hyr := hT.rows y (List.mem_of_getElem? hy)
          have hyd := hn (k - 1) (by omega) y hy
          simp only [show ((k : Int) - 1).toNat = k - 1 from by omega]
          rw [getD_at hy]
          exact betw_in hyr hxr (.inr ⟨by omega, hf, by omega⟩)

def gainS (p : (Int × Int) × Int) (t k : Int) : (Int × Int) × Int := if p.2 ≠ 0 then ((0, 0), p.2) else if echoE t ≠ 0 then ((0, 0), 2) else rngS ((k * t * p.1.2, p.1.1), 0)
theorem echoE_01 (t : Int) : echoE t = 0 ∨ echoE t = 2 := by unfold echoE rgd; split <;> simp
theorem echoE_in {t : Int} (h : echoE t = 0) : 1 ≤ t ∧ t ≤ 1000000 := by
  unfold echoE rgd at h
  split at h
  · rename_i hr; simpa [inR] using hr
  · simp at h
set_option maxRecDepth 100000 in
theorem GainAt_p (l : List (Int × Int)) (d t : Int) : PC Tryz.prog 10 [.sl 2 (l.map rowC), .v (.int .i64 (d)), .v (.int .i64 (t))] (.tup [.agg (shC (gainS (echoS l d) t 1000).1), .v (.int .i64 ((gainS (echoS l d) t 1000).2))]) := by
  have hb := fun h => echoS_in (l := l) (d := d) h
  generalize hS : echoS l d = S at *
  obtain ⟨⟨n, m⟩, e⟩ := S
  simp only at hb
  have hS1 : (echoS l d).1 = (n, m) := by rw [hS]
  have hS2 : (echoS l d).2 = e := by rw [hS]
  have hco := echoAt_p l d
  rw [hS1, hS2] at hco
  refine pc_of_awp Tryz.func10 rfl Tryz.ntmps10 (rs := [.cell 6 34, .tmp 7]) Tryz.results10 (by simp) fun w0 => ?_
  refine awp_seq ?_
  refine awp_region 0 mixed (by kernel_rfl) ?_
  refine rg_nil ?_
  refine aops_alloc zr34 rfl rfl rfl ?_
  refine aops_q rfl (q_assign (x := .d (.v _)) rfl) ?_
  refine aops_nil ?_
  change Awp _ _ _ _ _
  refine awp_seq ?_
  refine awp_region 6 mixed (by kernel_rfl) ?_
  first | refine rg_q (q_move (x := .d (.sl _ _)) rfl) ?_ | refine rg_q (q_move (x := .rs _) rfl) ?_ | refine rg_q (q_move (x := .d (.v _)) rfl) ?_
  refine rg_q (q_move (x := .d (.v _)) rfl) ?_
  first | refine rg_q (q_call en24 (.cons rfl (.cons rfl .nil)) rfl (hco)) ?_ | refine rg_q (q_callF en24 (.cons (by first | exact .d _ | exact .rs rfl | exact .ref rfl | exact .nil _ | exact .tref rfl (by repeat (first | exact .nil | refine .cons (.d _ rfl) ?_ | refine .cons (.rs rfl) ?_))) (.cons (by first | exact .d _ | exact .rs rfl | exact .ref rfl | exact .nil _ | exact .tref rfl (by repeat (first | exact .nil | refine .cons (.d _ rfl) ?_ | refine .cons (.rs rfl) ?_))) .nil)) rfl (hco) (by first | exact .v _ | exact D.Flat.tupF (by repeat first | exact trivial | refine ⟨.v _, ?_⟩) | exact D.Flat.aggF (by repeat first | exact trivial | refine ⟨.v _, ?_⟩))) ?_
  refine rg_q (q_move (x := .d (.tup _)) rfl) ?_
  refine rg_q (q_extract rfl rfl) ?_
  refine rg_q (q_extract rfl rfl) ?_
  refine rg_nil ?_
  refine aops_alloc zr69 rfl rfl rfl ?_
  first | refine aops_store sz69 rfl rfl (by first | exact .inl rfl | exact .inr ⟨_, rfl⟩) rfl rfl (by first | decide | simp; done | exact Nat.le_of_ble_eq_true rfl) rfl ?_ | refine aops_storeT (z := .rs _) sz69 rfl rfl rfl rfl (by first | decide | simp) rfl ?_ | refine aops_storeT (z := .d _) sz69 rfl rfl rfl rfl (by first | decide | simp) rfl ?_ | refine aops_storeTA sz69 rfl rfl (by first | exact .inl rfl | exact .inr ⟨_, rfl⟩) rfl rfl (by first | decide | simp) rfl ?_
  refine aops_q rfl (q_assign (x := .d (.v _)) rfl) ?_
  refine aops_nil ?_
  change Awp _ _ _ _ _
  refine awp_seq ?_
  refine awp_seq ?_
  refine awp_region 6 mixed (by kernel_rfl) ?_
  refine rg_q (q_move (x := .d (.v _)) rfl) ?_
  refine rg_q (q_move (x := .d (.v _)) rfl) ?_
  first | refine rg_q (q_call en26 (.cons rfl .nil) rfl (echoErr_p _)) ?_ | refine rg_q (q_callF en26 (.cons (by first | exact .d _ | exact .rs rfl | exact .ref rfl | exact .nil _ | exact .tref rfl (by repeat (first | exact .nil | refine .cons (.d _ rfl) ?_ | refine .cons (.rs rfl) ?_))) .nil) rfl (echoErr_p _) (by first | exact .v _ | exact D.Flat.tupF (by repeat first | exact trivial | refine ⟨.v _, ?_⟩) | exact D.Flat.aggF (by repeat first | exact trivial | refine ⟨.v _, ?_⟩))) ?_
  refine rg_q (q_buildSlice sl97 zr26 rfl rfl (by decide) (.cons rfl (by first | exact .inl rfl | exact .inr ⟨_, rfl⟩) (.cons rfl (by first | exact .inl rfl | exact .inr ⟨_, rfl⟩) .nil)) ⟨rfl, rfl, rfl, rfl, trivial⟩ rfl (by decide) rfl) ?_
  first | refine rg_q (q_call en25 (.cons rfl .nil) rfl (first_p [_, _])) ?_ | refine rg_q (q_callF en25 (.cons (by first | exact .d _ | exact .rs rfl | exact .ref rfl | exact .nil _ | exact .tref rfl (by repeat (first | exact .nil | refine .cons (.d _ rfl) ?_ | refine .cons (.rs rfl) ?_))) .nil) rfl (first_p [_, _]) (by first | exact .v _ | exact D.Flat.tupF (by repeat first | exact trivial | refine ⟨.v _, ?_⟩) | exact D.Flat.aggF (by repeat first | exact trivial | refine ⟨.v _, ?_⟩))) ?_ | refine rg_q (q_call en25 (.cons rfl .nil) rfl (first_p [_, _, _])) ?_ | refine rg_q (q_callF en25 (.cons (by first | exact .d _ | exact .rs rfl | exact .ref rfl | exact .nil _ | exact .tref rfl (by repeat (first | exact .nil | refine .cons (.d _ rfl) ?_ | refine .cons (.rs rfl) ?_))) .nil) rfl (first_p [_, _, _]) (by first | exact .v _ | exact D.Flat.tupF (by repeat first | exact trivial | refine ⟨.v _, ?_⟩) | exact D.Flat.aggF (by repeat first | exact trivial | refine ⟨.v _, ?_⟩))) ?_
  refine rg_q (q_assign (x := .d (.v _)) rfl) ?_
  refine rg_nil ?_
  refine aops_nil ?_
  change Awp _ _ _ _ _
  refine awp_seq ?_
  refine awp_region 2 mixed (by kernel_rfl) ?_
  refine rg_q (q_move (x := .d (.v _)) rfl) ?_
  refine rg_q (q_neq rfl rfl) ?_
  refine rg_nil ?_
  refine aops_nil ?_
  change Awp _ _ _ _ _
  refine awp_cond rfl (fun hc3 => ?_) (fun hc3 => ?_)
  ·
    (try simp only [decide_eq_true_eq, decide_eq_false_iff_not, Bool.and_eq_true, Bool.or_eq_true, Bool.and_eq_false_iff, Bool.or_eq_false_iff, Bool.not_eq_true', Bool.not_eq_false', Bool.not_true, Bool.not_false, bif_and, bif_or, Bool.not_not, ne_eq, Decidable.not_not, not_true_eq_false, not_false_eq_true, Int.not_le, Int.not_lt] at hc3)
    have hz : gainS ((n, m), e) t 1000 = ((0, 0), firstE [e, echoE t]) := by
      unfold gainS
      simp only [firstE] at hc3 ⊢
      by_cases he : e = 0
      · subst he
        rcases echoE_01 t with h | h
        · rw [h] at hc3; simp at hc3
        · simp [h]
      · simp [he]
    refine awp_seq ?_
    refine awp_region 2 mixed (by kernel_rfl) ?_
    refine rg_q (q_build (cs := [_, _]) pl34 zr34 rfl .nil trivial rfl) ?_
    refine rg_q (q_move (x := .d (.v _)) rfl) ?_
    refine rg_nil ?_
    first | refine aops_store sz34 rfl rfl (by first | exact .inl rfl | exact .inr ⟨_, rfl⟩) rfl rfl (by first | decide | simp; done | exact Nat.le_of_ble_eq_true rfl) rfl ?_ | refine aops_storeT (z := .rs _) sz34 rfl rfl rfl rfl (by first | decide | simp) rfl ?_ | refine aops_storeT (z := .d _) sz34 rfl rfl rfl rfl (by first | decide | simp) rfl ?_ | refine aops_storeTA sz34 rfl rfl (by first | exact .inl rfl | exact .inr ⟨_, rfl⟩) rfl rfl (by first | decide | simp) rfl ?_
    refine aops_q rfl (q_assign (x := .d (.v _)) rfl) ?_
    refine aops_nil ?_
    change Awp _ _ _ _ _
    refine awp_ret ?_
    refine ⟨_, (.cons (.cellA rfl rfl sz34 rfl) (.cons (.tmp (by first | exact .d _ | exact .rs rfl | exact .ref rfl | exact .tref rfl (.cons (.d _ rfl) (.cons (.rs rfl) .nil)))) .nil)), ?_⟩
    rw [hz]; rfl
  ·
    (try simp only [decide_eq_true_eq, decide_eq_false_iff_not, Bool.and_eq_true, Bool.or_eq_true, Bool.and_eq_false_iff, Bool.or_eq_false_iff, Bool.not_eq_true', Bool.not_eq_false', Bool.not_true, Bool.not_false, bif_and, bif_or, Bool.not_not, ne_eq, Decidable.not_not, not_true_eq_false, not_false_eq_true, Int.not_le, Int.not_lt] at hc3)
    have he : e = 0 := by
      by_cases he : e = 0
      · exact he
      · simp [firstE, he] at hc3
    have ht : echoE t = 0 := by
      rcases echoE_01 t with h | h
      · exact h
      · simp [firstE, he, h] at hc3
    obtain ⟨b1, b2, b3, b4⟩ := hb he
    obtain ⟨t1, t2⟩ := echoE_in ht
    have m0 := mulb (a := 1000 * t) (b := m) (A := 1000000000) (B := 100000) (by omega) (by omega) (by omega) (by omega)
    have hz : gainS ((n, m), e) t 1000 = ((1000 * t * m / n, ceilI (1000 * t * m) n), 0) := by unfold gainS rngS; simp [he, ht]
    refine awp_skip ?_
    change Awp _ _ _ _ _
    refine awp_seq ?_
    refine awp_region 5 mixed (by kernel_rfl) ?_
    first | refine rg_q (q_loadA (ds := [_, _]) sz69 rfl rfl rfl) ?_ | refine rg_q (q_load_refA (ds := [_, _]) sz69 rfl rfl rfl rfl) ?_
    refine rg_q (q_move (x := .d (.v _)) rfl) ?_
    refine rg_q (q_mul rfl rfl (In64.mk (by omega) (by omega))) ?_
    first | refine rg_q (q_call en27 (.cons rfl (.cons rfl .nil)) rfl (over_p (_, _) _ ⟨by simp only; omega, by simp only; omega⟩)) ?_ | refine rg_q (q_callF en27 (.cons (by first | exact .d _ | exact .rs rfl | exact .ref rfl | exact .nil _ | exact .tref rfl (by repeat (first | exact .nil | refine .cons (.d _ rfl) ?_ | refine .cons (.rs rfl) ?_))) (.cons (by first | exact .d _ | exact .rs rfl | exact .ref rfl | exact .nil _ | exact .tref rfl (by repeat (first | exact .nil | refine .cons (.d _ rfl) ?_ | refine .cons (.rs rfl) ?_))) .nil)) rfl (over_p (_, _) _ ⟨by simp only; omega, by simp only; omega⟩) (by first | exact .v _ | exact D.Flat.tupF (by repeat first | exact trivial | refine ⟨.v _, ?_⟩) | exact D.Flat.aggF (by repeat first | exact trivial | refine ⟨.v _, ?_⟩))) ?_
    first | refine rg_q (q_call en28 (.cons rfl .nil) rfl (enclosed_p (_, _) ⟨by simp only; omega, by simp only; omega⟩ (by simp only; omega))) ?_ | refine rg_q (q_callF en28 (.cons (by first | exact .d _ | exact .rs rfl | exact .ref rfl | exact .nil _ | exact .tref rfl (by repeat (first | exact .nil | refine .cons (.d _ rfl) ?_ | refine .cons (.rs rfl) ?_))) .nil) rfl (enclosed_p (_, _) ⟨by simp only; omega, by simp only; omega⟩ (by simp only; omega)) (by first | exact .v _ | exact D.Flat.tupF (by repeat first | exact trivial | refine ⟨.v _, ?_⟩) | exact D.Flat.aggF (by repeat first | exact trivial | refine ⟨.v _, ?_⟩))) ?_
    refine rg_nil ?_
    first | refine aops_store sz34 rfl rfl (by first | exact .inl rfl | exact .inr ⟨_, rfl⟩) rfl rfl (by first | decide | simp; done | exact Nat.le_of_ble_eq_true rfl) rfl ?_ | refine aops_storeT (z := .rs _) sz34 rfl rfl rfl rfl (by first | decide | simp) rfl ?_ | refine aops_storeT (z := .d _) sz34 rfl rfl rfl rfl (by first | decide | simp) rfl ?_ | refine aops_storeTA sz34 rfl rfl (by first | exact .inl rfl | exact .inr ⟨_, rfl⟩) rfl rfl (by first | decide | simp) rfl ?_
    refine aops_q rfl (q_assign (x := .d (.v _)) rfl) ?_
    refine aops_nil ?_
    change Awp _ _ _ _ _
    refine awp_ret ?_
    refine ⟨_, (.cons (.cellA rfl rfl sz34 rfl) (.cons (.tmp (by first | exact .d _ | exact .rs rfl | exact .ref rfl | exact .tref rfl (.cons (.d _ rfl) (.cons (.rs rfl) .nil)))) .nil)), ?_⟩
    rw [hz]; rfl
end Go.Proofs.YtepaabbfindaeaaGreatDoor.Am.M
