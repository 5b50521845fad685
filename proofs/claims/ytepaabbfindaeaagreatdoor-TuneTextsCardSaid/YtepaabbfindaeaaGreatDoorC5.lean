/- Contracts over the abstract machine: books of steps (package tune). Conditions: none. -/
import Derived.Test.YtepaabbfindaeaaGreatDoorC4
set_option linter.unusedVariables false
set_option linter.unusedSimpArgs false
namespace Go.Proofs.YtepaabbfindaeaaGreatDoor.Am.M
open Go

structure Lst where
  don : Bool
  kept : Bool
  minute : Int
  warmth : Int
def lastC (x : Lst) : List D := [.v (.bool x.don), .v (.bool x.kept), .v (.int .i64 x.minute), .v (.int .i64 x.warmth)]
structure Evt where
  minute : Int
  step : Int
  warmth : Int
def evC (x : Evt) : List D := [.v (.int .i64 x.minute), .v (.int .i64 x.step), .v (.int .i64 x.warmth)]
def zeroL : Lst := ⟨false, false, 0, 0⟩
def bookD (l : List Stp) (L : List Lst) : D := .pt [.sl 4 (l.map stepC), .sl 4 (L.map lastC)] 0
set_option maxRecDepth 100000 in
theorem indexInt_p (l : List Int) (n : Int) : PC Tryz.prog 86 [.sl 1 (l.map iC), .v (.int .i64 (n))] (.v (.int .i64 (idxOf (fun x => decide (n = x)) 0 l))) := by
  refine pc_of_awp Tryz.func86 rfl Tryz.ntmps86 (rs := [.tmp 4]) Tryz.results86 (by simp) fun w0 => ?_
  refine awp_seq ?_
  refine awp_region 1 mixed (by kernel_rfl) ?_
  refine rg_q (q_assign (x := .d (.v _)) rfl) ?_
  refine rg_nil ?_
  refine aops_nil ?_
  change Awp _ _ _ _ _
  refine awp_seq ?_
  refine awp_seq ?_
  refine awp_region 3 mixed (by kernel_rfl) ?_
  first | refine rg_q (q_move (x := .d (.sl _ _)) rfl) ?_ | refine rg_q (q_move (x := .rs _) rfl) ?_ | refine rg_q (q_move (x := .d (.v _)) rfl) ?_
  first | refine rg_q (q_len isl50 rfl (by first | exact len_map _ _ | rfl)) ?_ | refine rg_q (q_len_rs isl50 rfl rfl) ?_ | refine rg_q (q_len_nil isl50 rfl) ?_
  refine rg_q (q_move (x := .d (.v _)) rfl) ?_
  refine rg_nil ?_
  refine aops_nil ?_
  change Awp _ _ _ _ _
  first | refine awp_len (t := 6) rfl (fun hl6 => ?_) | skip
  (try simp only [List.length_map] at hl6)
  refine awp_block ?_
  refine awp_loopH [4, 5, 8, 9, 10, 11, 12, 13, 14, 15, 16, 17, 18] [] (α := Nat) (fun k => [(8, T.i (k : Int))]) (fun k => []) (fun k => k ≤ l.length ∧ idxOf (fun x => decide (n = x)) 0 l = idxOf (fun x => decide (n = x)) k (l.drop k)) (fun k => l.length - k) 0 ⟨Nat.zero_le _, rfl⟩ ?_ ?_
  · exact le_head (ms := []) (by repeat (first | exact Out.refl _ | exact Out.head rfl rfl | (refine Out.put ?_ rfl) | (refine Out.site ?_ rfl) | (refine Out.putn ?_) | (refine Out.headIn ?_ rfl rfl rfl) | (refine Out.called ?_ rfl rfl))) ⟨(by first | rfl | (simp; done)), trivial⟩ trivial rfl rfl rfl rfl
  ·
    intro k ⟨hk, hh⟩
    refine awp_seq ?_
    refine awp_region 1 mixed (by kernel_rfl) ?_
    refine rg_q (q_lss rfl rfl) ?_
    refine rg_nil ?_
    refine aops_nil ?_
    change Awp _ _ _ _ _
    refine awp_seq ?_
    refine awp_cond rfl (fun hc2 => ?_) (fun hc2 => ?_)
    ·
      (try simp only [decide_eq_true_eq, decide_eq_false_iff_not, Bool.and_eq_true, Bool.or_eq_true, Bool.and_eq_false_iff, Bool.or_eq_false_iff, Bool.not_eq_true', Bool.not_eq_false', Bool.not_true, Bool.not_false, bif_and, bif_or, Bool.not_not, ne_eq, Decidable.not_not, not_true_eq_false, not_false_eq_true, Int.not_le, Int.not_lt] at hc2)
      have hlt : k < l.length := by omega
      have hx := List.getElem?_eq_getElem hlt
      have hd : idxOf (fun x => decide (n = x)) k (l.drop k) = if decide (n = l[k]) = true then (k : Int) else idxOf (fun x => decide (n = x)) (k + 1) (l.drop (k + 1)) := by rw [List.drop_eq_getElem_cons hlt]; rfl
      generalize l[k] = x at *
      refine awp_skip ?_
      change Awp _ _ _ _ _
      refine awp_seq ?_
      refine awp_block ?_
      refine awp_seq ?_
      refine awp_region 2 mixed (by kernel_rfl) ?_
      refine rg_q (q_move (x := .d (.v _)) rfl) ?_
      refine rg_q (q_assign (x := .d (.v _)) rfl) ?_
      refine rg_nil ?_
      refine aops_nil ?_
      change Awp _ _ _ _ _
      refine awp_seq ?_
      refine awp_region 6 mixed (by kernel_rfl) ?_
      refine rg_q (q_move (x := .d (.v _)) rfl) ?_
      first | refine rg_q (q_move (x := .d (.sl _ _)) rfl) ?_ | refine rg_q (q_move (x := .rs _) rfl) ?_ | refine rg_q (q_move (x := .d (.v _)) rfl) ?_
      refine rg_q (q_move (x := .d (.v _)) rfl) ?_
      first | refine rg_q (q_indexAddr sl50 rfl rfl (by omega) (map_at (by omega) hx)) ?_ | refine rg_q (q_indexAddr_rs sl50 rfl rfl rfl (by omega) (by omega)) ?_
      first | refine rg_q (q_load sz3 rfl rfl) ?_ | refine rg_q (q_load_ref sz3 rfl rfl rfl) ?_ | refine rg_q (q_load_tb (x := .d _) sz3 rfl rfl rfl) ?_ | refine rg_q (q_load_tb (x := .rs _) sz3 rfl rfl rfl) ?_
      refine rg_q (q_eql rfl rfl) ?_
      refine rg_nil ?_
      refine aops_nil ?_
      change Awp _ _ _ _ _
      refine awp_cond rfl (fun hc4 => ?_) (fun hc4 => ?_)
      ·
        (try simp only [decide_eq_true_eq, decide_eq_false_iff_not, Bool.and_eq_true, Bool.or_eq_true, Bool.and_eq_false_iff, Bool.or_eq_false_iff, Bool.not_eq_true', Bool.not_eq_false', Bool.not_true, Bool.not_false, bif_and, bif_or, Bool.not_not, ne_eq, Decidable.not_not, not_true_eq_false, not_false_eq_true, Int.not_le, Int.not_lt] at hc4)
        refine awp_seq ?_
        refine awp_region 2 mixed (by kernel_rfl) ?_
        refine rg_q (q_move (x := .d (.v _)) rfl) ?_
        refine rg_q (q_assign (x := .d (.v _)) rfl) ?_
        refine rg_nil ?_
        refine aops_nil ?_
        change Awp _ _ _ _ _
        refine awp_ret ?_
        refine ⟨_, (.cons (.tmp (by first | exact .d _ | exact .rs rfl | exact .ref rfl | exact .tref rfl (.cons (.d _ rfl) (.cons (.rs rfl) .nil)))) .nil), ?_⟩
        rw [hh, hd, if_pos (by simpa using hc4)]; rfl
      ·
        (try simp only [decide_eq_true_eq, decide_eq_false_iff_not, Bool.and_eq_true, Bool.or_eq_true, Bool.and_eq_false_iff, Bool.or_eq_false_iff, Bool.not_eq_true', Bool.not_eq_false', Bool.not_true, Bool.not_false, bif_and, bif_or, Bool.not_not, ne_eq, Decidable.not_not, not_true_eq_false, not_false_eq_true, Int.not_le, Int.not_lt] at hc4)
        refine awp_skip ?_
        change Awp _ _ _ _ _
        refine awp_region 2 mixed (by kernel_rfl) ?_
        refine rg_q (q_add rfl rfl (In64.mk (by omega) (by omega))) ?_
        refine rg_q (q_move (x := .d (.v _)) rfl) ?_
        refine rg_nil ?_
        refine aops_nil ?_
        refine ⟨k + 1, ⟨by omega, by rw [hh, hd, if_neg (by simpa using hc4)]⟩, by omega, ?_⟩
        exact le_head (ms := []) (by repeat (first | exact Out.refl _ | exact Out.head rfl rfl | (refine Out.put ?_ rfl) | (refine Out.site ?_ rfl) | (refine Out.putn ?_) | (refine Out.headIn ?_ rfl rfl rfl) | (refine Out.called ?_ rfl rfl))) ⟨(by first | rfl | (simp; done)), trivial⟩ trivial rfl rfl rfl rfl
    ·
      (try simp only [decide_eq_true_eq, decide_eq_false_iff_not, Bool.and_eq_true, Bool.or_eq_true, Bool.and_eq_false_iff, Bool.or_eq_false_iff, Bool.not_eq_true', Bool.not_eq_false', Bool.not_true, Bool.not_false, bif_and, bif_or, Bool.not_not, ne_eq, Decidable.not_not, not_true_eq_false, not_false_eq_true, Int.not_le, Int.not_lt] at hc2)
      refine awp_exit ?_
      change Awp _ _ _ _ _
      refine awp_seq ?_
      refine awp_region 1 mixed (by kernel_rfl) ?_
      refine rg_q (q_assign (x := .d (.v _)) rfl) ?_
      refine rg_nil ?_
      refine aops_nil ?_
      change Awp _ _ _ _ _
      refine awp_ret ?_
      refine ⟨_, (.cons (.tmp (by first | exact .d _ | exact .rs rfl | exact .ref rfl | exact .tref rfl (.cons (.d _ rfl) (.cons (.rs rfl) .nil)))) .nil), ?_⟩
      rw [hh, List.drop_of_length_le (by omega)]; rfl

theorem idxOf_mem {α : Type} (f : α → Bool) (l : List α) : decide (0 ≤ idxOf f 0 l) = l.any f := by
  rcases idxOf_bd f l 0 with h | h
  · rw [h]
    have hn : ∀ x ∈ l, f x = false := by
      have key : ∀ (l : List α) (i : Nat), idxOf f i l = -1 → ∀ x ∈ l, f x = false := by
        intro l
        induction l with
        | nil => intro i _ x hx; cases hx
        | cons y ys ih =>
          intro i hi x hx
          unfold idxOf at hi
          split at hi
          · omega
          · rename_i hy
            rcases List.mem_cons.1 hx with rfl | hx
            · simpa using hy
            · exact ih _ hi x hx
      exact key l 0 h
    symm
    rw [show decide ((0 : Int) ≤ -1) = false from rfl, List.any_eq_false]
    intro x hx; simp [hn x hx]
  · obtain ⟨k, _, ⟨x, hx, hf⟩, _⟩ := idxOf_first f l 0 (by omega)
    rw [decide_eq_true (by omega)]
    symm
    rw [List.any_eq_true]
    exact ⟨x, List.mem_of_getElem? hx, hf⟩
set_option maxRecDepth 100000 in
theorem contains_p (l : List Int) (n : Int) : PC Tryz.prog 73 [.sl 1 (l.map iC), .v (.int .i64 (n))] (.v (.bool (l.any fun x => decide (n = x)))) := by
  refine pc_of_awp Tryz.func73 rfl Tryz.ntmps73 (rs := [.tmp 4]) Tryz.results73 (by simp) fun w0 => ?_
  refine awp_seq ?_
  refine awp_region 1 mixed (by kernel_rfl) ?_
  refine rg_q (q_assign (x := .d (.v _)) rfl) ?_
  refine rg_nil ?_
  refine aops_nil ?_
  change Awp _ _ _ _ _
  refine awp_seq ?_
  refine awp_region 5 mixed (by kernel_rfl) ?_
  first | refine rg_q (q_move (x := .d (.sl _ _)) rfl) ?_ | refine rg_q (q_move (x := .rs _) rfl) ?_ | refine rg_q (q_move (x := .d (.v _)) rfl) ?_
  refine rg_q (q_move (x := .d (.v _)) rfl) ?_
  first | refine rg_q (q_call en86 (.cons rfl (.cons rfl .nil)) rfl (indexInt_p _ _)) ?_ | refine rg_q (q_callF en86 (.cons (by first | exact .d _ | exact .rs rfl | exact .ref rfl | exact .nil _ | exact .tref rfl (by repeat (first | exact .nil | refine .cons (.d _ rfl) ?_ | refine .cons (.rs rfl) ?_))) (.cons (by first | exact .d _ | exact .rs rfl | exact .ref rfl | exact .nil _ | exact .tref rfl (by repeat (first | exact .nil | refine .cons (.d _ rfl) ?_ | refine .cons (.rs rfl) ?_))) .nil)) rfl (indexInt_p _ _) (by first | exact .v _ | exact D.Flat.tupF (by repeat first | exact trivial | refine ⟨.v _, ?_⟩) | exact D.Flat.aggF (by repeat first | exact trivial | refine ⟨.v _, ?_⟩))) ?_
  refine rg_q (q_geq rfl rfl) ?_
  refine rg_q (q_assign (x := .d (.v _)) rfl) ?_
  refine rg_nil ?_
  refine aops_nil ?_
  change Awp _ _ _ _ _
  refine awp_ret ?_
  refine ⟨_, (.cons (.tmp (by first | exact .d _ | exact .rs rfl | exact .ref rfl | exact .tref rfl (.cons (.d _ rfl) (.cons (.rs rfl) .nil)))) .nil), ?_⟩
  rw [← idxOf_mem]; rfl
set_option maxRecDepth 100000 in
theorem small_p (n m : Int) (hm : 0 ≤ m) (hm2 : m ≤ 4611686018427387904) : PC Tryz.prog 54 [.v (.int .i64 (n)), .v (.int .i64 (m))] (.v (.bool (inR (-m) n m))) := by
  refine pc_of_awp Tryz.func54 rfl Tryz.ntmps54 (rs := [.tmp 4]) Tryz.results54 (by simp) fun w0 => ?_
  refine awp_seq ?_
  refine awp_region 1 mixed (by kernel_rfl) ?_
  refine rg_q (q_assign (x := .d (.v _)) rfl) ?_
  refine rg_nil ?_
  refine aops_nil ?_
  change Awp _ _ _ _ _
  refine awp_seq ?_
  refine awp_region 6 mixed (by kernel_rfl) ?_
  refine rg_q (q_move (x := .d (.v _)) rfl) ?_
  refine rg_q (q_move (x := .d (.v _)) rfl) ?_
  refine rg_q (q_neg rfl (In64.mk (by omega) (by omega))) ?_
  refine rg_q (q_move (x := .d (.v _)) rfl) ?_
  first | refine rg_q (q_call en32 (.cons rfl (.cons rfl (.cons rfl .nil))) rfl (within_p _ _ _)) ?_ | refine rg_q (q_callF en32 (.cons (by first | exact .d _ | exact .rs rfl | exact .ref rfl | exact .nil _ | exact .tref rfl (by repeat (first | exact .nil | refine .cons (.d _ rfl) ?_ | refine .cons (.rs rfl) ?_))) (.cons (by first | exact .d _ | exact .rs rfl | exact .ref rfl | exact .nil _ | exact .tref rfl (by repeat (first | exact .nil | refine .cons (.d _ rfl) ?_ | refine .cons (.rs rfl) ?_))) (.cons (by first | exact .d _ | exact .rs rfl | exact .ref rfl | exact .nil _ | exact .tref rfl (by repeat (first | exact .nil | refine .cons (.d _ rfl) ?_ | refine .cons (.rs rfl) ?_))) .nil))) rfl (within_p _ _ _) (by first | exact .v _ | exact D.Flat.tupF (by repeat first | exact trivial | refine ⟨.v _, ?_⟩) | exact D.Flat.aggF (by repeat first | exact trivial | refine ⟨.v _, ?_⟩))) ?_
  refine rg_q (q_assign (x := .d (.v _)) rfl) ?_
  refine rg_nil ?_
  refine aops_nil ?_
  change Awp _ _ _ _ _
  refine awp_ret ?_
  refine ⟨_, (.cons (.tmp (by first | exact .d _ | exact .rs rfl | exact .ref rfl | exact .tref rfl (.cons (.d _ rfl) (.cons (.rs rfl) .nil)))) .nil), ?_⟩
  rfl
set_option maxRecDepth 100000 in
theorem newBook_p (l : List Stp) (hl : l.length ≤ 10) : PCS Tryz.prog 53 [.d (.sl 4 (l.map stepC))] [] (.ref 0 0) [.tbox [.d (.sl 4 (l.map stepC)), .rs 1], .row 108 4 ((List.replicate l.length zeroL).map lastC)] := by
  refine pcs_of_awp Tryz.func53 rfl Tryz.ntmps53 (rs := [.tmp 2]) Tryz.results53 (by simp) fun w0 => ?_
  refine awp_seq ?_
  refine awp_region 1 mixed (by kernel_rfl) ?_
  first | refine rg_q (q_assign (x := .d (.pt _ _)) rfl) ?_ | refine rg_q (q_assign (x := .ref _ _) rfl) ?_ | refine rg_q (q_assign (x := .d (.v _)) rfl) ?_ | refine rg_q (q_assign (x := .d _) rfl) ?_
  refine rg_nil ?_
  refine aops_nil ?_
  change Awp _ _ _ _ _
  refine awp_seq ?_
  refine awp_region 3 mixed (by kernel_rfl) ?_
  first | refine rg_q (q_move (x := .d (.sl _ _)) rfl) ?_ | refine rg_q (q_move (x := .rs _) rfl) ?_ | refine rg_q (q_move (x := .d (.v _)) rfl) ?_
  first | refine rg_q (q_move (x := .d (.sl _ _)) rfl) ?_ | refine rg_q (q_move (x := .rs _) rfl) ?_ | refine rg_q (q_move (x := .d (.v _)) rfl) ?_
  first | refine rg_q (q_len isl46 rfl (by first | exact len_map _ _ | rfl)) ?_ | refine rg_q (q_len_rs isl46 rfl rfl) ?_ | refine rg_q (q_len_nil isl46 rfl) ?_
  refine rg_nil ?_
  refine aops_make sl105 zr108 by108 rfl rfl rfl rfl (by (try simp only [List.length_map]); omega) (by (try simp only [List.length_map]); omega) rfl rfl ?_
  refine aops_buildbox (cs := [_, _]) pl110 zr110 rfl (by first | exact .one rfl rfl (by first | exact .one rfl rfl .nil | exact .agg rfl .nil) | exact .agg rfl (by first | exact .one rfl rfl .nil | exact .agg rfl .nil)) (by exact ⟨⟨rfl, by decide⟩, ⟨rfl, by decide⟩, trivial⟩) (by rfl) rfl rfl rfl ?_
  first | refine aops_q rfl (q_assign (x := .d (.pt _ _)) rfl) ?_ | refine aops_q rfl (q_assign (x := .ref _ _) rfl) ?_ | refine aops_q rfl (q_assign (x := .d (.v _)) rfl) ?_ | refine aops_q rfl (q_assign (x := .d _) rfl) ?_
  refine aops_nil ?_
  change Awp _ _ _ _ _
  first | refine awp_len (t := 4) rfl (fun hl4 => ?_) | skip
  (try simp only [List.length_map] at hl4)
  refine awp_ret ?_
  exact end_mk (.inl rfl) [8, 6] (.tmp rfl) (by repeat (first | exact trivial | refine ⟨(by first | rfl | (rw [List.map_replicate]; rfl)), ?_⟩)) rfl
set_option maxRecDepth 100000 in
theorem clone_p (L : List Lst) (h0 : 0 < L.length) (h1 : L.length ≤ 10) : PCS Tryz.prog 55 [.d (.sl 4 (L.map lastC))] [] (.rs 0) [.row 108 4 (L.map lastC)] := by
  refine pcs_of_awp Tryz.func55 rfl Tryz.ntmps55 (rs := [.tmp 2]) Tryz.results55 (by simp) fun w0 => ?_
  refine awp_seq ?_
  refine awp_region 1 mixed (by kernel_rfl) ?_
  first | refine rg_q (q_assign (x := .d (.sl _ _)) rfl) ?_ | refine rg_q (q_assign (x := .rs _) rfl) ?_ | refine rg_q (q_assign (x := .d (.v _)) rfl) ?_
  refine rg_nil ?_
  refine aops_nil ?_
  change Awp _ _ _ _ _
  refine awp_seq ?_
  refine awp_seq ?_
  refine awp_region 2 mixed (by kernel_rfl) ?_
  first | refine rg_q (q_move (x := .d (.sl _ _)) rfl) ?_ | refine rg_q (q_move (x := .rs _) rfl) ?_ | refine rg_q (q_move (x := .d (.v _)) rfl) ?_
  first | refine rg_q (q_eqnil_rs sl105 rfl rfl (by (try simp only [List.length_map]); omega)) ?_ | refine rg_q (q_eqnil_sl sl105 rfl (by (try simp only [List.length_map]); omega)) ?_
  refine rg_nil ?_
  refine aops_nil ?_
  change Awp _ _ _ _ _
  refine awp_cond rfl (fun hc1 => ?_) (fun hc1 => ?_)
  ·
    exfalso; (try simp only [decide_eq_true_eq, decide_eq_false_iff_not, Bool.and_eq_true, Bool.or_eq_true, Bool.and_eq_false_iff, Bool.or_eq_false_iff, Bool.not_eq_true', Bool.not_eq_false', Bool.not_true, Bool.not_false, bif_and, bif_or, Bool.not_not, ne_eq, Decidable.not_not, not_true_eq_false, not_false_eq_true, Int.not_le, Int.not_lt] at hc1); first | omega | simp_all
  ·
    (try simp only [decide_eq_true_eq, decide_eq_false_iff_not, Bool.and_eq_true, Bool.or_eq_true, Bool.and_eq_false_iff, Bool.or_eq_false_iff, Bool.not_eq_true', Bool.not_eq_false', Bool.not_true, Bool.not_false, bif_and, bif_or, Bool.not_not, ne_eq, Decidable.not_not, not_true_eq_false, not_false_eq_true, Int.not_le, Int.not_lt] at hc1)
    refine awp_skip ?_
    change Awp _ _ _ _ _
    refine awp_seq ?_
    refine awp_region 0 mixed (by kernel_rfl) ?_
    refine rg_nil ?_
    refine aops_empty sl105 zr108 rfl rfl ?_
    first | refine aops_q rfl (q_move (x := .d (.sl _ _)) rfl) ?_ | refine aops_q rfl (q_move (x := .rs _) rfl) ?_ | refine aops_q rfl (q_move (x := .d (.v _)) rfl) ?_
    first | refine aops_append sl105 zr108 by108 rfl (by decide) rfl rfl rfl rfl (by (try simp only [List.length_map, List.length_append, List.length_cons, List.length_nil]); omega) (by (try simp only [List.length_map, List.length_append, List.length_cons, List.length_nil]); omega) rfl rfl ?_ | refine aops_appendR sl105 zr108 by108 rfl (by decide) rfl rfl rfl rfl rfl (by (try simp only [List.length_map, List.length_append, List.length_cons, List.length_nil]); omega) (by (try simp only [List.length_map, List.length_append, List.length_cons, List.length_nil]); omega) rfl rfl ?_
    first | refine aops_q rfl (q_assign (x := .d (.sl _ _)) rfl) ?_ | refine aops_q rfl (q_assign (x := .rs _) rfl) ?_ | refine aops_q rfl (q_assign (x := .d (.v _)) rfl) ?_
    refine aops_nil ?_
    change Awp _ _ _ _ _
    refine awp_ret ?_
    exact end_mk (.inl rfl) [5] (.tmp rfl) (by repeat (first | exact trivial | refine ⟨rfl, ?_⟩)) rfl

theorem lastC_flat (x : Lst) : ∀ d ∈ lastC x, D.Flat d := by
  intro d hd
  simp only [lastC, List.mem_cons, List.not_mem_nil, or_false] at hd
  rcases hd with rfl | rfl | rfl | rfl <;> exact .v _

def addOne (s : Stp) (i : Int) (y : Lst) (x : Evt) : Lst :=
  if i = x.step then ⟨true, true, x.minute, x.warmth⟩ else if s.warm < max (x.warmth - y.warmth) (-(x.warmth - y.warmth)) ∨ (s.needs.any fun n => decide (x.step = n)) = true then { y with kept := false } else y
def nilS : Stp := ⟨⟨#[]⟩, 0, 0, []⟩
def addK (l : List Stp) (L : List Lst) (x : Evt) (k : Nat) : List Lst := L.mapIdx fun i y => if i < k then addOne (l.getD i nilS) i y x else y
def addS (l : List Stp) (L : List Lst) (x : Evt) : List Lst := L.mapIdx fun i y => addOne (l.getD i nilS) i y x
theorem addK_zero (l : List Stp) (L : List Lst) (x : Evt) : addK l L x 0 = L := by
  refine List.ext_getElem? fun i => ?_
  simp [addK]
theorem addK_all (l : List Stp) (L : List Lst) (x : Evt) (k : Nat) (h : L.length ≤ k) : addK l L x k = addS l L x := by
  refine List.ext_getElem? fun i => ?_
  simp only [addK, addS, List.getElem?_mapIdx]
  cases hi : L[i]? with
  | none => rfl
  | some y =>
    have : i < L.length := (List.getElem?_eq_some_iff.1 hi).1
    simp [show i < k by omega]
theorem addK_len (l : List Stp) (L : List Lst) (x : Evt) (k : Nat) : (addK l L x k).length = L.length := by simp [addK]
theorem addS_len (l : List Stp) (L : List Lst) (x : Evt) : (addS l L x).length = L.length := by simp [addS]
theorem addK_at (l : List Stp) (L : List Lst) (x : Evt) (k : Nat) {y : Lst} (h : L[k]? = some y) : (addK l L x k)[k]? = some y := by
  simp [addK, List.getElem?_mapIdx, h]
theorem addK_set (l : List Stp) (L : List Lst) (x : Evt) (k : Nat) {y : Lst} {s : Stp} (h : L[k]? = some y) (hs : l[k]? = some s) : (addK l L x k).set k (addOne s k y x) = addK l L x (k + 1) := by
  refine List.ext_getElem? fun i => ?_
  rw [List.getElem?_set]
  have hk : k < L.length := (List.getElem?_eq_some_iff.1 h).1
  by_cases hi : k = i
  · subst hi
    rw [if_pos rfl, if_pos (by rw [addK_len]; exact hk)]
    simp only [addK, List.getElem?_mapIdx, h, Option.map_some]
    rw [if_pos (by omega), List.getD_eq_getElem?_getD, hs]; rfl
  · rw [if_neg hi]
    simp only [addK, List.getElem?_mapIdx]
    cases hL : L[i]? with
    | none => rfl
    | some z =>
      simp only [Option.map_some]
      by_cases h1 : i < k
      · rw [if_pos h1, if_pos (by omega)]
      · rw [if_neg h1, if_neg (by omega)]
theorem addK_skip (l : List Stp) (L : List Lst) (x : Evt) (k : Nat) {y : Lst} {s : Stp} (h : L[k]? = some y) (hs : l[k]? = some s) (he : addOne s k y x = y) : addK l L x k = addK l L x (k + 1) := by
  rw [← addK_set l L x k h hs, he]
  refine List.ext_getElem? fun i => ?_
  rw [List.getElem?_set]
  by_cases hi : k = i
  · subst hi
    have hk : k < L.length := (List.getElem?_eq_some_iff.1 h).1
    rw [if_pos rfl, if_pos (by rw [addK_len]; exact hk), addK_at l L x k h]
  · rw [if_neg hi]
theorem set_map {α : Type} (C : α → List D) (L : List α) (k : Nat) (y : α) {z : List D} (h : z = C y) : (L.map C).set k z = (L.set k y).map C := by rw [h, List.map_set]
structure WarmOk (l : List Stp) (L : List Lst) : Prop where
  len : L.length = l.length
  few : l.length ≤ 10
  warm : ∀ y ∈ L, -2000 ≤ y.warmth ∧ y.warmth ≤ 2000
set_option maxRecDepth 100000 in
theorem add_p (l : List Stp) (L : List Lst) (x : Evt) (hw : WarmOk l L) (hx : -2000 ≤ x.warmth ∧ x.warmth ≤ 2000) : PCS Tryz.prog 56 [.ref 0 0, .d (.agg (evC x))] [.tbox [.d (.sl 4 (l.map stepC)), .rs 1], .row 108 4 (L.map lastC)] (.d (.tup [])) [.tbox [.d (.sl 4 (l.map stepC)), .rs 1], .row 108 4 ((addS l L x).map lastC)] := by
  have hlen := hw.len
  have hfew := hw.few
  obtain ⟨hx1, hx2⟩ := hx
  have hL0 : (L.map lastC).length = L.length := List.length_map _
  have hstart : Site.row 108 4 (L.map lastC) = .row 108 4 ((addK l L x 0).map lastC) := by rw [addK_zero]
  refine pcs_of_awp Tryz.func56 rfl Tryz.ntmps56 (rs := []) Tryz.results56 (by simp) fun w0 => ?_
  refine awp_seq ?_
  refine awp_region 1 mixed (by kernel_rfl) ?_
  refine rg_q (q_box rfl (by first | exact .inl rfl | exact .inr ⟨_, rfl⟩)) ?_
  refine rg_nil ?_
  refine aops_nil ?_
  change Awp _ _ _ _ _
  refine awp_seq ?_
  refine awp_region 6 mixed (by kernel_rfl) ?_
  first | refine rg_q (q_move (x := .d (.pt _ _)) rfl) ?_ | refine rg_q (q_move (x := .ref _ _) rfl) ?_ | refine rg_q (q_move (x := .d (.v _)) rfl) ?_ | refine rg_q (q_move (x := .d _) rfl) ?_
  first | refine rg_q (q_nilCheck rfl) ?_ | refine rg_q (q_nilCheck_ref rfl) ?_
  first | refine rg_q (q_fieldAddr fld110_1 rfl) ?_ | refine rg_q (q_fieldAddr_ref fld110_1 rfl) ?_
  first | refine rg_q (q_load sz105 rfl rfl) ?_ | refine rg_q (q_load_ref sz105 rfl rfl rfl) ?_ | refine rg_q (q_load_tb (x := .d _) sz105 rfl rfl rfl) ?_ | refine rg_q (q_load_tb (x := .rs _) sz105 rfl rfl rfl) ?_
  first | refine rg_q (q_len isl105 rfl (by first | exact len_map _ _ | rfl)) ?_ | refine rg_q (q_len_rs isl105 rfl rfl) ?_ | refine rg_q (q_len_nil isl105 rfl) ?_
  refine rg_q (q_move (x := .d (.v _)) rfl) ?_
  refine rg_nil ?_
  refine aops_nil ?_
  change Awp _ _ _ _ _
  first | refine awp_len (t := 9) rfl (fun hl9 => ?_) | skip
  (try simp only [List.length_map] at hl9)
  refine awp_block ?_
  refine awp_loopH [4, 5, 11, 12, 13, 14, 15, 16, 17, 18, 19, 20, 21, 22, 23, 24, 25, 26, 27, 28, 29, 30, 31, 32, 33, 34, 35, 36, 37, 38, 39, 40, 41, 42, 43, 44, 45, 46, 47, 48, 49, 50, 51, 52, 53, 54, 55, 56, 57, 58, 59, 60, 61, 62, 63, 64, 65, 66] [68] (α := Nat) (fun k => [(11, T.i (k : Int))]) (fun k => [(68, Site.row 108 4 ((addK l L x k).map lastC))]) (fun k => k ≤ L.length) (fun k => L.length - k) 0 (Nat.zero_le _) ?_ ?_
  · exact le_head (ms := [68]) (by repeat (first | exact Out.refl _ | exact Out.head rfl rfl | (refine Out.put ?_ rfl) | (refine Out.site ?_ rfl) | (refine Out.putn ?_) | (refine Out.headIn ?_ rfl rfl rfl) | (refine Out.called ?_ rfl rfl))) ⟨(by first | rfl | first | exact hstart | exact hnx), trivial⟩ ⟨(by first | rfl | first | exact hstart | exact hnx), trivial⟩ rfl rfl rfl rfl
  ·
    intro k hk
    refine awp_seq ?_
    refine awp_region 1 mixed (by kernel_rfl) ?_
    refine rg_q (q_lss rfl rfl) ?_
    refine rg_nil ?_
    refine aops_nil ?_
    change Awp _ _ _ _ _
    refine awp_seq ?_
    refine awp_cond rfl (fun hc2 => ?_) (fun hc2 => ?_)
    ·
      (try simp only [decide_eq_true_eq, decide_eq_false_iff_not, Bool.and_eq_true, Bool.or_eq_true, Bool.and_eq_false_iff, Bool.or_eq_false_iff, Bool.not_eq_true', Bool.not_eq_false', Bool.not_true, Bool.not_false, bif_and, bif_or, Bool.not_not, ne_eq, Decidable.not_not, not_true_eq_false, not_false_eq_true, Int.not_le, Int.not_lt] at hc2)
      have hlt : k < L.length := by omega
      obtain ⟨y, hy⟩ : ∃ y, L[k]? = some y := ⟨_, List.getElem?_eq_getElem hlt⟩
      obtain ⟨s, hs⟩ : ∃ s, l[k]? = some s := ⟨_, List.getElem?_eq_getElem (by omega)⟩
      have hwm := hw.warm _ (List.mem_of_getElem? hy)
      obtain ⟨hw1, hw2⟩ := hwm
      have hya := addK_at l L x k hy
      have hyr : ((addK l L x k).map lastC)[k]? = some (lastC y) := by rw [List.getElem?_map, hya]; rfl
      have hkl : (k : Int) < ((addK l L x k).map lastC).length := by rw [List.length_map, addK_len]; omega
      refine awp_skip ?_
      change Awp _ _ _ _ _
      refine awp_seq ?_
      refine awp_block ?_
      refine awp_seq ?_
      refine awp_region 2 mixed (by kernel_rfl) ?_
      refine rg_q (q_move (x := .d (.v _)) rfl) ?_
      refine rg_q (q_assign (x := .d (.v _)) rfl) ?_
      refine rg_nil ?_
      refine aops_nil ?_
      change Awp _ _ _ _ _
      refine awp_seq ?_
      refine awp_region 7 mixed (by kernel_rfl) ?_
      first | refine rg_q (q_move (x := .d (.pt _ _)) rfl) ?_ | refine rg_q (q_move (x := .ref _ _) rfl) ?_ | refine rg_q (q_move (x := .d (.v _)) rfl) ?_ | refine rg_q (q_move (x := .d _) rfl) ?_
      first | refine rg_q (q_nilCheck rfl) ?_ | refine rg_q (q_nilCheck_ref rfl) ?_
      first | refine rg_q (q_fieldAddr fld110_1 rfl) ?_ | refine rg_q (q_fieldAddr_ref fld110_1 rfl) ?_
      first | refine rg_q (q_load sz105 rfl rfl) ?_ | refine rg_q (q_load_ref sz105 rfl rfl rfl) ?_ | refine rg_q (q_load_tb (x := .d _) sz105 rfl rfl rfl) ?_ | refine rg_q (q_load_tb (x := .rs _) sz105 rfl rfl rfl) ?_
      refine rg_q (q_move (x := .d (.v _)) rfl) ?_
      first | refine rg_q (q_indexAddr sl105 rfl rfl (by omega) (map_at (by omega) hs)) ?_ | refine rg_q (q_indexAddr_rs sl105 rfl rfl rfl (by omega) (by omega)) ?_
      first | refine rg_q (q_assign (x := .d (.pt _ _)) rfl) ?_ | refine rg_q (q_assign (x := .ref _ _) rfl) ?_ | refine rg_q (q_assign (x := .d (.v _)) rfl) ?_ | refine rg_q (q_assign (x := .d _) rfl) ?_
      refine rg_nil ?_
      refine aops_nil ?_
      change Awp _ _ _ _ _
      refine awp_block ?_
      refine awp_seq ?_
      refine awp_region 5 mixed (by kernel_rfl) ?_
      refine rg_q (q_move (x := .d (.v _)) rfl) ?_
      first | refine rg_q (q_fieldAddr fld23_1 rfl) ?_ | refine rg_q (q_fieldAddr_ref fld23_1 rfl) ?_
      first | refine rg_q (q_load sz3 rfl rfl) ?_ | refine rg_q (q_load_ref sz3 rfl rfl rfl) ?_ | refine rg_q (q_load_tb (x := .d _) sz3 rfl rfl rfl) ?_ | refine rg_q (q_load_tb (x := .rs _) sz3 rfl rfl rfl) ?_
      refine rg_q (q_eql rfl rfl) ?_
      refine rg_q (q_assign (x := .d (.v _)) rfl) ?_
      refine rg_nil ?_
      refine aops_nil ?_
      change Awp _ _ _ _ _
      refine awp_cond rfl (fun hc5 => ?_) (fun hc5 => ?_)
      ·
        (try simp only [decide_eq_true_eq, decide_eq_false_iff_not, Bool.and_eq_true, Bool.or_eq_true, Bool.and_eq_false_iff, Bool.or_eq_false_iff, Bool.not_eq_true', Bool.not_eq_false', Bool.not_true, Bool.not_false, bif_and, bif_or, Bool.not_not, ne_eq, Decidable.not_not, not_true_eq_false, not_false_eq_true, Int.not_le, Int.not_lt] at hc5)
        have hone : addOne s k y x = ⟨true, true, x.minute, x.warmth⟩ := by unfold addOne; rw [if_pos hc5]
        refine awp_region 7 mixed (by kernel_rfl) ?_
        first | refine rg_q (q_move (x := .d (.pt _ _)) rfl) ?_ | refine rg_q (q_move (x := .ref _ _) rfl) ?_ | refine rg_q (q_move (x := .d (.v _)) rfl) ?_ | refine rg_q (q_move (x := .d _) rfl) ?_
        first | refine rg_q (q_fieldAddr fld23_0 rfl) ?_ | refine rg_q (q_fieldAddr_ref fld23_0 rfl) ?_
        first | refine rg_q (q_load sz3 rfl rfl) ?_ | refine rg_q (q_load_ref sz3 rfl rfl rfl) ?_ | refine rg_q (q_load_tb (x := .d _) sz3 rfl rfl rfl) ?_ | refine rg_q (q_load_tb (x := .rs _) sz3 rfl rfl rfl) ?_
        first | refine rg_q (q_fieldAddr fld23_2 rfl) ?_ | refine rg_q (q_fieldAddr_ref fld23_2 rfl) ?_
        first | refine rg_q (q_load sz3 rfl rfl) ?_ | refine rg_q (q_load_ref sz3 rfl rfl rfl) ?_ | refine rg_q (q_load_tb (x := .d _) sz3 rfl rfl rfl) ?_ | refine rg_q (q_load_tb (x := .rs _) sz3 rfl rfl rfl) ?_
        refine rg_q (q_build (cs := [_, _, _, _]) pl108 zr108 rfl (.cons rfl (by first | exact .inl rfl | exact .inr ⟨_, rfl⟩) (.cons rfl (by first | exact .inl rfl | exact .inr ⟨_, rfl⟩) (.cons rfl (by first | exact .inl rfl | exact .inr ⟨_, rfl⟩) (.cons rfl (by first | exact .inl rfl | exact .inr ⟨_, rfl⟩) .nil)))) ⟨⟨rfl, by decide⟩, ⟨rfl, by decide⟩, ⟨rfl, by decide⟩, ⟨rfl, by decide⟩, trivial⟩ rfl) ?_
        first | refine rg_q (q_nilCheck rfl) ?_ | refine rg_q (q_nilCheck_ref rfl) ?_
        refine rg_nil ?_
        refine aops_store_row sz108 rfl rfl (by first | exact .inl rfl | exact .inr ⟨_, rfl⟩) rfl rfl (i := k) (j := 0) (es' := (addK l L x (k + 1)).map lastC) (by omega) hyr (by decide) (by rw [← addK_set l L x k hy hs, hone]; exact set_map lastC _ k _ rfl) ?_
        refine aops_nil ?_
        change Awp _ _ _ _ _
        refine awp_region 2 mixed (by kernel_rfl) ?_
        refine rg_q (q_add rfl rfl (In64.mk (by omega) (by omega))) ?_
        refine rg_q (q_move (x := .d (.v _)) rfl) ?_
        refine rg_nil ?_
        refine aops_nil ?_
        refine ⟨k + 1, by omega, by omega, ?_⟩
        exact le_head (ms := [68]) (by repeat (first | exact Out.refl _ | exact Out.head rfl rfl | (refine Out.put ?_ rfl) | (refine Out.site ?_ rfl) | (refine Out.putn ?_) | (refine Out.headIn ?_ rfl rfl rfl) | (refine Out.called ?_ rfl rfl))) ⟨(by first | rfl | first | exact hstart | exact hnx), trivial⟩ ⟨(by first | rfl | first | exact hstart | exact hnx), trivial⟩ rfl rfl rfl rfl
      ·
        (try simp only [decide_eq_true_eq, decide_eq_false_iff_not, Bool.and_eq_true, Bool.or_eq_true, Bool.and_eq_false_iff, Bool.or_eq_false_iff, Bool.not_eq_true', Bool.not_eq_false', Bool.not_true, Bool.not_false, bif_and, bif_or, Bool.not_not, ne_eq, Decidable.not_not, not_true_eq_false, not_false_eq_true, Int.not_le, Int.not_lt] at hc5)
        refine awp_seq ?_
        refine awp_region 31 mixed (by kernel_rfl) ?_
        first | refine rg_q (q_fieldAddr fld23_2 rfl) ?_ | refine rg_q (q_fieldAddr_ref fld23_2 rfl) ?_
        first | refine rg_q (q_load sz3 rfl rfl) ?_ | refine rg_q (q_load_ref sz3 rfl rfl rfl) ?_ | refine rg_q (q_load_tb (x := .d _) sz3 rfl rfl rfl) ?_ | refine rg_q (q_load_tb (x := .rs _) sz3 rfl rfl rfl) ?_
        first | refine rg_q (q_move (x := .d (.pt _ _)) rfl) ?_ | refine rg_q (q_move (x := .ref _ _) rfl) ?_ | refine rg_q (q_move (x := .d (.v _)) rfl) ?_ | refine rg_q (q_move (x := .d _) rfl) ?_
        first | refine rg_q (q_nilCheck rfl) ?_ | refine rg_q (q_nilCheck_ref rfl) ?_
        first | refine rg_q (q_fieldAddr fld108_3 rfl) ?_ | refine rg_q (q_fieldAddr_ref fld108_3 rfl) ?_
        first | refine rg_q (q_load_row sz3 rfl rfl (i := k) (j := 3) (by omega) hyr rfl) ?_ | refine rg_q (q_load sz3 rfl rfl) ?_ | refine rg_q (q_load_ref sz3 rfl rfl rfl) ?_ | refine rg_q (q_load_tb (x := .d _) sz3 rfl rfl rfl) ?_ | refine rg_q (q_load_tb (x := .rs _) sz3 rfl rfl rfl) ?_
        refine rg_q (q_sub rfl rfl (In64.mk (by omega) (by omega))) ?_
        first | refine rg_q (q_call en57 (.cons rfl .nil) rfl (size_p _ ⟨by omega, by omega⟩)) ?_ | refine rg_q (q_callF en57 (.cons (by first | exact .d _ | exact .rs rfl | exact .ref rfl | exact .nil _ | exact .tref rfl (by repeat (first | exact .nil | refine .cons (.d _ rfl) ?_ | refine .cons (.rs rfl) ?_))) .nil) rfl (size_p _ ⟨by omega, by omega⟩) (by first | exact .v _ | exact D.Flat.tupF (by repeat first | exact trivial | refine ⟨.v _, ?_⟩) | exact D.Flat.aggF (by repeat first | exact trivial | refine ⟨.v _, ?_⟩))) ?_
        first | refine rg_q (q_move (x := .d (.pt _ _)) rfl) ?_ | refine rg_q (q_move (x := .ref _ _) rfl) ?_ | refine rg_q (q_move (x := .d (.v _)) rfl) ?_ | refine rg_q (q_move (x := .d _) rfl) ?_
        first | refine rg_q (q_nilCheck rfl) ?_ | refine rg_q (q_nilCheck_ref rfl) ?_
        first | refine rg_q (q_fieldAddr fld110_0 rfl) ?_ | refine rg_q (q_fieldAddr_ref fld110_0 rfl) ?_
        first | refine rg_q (q_load sz46 rfl rfl) ?_ | refine rg_q (q_load_ref sz46 rfl rfl rfl) ?_ | refine rg_q (q_load_tb (x := .d _) sz46 rfl rfl rfl) ?_ | refine rg_q (q_load_tb (x := .rs _) sz46 rfl rfl rfl) ?_
        refine rg_q (q_move (x := .d (.v _)) rfl) ?_
        first | refine rg_q (q_indexAddr sl46 rfl rfl (by omega) (map_at (by omega) hs)) ?_ | refine rg_q (q_indexAddr_rs sl46 rfl rfl rfl (by omega) (by omega)) ?_
        first | refine rg_q (q_fieldAddr fld87_2 rfl) ?_ | refine rg_q (q_fieldAddr_ref fld87_2 rfl) ?_
        first | refine rg_q (q_load sz3 rfl rfl) ?_ | refine rg_q (q_load_ref sz3 rfl rfl rfl) ?_ | refine rg_q (q_load_tb (x := .d _) sz3 rfl rfl rfl) ?_ | refine rg_q (q_load_tb (x := .rs _) sz3 rfl rfl rfl) ?_
        refine rg_q (q_gtr rfl rfl) ?_
        refine rg_q (q_move (x := .d (.v _)) rfl) ?_
        first | refine rg_g rfl rfl (fun hG => (q_move (x := .d (.pt _ _)) rfl)) ?_ | refine rg_g rfl rfl (fun hG => (q_move (x := .ref _ _) rfl)) ?_ | refine rg_g rfl rfl (fun hG => (q_move (x := .d (.v _)) rfl)) ?_ | refine rg_g rfl rfl (fun hG => (q_move (x := .d _) rfl)) ?_
        first | refine rg_g rfl rfl (fun hG => (q_nilCheck rfl)) ?_ | refine rg_g rfl rfl (fun hG => (q_nilCheck_ref rfl)) ?_
        first | refine rg_g rfl rfl (fun hG => (q_fieldAddr fld110_0 rfl)) ?_ | refine rg_g rfl rfl (fun hG => (q_fieldAddr_ref fld110_0 rfl)) ?_
        first | refine rg_g rfl rfl (fun hG => (q_load sz46 rfl rfl)) ?_ | refine rg_g rfl rfl (fun hG => (q_load_ref sz46 rfl rfl rfl)) ?_ | refine rg_g rfl rfl (fun hG => (q_load_tb (x := .d _) sz46 rfl rfl rfl)) ?_ | refine rg_g rfl rfl (fun hG => (q_load_tb (x := .rs _) sz46 rfl rfl rfl)) ?_
        refine rg_g rfl rfl (fun hG => (q_move (x := .d (.v _)) rfl)) ?_
        first | refine rg_g rfl rfl (fun hG => (q_indexAddr sl46 rfl rfl (by (have hg0 := T.bool_inj (a := _) hG.1; (try simp only [decide_eq_true_eq, decide_eq_false_iff_not, Bool.and_eq_true, Bool.or_eq_true, Bool.and_eq_false_iff, Bool.or_eq_false_iff, Bool.not_eq_true', Bool.not_eq_false', Bool.not_true, Bool.not_false, bif_and, bif_or, Bool.not_not, ne_eq, Decidable.not_not, not_true_eq_false, not_false_eq_true, Int.not_le, Int.not_lt] at hg0); omega)) (map_at (by (have hg0 := T.bool_inj (a := _) hG.1; (try simp only [decide_eq_true_eq, decide_eq_false_iff_not, Bool.and_eq_true, Bool.or_eq_true, Bool.and_eq_false_iff, Bool.or_eq_false_iff, Bool.not_eq_true', Bool.not_eq_false', Bool.not_true, Bool.not_false, bif_and, bif_or, Bool.not_not, ne_eq, Decidable.not_not, not_true_eq_false, not_false_eq_true, Int.not_le, Int.not_lt] at hg0); omega)) hs))) ?_ | refine rg_g rfl rfl (fun hG => (q_indexAddr_rs sl46 rfl rfl rfl (by (have hg0 := T.bool_inj (a := _) hG.1; (try simp only [decide_eq_true_eq, decide_eq_false_iff_not, Bool.and_eq_true, Bool.or_eq_true, Bool.and_eq_false_iff, Bool.or_eq_false_iff, Bool.not_eq_true', Bool.not_eq_false', Bool.not_true, Bool.not_false, bif_and, bif_or, Bool.not_not, ne_eq, Decidable.not_not, not_true_eq_false, not_false_eq_true, Int.not_le, Int.not_lt] at hg0); omega)) (by (have hg0 := T.bool_inj (a := _) hG.1; (try simp only [decide_eq_true_eq, decide_eq_false_iff_not, Bool.and_eq_true, Bool.or_eq_true, Bool.and_eq_false_iff, Bool.or_eq_false_iff, Bool.not_eq_true', Bool.not_eq_false', Bool.not_true, Bool.not_false, bif_and, bif_or, Bool.not_not, ne_eq, Decidable.not_not, not_true_eq_false, not_false_eq_true, Int.not_le, Int.not_lt] at hg0); omega)))) ?_
        first | refine rg_g rfl rfl (fun hG => (q_fieldAddr fld87_3 rfl)) ?_ | refine rg_g rfl rfl (fun hG => (q_fieldAddr_ref fld87_3 rfl)) ?_
        first | refine rg_g rfl rfl (fun hG => (q_load sz50 rfl rfl)) ?_ | refine rg_g rfl rfl (fun hG => (q_load_ref sz50 rfl rfl rfl)) ?_ | refine rg_g rfl rfl (fun hG => (q_load_tb (x := .d _) sz50 rfl rfl rfl)) ?_ | refine rg_g rfl rfl (fun hG => (q_load_tb (x := .rs _) sz50 rfl rfl rfl)) ?_
        first | refine rg_g rfl rfl (fun hG => (q_fieldAddr fld23_1 rfl)) ?_ | refine rg_g rfl rfl (fun hG => (q_fieldAddr_ref fld23_1 rfl)) ?_
        first | refine rg_g rfl rfl (fun hG => (q_load sz3 rfl rfl)) ?_ | refine rg_g rfl rfl (fun hG => (q_load_ref sz3 rfl rfl rfl)) ?_ | refine rg_g rfl rfl (fun hG => (q_load_tb (x := .d _) sz3 rfl rfl rfl)) ?_ | refine rg_g rfl rfl (fun hG => (q_load_tb (x := .rs _) sz3 rfl rfl rfl)) ?_
        first | refine rg_g rfl rfl (fun hG => (q_call en73 (.cons rfl (.cons rfl .nil)) rfl (contains_p _ _))) ?_ | refine rg_g rfl rfl (fun hG => (q_callF en73 (.cons (by first | exact .d _ | exact .rs rfl | exact .ref rfl | exact .nil _ | exact .tref rfl (by repeat (first | exact .nil | refine .cons (.d _ rfl) ?_ | refine .cons (.rs rfl) ?_))) (.cons (by first | exact .d _ | exact .rs rfl | exact .ref rfl | exact .nil _ | exact .tref rfl (by repeat (first | exact .nil | refine .cons (.d _ rfl) ?_ | refine .cons (.rs rfl) ?_))) .nil)) rfl (contains_p _ _) (by first | exact .v _ | exact D.Flat.tupF (by repeat first | exact trivial | refine ⟨.v _, ?_⟩) | exact D.Flat.aggF (by repeat first | exact trivial | refine ⟨.v _, ?_⟩)))) ?_
        first | refine rg_pick rfl rfl rfl rfl rfl rfl ?_ | refine rg_q (q_pick rfl rfl rfl) ?_
        refine rg_q (q_assign (x := .d (.v _)) rfl) ?_
        refine rg_nil ?_
        refine aops_nil ?_
        change Awp _ _ _ _ _
        refine awp_cond rfl (fun hc7 => ?_) (fun hc7 => ?_)
        ·
          (try simp only [decide_eq_true_eq, decide_eq_false_iff_not, Bool.and_eq_true, Bool.or_eq_true, Bool.and_eq_false_iff, Bool.or_eq_false_iff, Bool.not_eq_true', Bool.not_eq_false', Bool.not_true, Bool.not_false, bif_and, bif_or, Bool.not_not, ne_eq, Decidable.not_not, not_true_eq_false, not_false_eq_true, Int.not_le, Int.not_lt] at hc7)
          have hone : addOne s k y x = { y with kept := false } := by unfold addOne; rw [if_neg hc5, if_pos hc7]
          refine awp_region 3 mixed (by kernel_rfl) ?_
          first | refine rg_q (q_move (x := .d (.pt _ _)) rfl) ?_ | refine rg_q (q_move (x := .ref _ _) rfl) ?_ | refine rg_q (q_move (x := .d (.v _)) rfl) ?_ | refine rg_q (q_move (x := .d _) rfl) ?_
          first | refine rg_q (q_nilCheck rfl) ?_ | refine rg_q (q_nilCheck_ref rfl) ?_
          first | refine rg_q (q_fieldAddr fld108_1 rfl) ?_ | refine rg_q (q_fieldAddr_ref fld108_1 rfl) ?_
          refine rg_nil ?_
          refine aops_store_row sz4 rfl rfl (by first | exact .inl rfl | exact .inr ⟨_, rfl⟩) rfl rfl (i := k) (j := 1) (es' := (addK l L x (k + 1)).map lastC) (by omega) hyr (by decide) (by rw [← addK_set l L x k hy hs, hone]; exact set_map lastC _ k _ rfl) ?_
          refine aops_nil ?_
          change Awp _ _ _ _ _
          refine awp_region 2 mixed (by kernel_rfl) ?_
          refine rg_q (q_add rfl rfl (In64.mk (by omega) (by omega))) ?_
          refine rg_q (q_move (x := .d (.v _)) rfl) ?_
          refine rg_nil ?_
          refine aops_nil ?_
          refine ⟨k + 1, by omega, by omega, ?_⟩
          exact le_head (ms := [68]) (by repeat (first | exact Out.refl _ | exact Out.head rfl rfl | (refine Out.put ?_ rfl) | (refine Out.site ?_ rfl) | (refine Out.putn ?_) | (refine Out.headIn ?_ rfl rfl rfl) | (refine Out.called ?_ rfl rfl))) ⟨(by first | rfl | first | exact hstart | exact hnx), trivial⟩ ⟨(by first | rfl | first | exact hstart | exact hnx), trivial⟩ rfl rfl rfl rfl
        ·
          (try simp only [decide_eq_true_eq, decide_eq_false_iff_not, Bool.and_eq_true, Bool.or_eq_true, Bool.and_eq_false_iff, Bool.or_eq_false_iff, Bool.not_eq_true', Bool.not_eq_false', Bool.not_true, Bool.not_false, bif_and, bif_or, Bool.not_not, ne_eq, Decidable.not_not, not_true_eq_false, not_false_eq_true, Int.not_le, Int.not_lt] at hc7)
          have hone : addOne s k y x = y := by unfold addOne; rw [if_neg hc5, if_neg (fun h => h.elim (fun h => Int.not_lt.2 hc7.1 h) (fun h => by rw [hc7.2] at h; cases h))]
          have hnx : Site.row 108 4 ((addK l L x k).map lastC) = .row 108 4 ((addK l L x (k + 1)).map lastC) := by rw [← addK_skip l L x k hy hs hone]
          refine awp_skip ?_
          change Awp _ _ _ _ _
          refine awp_region 2 mixed (by kernel_rfl) ?_
          refine rg_q (q_add rfl rfl (In64.mk (by omega) (by omega))) ?_
          refine rg_q (q_move (x := .d (.v _)) rfl) ?_
          refine rg_nil ?_
          refine aops_nil ?_
          refine ⟨k + 1, by omega, by omega, ?_⟩
          exact le_head (ms := [68]) (by repeat (first | exact Out.refl _ | exact Out.head rfl rfl | (refine Out.put ?_ rfl) | (refine Out.site ?_ rfl) | (refine Out.putn ?_) | (refine Out.headIn ?_ rfl rfl rfl) | (refine Out.called ?_ rfl rfl))) ⟨(by first | rfl | first | exact hstart | exact hnx), trivial⟩ ⟨(by first | rfl | first | exact hstart | exact hnx), trivial⟩ rfl rfl rfl rfl
    ·
      (try simp only [decide_eq_true_eq, decide_eq_false_iff_not, Bool.and_eq_true, Bool.or_eq_true, Bool.and_eq_false_iff, Bool.or_eq_false_iff, Bool.not_eq_true', Bool.not_eq_false', Bool.not_true, Bool.not_false, bif_and, bif_or, Bool.not_not, ne_eq, Decidable.not_not, not_true_eq_false, not_false_eq_true, Int.not_le, Int.not_lt] at hc2)
      have hend : addS l L x = addK l L x k := (addK_all l L x k (by omega)).symm
      refine awp_exit ?_
      exact end_mk (.inr rfl) [67, 68] .none (by repeat (first | exact trivial | refine ⟨(by first | rfl | (rw [hend]; rfl)), ?_⟩)) rfl

structure RightS (l : List Stp) : Prop where
  pos : 0 < l.length
  few : l.length ≤ 10
  each : ∀ (i : Nat) (s : Stp), l[i]? = some s → 1 ≤ s.lasts ∧ s.lasts ≤ 1000000 ∧ 0 ≤ s.warm ∧ s.warm ≤ 2000 ∧ ∀ n ∈ s.needs, 0 ≤ n ∧ n < (i : Int)
theorem needsBad_in {i : Int} : ∀ {ns : List Int} {p : Option Int}, needsBad i p ns = 0 → ∀ n ∈ ns, 0 ≤ n ∧ n < i
  | [], _, _, n, hn => by cases hn
  | m :: ns, p, h, n, hn => by
    unfold needsBad at h
    split at h
    · simp at h
    · rename_i hr
      split at h
      · simp at h
      · rcases List.mem_cons.1 hn with rfl | hn
        · simp [inR] at hr; omega
        · exact needsBad_in h n hn
theorem ckSFrom_right {l : List Stp} : ∀ {ss : List Stp} {i : Nat}, (ckSFrom l i ss).2 = 0 → ∀ (k : Nat) (s : Stp), ss[k]? = some s → stepBad l (i + k) s = 0 ∧ needsBad ((i + k : Nat) : Int) none s.needs = 0
  | [], _, _, k, s, hs => by simp at hs
  | x :: ss, i, h, k, s, hs => by
    unfold ckSFrom at h
    split at h
    · rename_i hb; exact absurd h hb
    · rename_i hb
      split at h
      · rename_i hn; exact absurd h hn
      · rename_i hn
        cases k with
        | zero =>
          simp at hs; subst hs
          exact ⟨by simpa using hb, by simpa using hn⟩
        | succ k =>
          have := ckSFrom_right h k s (by simpa using hs)
          rw [show i + 1 + k = i + (k + 1) by omega] at this
          exact this
theorem ckS_right {l : List Stp} (h : (ckS l).2 = 0) : RightS l := by
  unfold ckS at h
  split at h
  · simp at h
  · split at h
    · simp at h
    · refine ⟨by omega, by omega, fun i s hs => ?_⟩
      obtain ⟨h1, h2⟩ := ckSFrom_right h i s hs
      simp only [Nat.zero_add] at h1 h2
      unfold stepBad at h1
      split at h1
      · simp at h1
      · split at h1
        · simp at h1
        · split at h1
          · simp at h1
          · rename_i hr
            simp [inR] at hr
            exact ⟨by omega, by omega, by omega, by omega, needsBad_in h2⟩
theorem foldl_same {α β : Type} {f g : α → β → α} : ∀ (ns : List β) (a : α), (∀ a, ∀ n ∈ ns, f a n = g a n) → ns.foldl f a = ns.foldl g a
  | [], _, _ => rfl
  | n :: ns, a, h => by
    rw [List.foldl_cons, List.foldl_cons, h a n (by simp)]
    exact foldl_same ns _ fun a m hm => h a m (by simp [hm])
def untilF (l : List Stp) (L : List Lst) : Nat → Nat → Int × Bool
  | 0, _ => (0, false)
  | f + 1, i => (l.getD i nilS).needs.foldl (fun a n => (min a.1 (untilF l L f n.toNat).1, a.2 && (untilF l L f n.toNat).2)) ((L.getD i zeroL).minute + (l.getD i nilS).lasts, (L.getD i zeroL).don && (L.getD i zeroL).kept)
theorem untilF_fuel {l : List Stp} (L : List Lst) (hr : RightS l) : ∀ (f g i : Nat), i < f → i < g → i < l.length → untilF l L f i = untilF l L g i
  | 0, _, _, h, _, _ => by omega
  | _, 0, _, _, h, _ => by omega
  | f + 1, g + 1, i, h1, h2, hl => by
    obtain ⟨s, hs⟩ : ∃ s, l[i]? = some s := ⟨_, List.getElem?_eq_getElem hl⟩
    have hn := (hr.each i s hs).2.2.2.2
    unfold untilF
    rw [getD_at hs]
    refine foldl_same _ _ fun a n hm => ?_
    obtain ⟨h3, h4⟩ := hn n hm
    rw [untilF_fuel L hr f g n.toNat (by omega) (by omega) (by omega)]
def untilS (l : List Stp) (L : List Lst) (i : Nat) : Int × Bool := untilF l L l.length i
def accS (l : List Stp) (L : List Lst) (s : Stp) (y : Lst) (ns : List Int) : Int × Bool := ns.foldl (fun a n => (min a.1 (untilS l L n.toNat).1, a.2 && (untilS l L n.toNat).2)) (y.minute + s.lasts, y.don && y.kept)
theorem untilS_eq {l : List Stp} {L : List Lst} (hr : RightS l) {i : Nat} {s : Stp} {y : Lst} (hs : l[i]? = some s) (hy : L[i]? = some y) : untilS l L i = accS l L s y s.needs := by
  have hi : i < l.length := (List.getElem?_eq_some_iff.1 hs).1
  obtain ⟨m, hm⟩ : ∃ m, l.length = m + 1 := ⟨l.length - 1, by omega⟩
  unfold untilS accS
  conv => lhs; rw [hm]; unfold untilF
  rw [getD_at hs, getD_at hy]
  refine foldl_same _ _ fun a n hn => ?_
  obtain ⟨h3, h4⟩ := (hr.each i s hs).2.2.2.2 n hn
  unfold untilS
  rw [untilF_fuel L hr m l.length n.toNat (by omega) (by omega) (by omega)]
theorem accS_next (l : List Stp) (L : List Lst) (s : Stp) (y : Lst) (k : Nat) (n : Int) (h : s.needs[k]? = some n) : accS l L s y (s.needs.take (k + 1)) = (min (accS l L s y (s.needs.take k)).1 (untilS l L n.toNat).1, (accS l L s y (s.needs.take k)).2 && (untilS l L n.toNat).2) := by
  unfold accS
  rw [List.take_add_one, h, Option.toList_some, List.foldl_append]; rfl
set_option maxRecDepth 100000 in
theorem until_p (l : List Stp) (L : List Lst) (hr : RightS l) (hL : L.length = l.length) (hm : ∀ y ∈ L, 0 ≤ y.minute ∧ y.minute ≤ 100000000) (i : Nat) (hi : i < l.length) : PC Tryz.prog 34 [bookD l L, .v (.int .i64 (i))] (.tup [.v (.int .i64 ((untilS l L i).1)), .v (.bool ((untilS l L i).2))]) := by
  induction i using Nat.strongRecOn
  rename_i i ih
  obtain ⟨y, hy⟩ : ∃ y, L[i]? = some y := ⟨_, List.getElem?_eq_getElem (by omega)⟩
  obtain ⟨s, hs⟩ : ∃ s, l[i]? = some s := ⟨_, List.getElem?_eq_getElem hi⟩
  obtain ⟨hs1, hs2, hs3, hs4, hs5⟩ := hr.each i s hs
  obtain ⟨hm1, hm2⟩ := hm y (List.mem_of_getElem? hy)
  have hfew := hr.few
  rw [untilS_eq hr hs hy]
  have h0 : accS l L s y (s.needs.take 0) = (y.minute + s.lasts, y.don && y.kept) := rfl
  have hb0 : T.bool (bif y.don then y.kept else false) = T.bool (accS l L s y (s.needs.take 0)).2 := by rw [h0, bif_and]
  refine pc_of_awp Tryz.func34 rfl Tryz.ntmps34 (rs := [.tmp 4, .tmp 5]) Tryz.results34 (by simp) fun w0 => ?_
  refine awp_seq ?_
  refine awp_region 2 mixed (by kernel_rfl) ?_
  refine rg_q (q_assign (x := .d (.v _)) rfl) ?_
  refine rg_q (q_assign (x := .d (.v _)) rfl) ?_
  refine rg_nil ?_
  refine aops_nil ?_
  change Awp _ _ _ _ _
  refine awp_seq ?_
  refine awp_region 7 mixed (by kernel_rfl) ?_
  first | refine rg_q (q_move (x := .d (.pt _ _)) rfl) ?_ | refine rg_q (q_move (x := .ref _ _) rfl) ?_ | refine rg_q (q_move (x := .d (.v _)) rfl) ?_ | refine rg_q (q_move (x := .d _) rfl) ?_
  first | refine rg_q (q_nilCheck rfl) ?_ | refine rg_q (q_nilCheck_ref rfl) ?_
  first | refine rg_q (q_fieldAddr fld110_1 rfl) ?_ | refine rg_q (q_fieldAddr_ref fld110_1 rfl) ?_
  first | refine rg_q (q_load sz105 rfl rfl) ?_ | refine rg_q (q_load_ref sz105 rfl rfl rfl) ?_ | refine rg_q (q_load_tb (x := .d _) sz105 rfl rfl rfl) ?_ | refine rg_q (q_load_tb (x := .rs _) sz105 rfl rfl rfl) ?_
  refine rg_q (q_move (x := .d (.v _)) rfl) ?_
  first | refine rg_q (q_indexAddr sl105 rfl rfl (by omega) (map_at (by omega) hy)) ?_ | refine rg_q (q_indexAddr sl105 rfl rfl (by omega) (map_at (by omega) hs)) ?_ | refine rg_q (q_indexAddr sl105 rfl rfl (by omega) (map_at (by omega) hn)) ?_ | refine rg_q (q_indexAddr_rs sl105 rfl rfl rfl (by omega) (by omega)) ?_
  first | refine rg_q (q_loadA (ds := [_, _, _, _]) sz108 rfl rfl rfl) ?_ | refine rg_q (q_load_refA (ds := [_, _, _, _]) sz108 rfl rfl rfl rfl) ?_
  refine rg_nil ?_
  refine aops_alloc zr108 rfl rfl rfl ?_
  first | refine aops_store sz108 rfl rfl (by first | exact .inl rfl | exact .inr ⟨_, rfl⟩) rfl rfl (by first | decide | simp; done | exact Nat.le_of_ble_eq_true rfl) rfl ?_ | refine aops_storeT (z := .rs _) sz108 rfl rfl rfl rfl (by first | decide | simp) rfl ?_ | refine aops_storeT (z := .d _) sz108 rfl rfl rfl rfl (by first | decide | simp) rfl ?_ | refine aops_storeTA sz108 rfl rfl (by first | exact .inl rfl | exact .inr ⟨_, rfl⟩) rfl rfl (by first | decide | simp) rfl ?_
  refine aops_nil ?_
  change Awp _ _ _ _ _
  refine awp_seq ?_
  refine awp_region 19 mixed (by kernel_rfl) ?_
  first | refine rg_q (q_fieldAddr fld108_2 rfl) ?_ | refine rg_q (q_fieldAddr_ref fld108_2 rfl) ?_
  first | refine rg_q (q_load sz3 rfl rfl) ?_ | refine rg_q (q_load_ref sz3 rfl rfl rfl) ?_ | refine rg_q (q_load_tb (x := .d _) sz3 rfl rfl rfl) ?_ | refine rg_q (q_load_tb (x := .rs _) sz3 rfl rfl rfl) ?_
  first | refine rg_q (q_move (x := .d (.pt _ _)) rfl) ?_ | refine rg_q (q_move (x := .ref _ _) rfl) ?_ | refine rg_q (q_move (x := .d (.v _)) rfl) ?_ | refine rg_q (q_move (x := .d _) rfl) ?_
  first | refine rg_q (q_nilCheck rfl) ?_ | refine rg_q (q_nilCheck_ref rfl) ?_
  first | refine rg_q (q_fieldAddr fld110_0 rfl) ?_ | refine rg_q (q_fieldAddr_ref fld110_0 rfl) ?_
  first | refine rg_q (q_load sz46 rfl rfl) ?_ | refine rg_q (q_load_ref sz46 rfl rfl rfl) ?_ | refine rg_q (q_load_tb (x := .d _) sz46 rfl rfl rfl) ?_ | refine rg_q (q_load_tb (x := .rs _) sz46 rfl rfl rfl) ?_
  refine rg_q (q_move (x := .d (.v _)) rfl) ?_
  first | refine rg_q (q_indexAddr sl46 rfl rfl (by omega) (map_at (by omega) hy)) ?_ | refine rg_q (q_indexAddr sl46 rfl rfl (by omega) (map_at (by omega) hs)) ?_ | refine rg_q (q_indexAddr sl46 rfl rfl (by omega) (map_at (by omega) hn)) ?_ | refine rg_q (q_indexAddr_rs sl46 rfl rfl rfl (by omega) (by omega)) ?_
  first | refine rg_q (q_fieldAddr fld87_1 rfl) ?_ | refine rg_q (q_fieldAddr_ref fld87_1 rfl) ?_
  first | refine rg_q (q_load sz3 rfl rfl) ?_ | refine rg_q (q_load_ref sz3 rfl rfl rfl) ?_ | refine rg_q (q_load_tb (x := .d _) sz3 rfl rfl rfl) ?_ | refine rg_q (q_load_tb (x := .rs _) sz3 rfl rfl rfl) ?_
  refine rg_q (q_add rfl rfl (In64.mk (by omega) (by omega))) ?_
  first | refine rg_q (q_fieldAddr fld108_0 rfl) ?_ | refine rg_q (q_fieldAddr_ref fld108_0 rfl) ?_
  first | refine rg_q (q_load sz4 rfl rfl) ?_ | refine rg_q (q_load_ref sz4 rfl rfl rfl) ?_ | refine rg_q (q_load_tb (x := .d _) sz4 rfl rfl rfl) ?_ | refine rg_q (q_load_tb (x := .rs _) sz4 rfl rfl rfl) ?_
  refine rg_q (q_move (x := .d (.v _)) rfl) ?_
  first | refine rg_g rfl rfl (fun hG => (q_fieldAddr fld108_1 rfl)) ?_ | refine rg_g rfl rfl (fun hG => (q_fieldAddr_ref fld108_1 rfl)) ?_
  first | refine rg_g rfl rfl (fun hG => (q_load sz4 rfl rfl)) ?_ | refine rg_g rfl rfl (fun hG => (q_load_ref sz4 rfl rfl rfl)) ?_ | refine rg_g rfl rfl (fun hG => (q_load_tb (x := .d _) sz4 rfl rfl rfl)) ?_ | refine rg_g rfl rfl (fun hG => (q_load_tb (x := .rs _) sz4 rfl rfl rfl)) ?_
  first | refine rg_pick rfl rfl rfl rfl rfl rfl ?_ | refine rg_q (q_pick rfl rfl rfl) ?_
  refine rg_q (q_assign (x := .d (.v _)) rfl) ?_
  refine rg_q (q_assign (x := .d (.v _)) rfl) ?_
  refine rg_nil ?_
  refine aops_nil ?_
  change Awp _ _ _ _ _
  refine awp_seq ?_
  refine awp_seq ?_
  refine awp_region 10 mixed (by kernel_rfl) ?_
  first | refine rg_q (q_move (x := .d (.pt _ _)) rfl) ?_ | refine rg_q (q_move (x := .ref _ _) rfl) ?_ | refine rg_q (q_move (x := .d (.v _)) rfl) ?_ | refine rg_q (q_move (x := .d _) rfl) ?_
  first | refine rg_q (q_nilCheck rfl) ?_ | refine rg_q (q_nilCheck_ref rfl) ?_
  first | refine rg_q (q_fieldAddr fld110_0 rfl) ?_ | refine rg_q (q_fieldAddr_ref fld110_0 rfl) ?_
  first | refine rg_q (q_load sz46 rfl rfl) ?_ | refine rg_q (q_load_ref sz46 rfl rfl rfl) ?_ | refine rg_q (q_load_tb (x := .d _) sz46 rfl rfl rfl) ?_ | refine rg_q (q_load_tb (x := .rs _) sz46 rfl rfl rfl) ?_
  refine rg_q (q_move (x := .d (.v _)) rfl) ?_
  first | refine rg_q (q_indexAddr sl46 rfl rfl (by omega) (map_at (by omega) hy)) ?_ | refine rg_q (q_indexAddr sl46 rfl rfl (by omega) (map_at (by omega) hs)) ?_ | refine rg_q (q_indexAddr sl46 rfl rfl (by omega) (map_at (by omega) hn)) ?_ | refine rg_q (q_indexAddr_rs sl46 rfl rfl rfl (by omega) (by omega)) ?_
  first | refine rg_q (q_fieldAddr fld87_3 rfl) ?_ | refine rg_q (q_fieldAddr_ref fld87_3 rfl) ?_
  first | refine rg_q (q_load sz50 rfl rfl) ?_ | refine rg_q (q_load_ref sz50 rfl rfl rfl) ?_ | refine rg_q (q_load_tb (x := .d _) sz50 rfl rfl rfl) ?_ | refine rg_q (q_load_tb (x := .rs _) sz50 rfl rfl rfl) ?_
  first | refine rg_q (q_len isl50 rfl (by first | exact len_map _ _ | rfl)) ?_ | refine rg_q (q_len_rs isl50 rfl rfl) ?_ | refine rg_q (q_len_nil isl50 rfl) ?_
  refine rg_q (q_move (x := .d (.v _)) rfl) ?_
  refine rg_nil ?_
  refine aops_nil ?_
  change Awp _ _ _ _ _
  first | refine awp_len (t := 44) rfl (fun hl44 => ?_) | skip
  (try simp only [List.length_map] at hl44)
  refine awp_block ?_
  refine awp_loopH [7, 8, 10, 11, 12, 46, 47, 48, 49, 50, 51, 52, 53, 54, 55, 56, 57, 58, 59, 60, 61, 62, 63] [] (α := Nat) (fun j => [(46, T.i (j : Int)), (7, T.i (accS l L s y (s.needs.take j)).1), (8, T.bool (accS l L s y (s.needs.take j)).2)]) (fun j => []) (fun j => j ≤ s.needs.length) (fun j => s.needs.length - j) 0 (Nat.zero_le _) ?_ ?_
  · exact le_head (ms := []) (by repeat (first | exact Out.refl _ | exact Out.head rfl rfl | (refine Out.put ?_ rfl) | (refine Out.site ?_ rfl) | (refine Out.putn ?_) | (refine Out.headIn ?_ rfl rfl rfl) | (refine Out.called ?_ rfl rfl))) ⟨(by first | rfl | exact hb0 | exact hb1 | exact ha1), (by first | rfl | exact hb0 | exact hb1 | exact ha1), (by first | rfl | exact hb0 | exact hb1 | exact ha1), trivial⟩ trivial rfl rfl rfl rfl
  ·
    intro j hj
    refine awp_seq ?_
    refine awp_region 1 mixed (by kernel_rfl) ?_
    refine rg_q (q_lss rfl rfl) ?_
    refine rg_nil ?_
    refine aops_nil ?_
    change Awp _ _ _ _ _
    refine awp_seq ?_
    refine awp_cond rfl (fun hc4 => ?_) (fun hc4 => ?_)
    ·
      (try simp only [decide_eq_true_eq, decide_eq_false_iff_not, Bool.and_eq_true, Bool.or_eq_true, Bool.and_eq_false_iff, Bool.or_eq_false_iff, Bool.not_eq_true', Bool.not_eq_false', Bool.not_true, Bool.not_false, bif_and, bif_or, Bool.not_not, ne_eq, Decidable.not_not, not_true_eq_false, not_false_eq_true, Int.not_le, Int.not_lt] at hc4)
      have hjlt : j < s.needs.length := by omega
      obtain ⟨z, hn⟩ : ∃ z, s.needs[j]? = some z := ⟨_, List.getElem?_eq_getElem hjlt⟩
      obtain ⟨hz1, hz2⟩ := hs5 z (List.mem_of_getElem? hn)
      obtain ⟨m, rfl⟩ : ∃ m : Nat, z = (m : Int) := ⟨z.toNat, by omega⟩
      have hrec := ih m (by omega) (by omega)
      have hnext := accS_next l L s y j m hn
      rw [show ((m : Int)).toNat = m from rfl] at hnext
      generalize accS l L s y (s.needs.take j) = A at *
      generalize untilS l L m = U at *
      obtain ⟨A, b⟩ := A
      obtain ⟨U, c⟩ := U
      simp only at hrec hnext ⊢
      have hb1 : T.bool (bif b then c else false) = T.bool (accS l L s y (s.needs.take (j + 1))).2 := by rw [hnext, bif_and]
      have ha1 : T.i (min A U) = T.i (accS l L s y (s.needs.take (j + 1))).1 := by rw [hnext]
      refine awp_skip ?_
      change Awp _ _ _ _ _
      refine awp_seq ?_
      refine awp_block ?_
      refine awp_seq ?_
      refine awp_region 3 mixed (by kernel_rfl) ?_
      first | refine rg_q (q_indexAddr sl50 rfl rfl (by omega) (map_at (by omega) hy)) ?_ | refine rg_q (q_indexAddr sl50 rfl rfl (by omega) (map_at (by omega) hs)) ?_ | refine rg_q (q_indexAddr sl50 rfl rfl (by omega) (map_at (by omega) hn)) ?_ | refine rg_q (q_indexAddr_rs sl50 rfl rfl rfl (by omega) (by omega)) ?_
      first | refine rg_q (q_load sz3 rfl rfl) ?_ | refine rg_q (q_load_ref sz3 rfl rfl rfl) ?_ | refine rg_q (q_load_tb (x := .d _) sz3 rfl rfl rfl) ?_ | refine rg_q (q_load_tb (x := .rs _) sz3 rfl rfl rfl) ?_
      refine rg_q (q_assign (x := .d (.v _)) rfl) ?_
      refine rg_nil ?_
      refine aops_nil ?_
      change Awp _ _ _ _ _
      refine awp_seq ?_
      refine awp_region 8 mixed (by kernel_rfl) ?_
      first | refine rg_q (q_move (x := .d (.pt _ _)) rfl) ?_ | refine rg_q (q_move (x := .ref _ _) rfl) ?_ | refine rg_q (q_move (x := .d (.v _)) rfl) ?_ | refine rg_q (q_move (x := .d _) rfl) ?_
      refine rg_q (q_move (x := .d (.v _)) rfl) ?_
      first | refine rg_q (q_call en34 (.cons rfl (.cons rfl .nil)) rfl (hrec)) ?_ | refine rg_q (q_callF en34 (.cons (by first | exact .d _ | exact .rs rfl | exact .ref rfl | exact .nil _ | exact .tref rfl (by repeat (first | exact .nil | refine .cons (.d _ rfl) ?_ | refine .cons (.rs rfl) ?_))) (.cons (by first | exact .d _ | exact .rs rfl | exact .ref rfl | exact .nil _ | exact .tref rfl (by repeat (first | exact .nil | refine .cons (.d _ rfl) ?_ | refine .cons (.rs rfl) ?_))) .nil)) rfl (hrec) (by first | exact .v _ | exact D.Flat.tupF (by repeat first | exact trivial | refine ⟨.v _, ?_⟩) | exact D.Flat.aggF (by repeat first | exact trivial | refine ⟨.v _, ?_⟩))) ?_
      refine rg_q (q_move (x := .d (.tup _)) rfl) ?_
      refine rg_q (q_extract rfl rfl) ?_
      refine rg_q (q_extract rfl rfl) ?_
      refine rg_q (q_assign (x := .d (.v _)) rfl) ?_
      refine rg_q (q_assign (x := .d (.v _)) rfl) ?_
      refine rg_nil ?_
      refine aops_nil ?_
      change Awp _ _ _ _ _
      refine awp_region 9 mixed (by kernel_rfl) ?_
      refine rg_q (q_move (x := .d (.v _)) rfl) ?_
      refine rg_q (q_move (x := .d (.v _)) rfl) ?_
      refine rg_q (q_min rfl rfl) ?_
      refine rg_q (q_move (x := .d (.v _)) rfl) ?_
      refine rg_q (q_move (x := .d (.v _)) rfl) ?_
      refine rg_g rfl rfl (fun hG => (q_move (x := .d (.v _)) rfl)) ?_
      first | refine rg_pick rfl rfl rfl rfl rfl rfl ?_ | refine rg_q (q_pick rfl rfl rfl) ?_
      refine rg_q (q_assign (x := .d (.v _)) rfl) ?_
      refine rg_q (q_assign (x := .d (.v _)) rfl) ?_
      refine rg_nil ?_
      refine aops_nil ?_
      change Awp _ _ _ _ _
      refine awp_region 2 mixed (by kernel_rfl) ?_
      refine rg_q (q_add rfl rfl (In64.mk (by omega) (by omega))) ?_
      refine rg_q (q_move (x := .d (.v _)) rfl) ?_
      refine rg_nil ?_
      refine aops_nil ?_
      refine ⟨j + 1, by omega, by omega, ?_⟩
      exact le_head (ms := []) (by repeat (first | exact Out.refl _ | exact Out.head rfl rfl | (refine Out.put ?_ rfl) | (refine Out.site ?_ rfl) | (refine Out.putn ?_) | (refine Out.headIn ?_ rfl rfl rfl) | (refine Out.called ?_ rfl rfl))) ⟨(by first | rfl | exact hb0 | exact hb1 | exact ha1), (by first | rfl | exact hb0 | exact hb1 | exact ha1), (by first | rfl | exact hb0 | exact hb1 | exact ha1), trivial⟩ trivial rfl rfl rfl rfl
    ·
      (try simp only [decide_eq_true_eq, decide_eq_false_iff_not, Bool.and_eq_true, Bool.or_eq_true, Bool.and_eq_false_iff, Bool.or_eq_false_iff, Bool.not_eq_true', Bool.not_eq_false', Bool.not_true, Bool.not_false, bif_and, bif_or, Bool.not_not, ne_eq, Decidable.not_not, not_true_eq_false, not_false_eq_true, Int.not_le, Int.not_lt] at hc4)
      refine awp_exit ?_
      change Awp _ _ _ _ _
      refine awp_seq ?_
      refine awp_region 4 mixed (by kernel_rfl) ?_
      refine rg_q (q_move (x := .d (.v _)) rfl) ?_
      refine rg_q (q_move (x := .d (.v _)) rfl) ?_
      refine rg_q (q_assign (x := .d (.v _)) rfl) ?_
      refine rg_q (q_assign (x := .d (.v _)) rfl) ?_
      refine rg_nil ?_
      refine aops_nil ?_
      change Awp _ _ _ _ _
      refine awp_ret ?_
      refine ⟨_, (.cons (.tmp (by first | exact .d _ | exact .rs rfl | exact .ref rfl | exact .tref rfl (.cons (.d _ rfl) (.cons (.rs rfl) .nil)))) (.cons (.tmp (by first | exact .d _ | exact .rs rfl | exact .ref rfl | exact .tref rfl (.cons (.d _ rfl) (.cons (.rs rfl) .nil)))) .nil)), ?_⟩
      rw [List.take_of_length_le (by omega)]; rfl
end Go.Proofs.YtepaabbfindaeaaGreatDoor.Am.M
