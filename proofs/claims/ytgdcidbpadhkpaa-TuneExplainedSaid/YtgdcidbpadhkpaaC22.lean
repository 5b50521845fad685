/- Contracts over the abstract machine: the reference of speeds and of delays. Conditions: none. -/
import Derived.Test.YtgdcidbpadhkpaaC21
set_option linter.unusedVariables false
set_option linter.unusedSimpArgs false
-- mini
namespace Go.Proofs.Ytgdcidbpadhkpaa.Am.M
open Go

def rspeedR (l : List Arc) : (Int × Int) × Int :=
  if lessB (rslow l).2 (rslow l).1 = true then ((0, 0), 12) else if (rslow l).1.1 ≤ 0 then ((0, 0), 11)
  else ((10000000 * (rslow l).2.2 / (rslow l).2.1, ceilI (10000000 * (rslow l).1.2) (rslow l).1.1), 0)
def fA (q : Int × Int) (x : Arc) : Int := (x.lo * q.2 - 2 * x.r * q.1) / q.2
def fB (q : Int × Int) (x : Arc) : Int := ceilI (x.hi * q.2 - 2 * x.r * q.1) q.2
def rdelayR (l : List Arc) : (Int × Int) × Int :=
  if lessB (rslow l).2 (rslow l).1 = true then ((0, 0), 12) else ((maxF (l.map (fA (rslow l).2)), minF (l.map (fB (rslow l).1))), 0)
theorem max_step {g : Arc → Int} {l : List Arc} {k : Nat} {x : Arc} (hx : l[k]? = some x) : maxF ((l.map g).take (k + 1)) = max (if k = 0 then g x else maxF ((l.map g).take k)) (g x) := by
  have hx' : (l.map g)[k]? = some (g x) := by rw [List.getElem?_map, hx]; rfl
  by_cases h : k = 0
  · subst h
    obtain ⟨hlt, e⟩ := List.getElem?_eq_some_iff.1 hx'
    rw [if_pos rfl, List.take_succ_eq_append_getElem hlt, e]
    simp [maxF]
  · rw [if_neg h]; exact maxF_snoc (by omega) hx'
theorem min_step {g : Arc → Int} {l : List Arc} {k : Nat} {x : Arc} (hx : l[k]? = some x) : minF ((l.map g).take (k + 1)) = min (if k = 0 then g x else minF ((l.map g).take k)) (g x) := by
  have hx' : (l.map g)[k]? = some (g x) := by rw [List.getElem?_map, hx]; rfl
  by_cases h : k = 0
  · subst h
    obtain ⟨hlt, e⟩ := List.getElem?_eq_some_iff.1 hx'
    rw [if_pos rfl, List.take_succ_eq_append_getElem hlt, e]
    simp [minF]
  · rw [if_neg h]; exact minF_snoc (by omega) hx'
set_option maxRecDepth 100000 in
theorem rSpeedRange_p (l : List Arc) (hok : ArcsOk l) : PC Try.prog 64 [.sl 3 (l.map arcC)] (.tup [.agg (qC (rspeedR l).1), .v (.int .i64 ((rspeedR l).2))]) := by
  obtain ⟨⟨q1, q2, q3, q4⟩, p1, p2, p3, p4⟩ := rslow_ok hok
  refine pc_of_awp Try.func64 rfl Try.ntmps64 (rs := [.cell 2 52, .tmp 3]) Try.results64 (by simp) fun w0 => ?_
  refine awp_seq ?_
  refine awp_region 0 mixed (by kernel_rfl) ?_
  refine rg_nil ?_
  refine aops_alloc zr52 rfl rfl rfl ?_
  refine aops_q rfl (q_assign (x := .d (.v _)) rfl) ?_
  refine aops_nil ?_
  change Awp _ _ _ _ _
  refine awp_seq ?_
  refine awp_region 6 mixed (by kernel_rfl) ?_
  refine rg_q (q_move (x := .d (.sl _ _)) rfl) ?_
  refine rg_q (q_call en113 (.cons rfl .nil) rfl (rslow_p _ hok)) ?_
  refine rg_q (q_move (x := .d (.tup _)) rfl) ?_
  refine rg_q (q_extract rfl rfl) ?_
  refine rg_q (q_extract rfl rfl) ?_
  refine rg_q (q_extract rfl rfl) ?_
  refine rg_nil ?_
  refine aops_alloc zr116 rfl rfl rfl ?_
  refine aops_alloc zr116 rfl rfl rfl ?_
  refine aops_store sz116 rfl rfl (by exact .inr ⟨_, rfl⟩) rfl rfl (by decide) rfl ?_
  refine aops_store sz116 rfl rfl (by exact .inr ⟨_, rfl⟩) rfl rfl (by decide) rfl ?_
  refine aops_q rfl (q_assign (x := .d (.v _)) rfl) ?_
  refine aops_nil ?_
  change Awp _ _ _ _ _
  refine awp_seq ?_
  refine awp_seq ?_
  refine awp_region 2 mixed (by kernel_rfl) ?_
  refine rg_q (q_move (x := .d (.v _)) rfl) ?_
  refine rg_q (q_not rfl) ?_
  refine rg_nil ?_
  refine aops_nil ?_
  change Awp _ _ _ _ _
  refine awp_cond rfl (fun hc2 => ?_) (fun hc2 => ?_)
  ·
    (try simp only [decide_eq_true_eq, decide_eq_false_iff_not, Bool.and_eq_true, Bool.or_eq_true, Bool.and_eq_false_iff, Bool.or_eq_false_iff, Bool.not_eq_true', Bool.not_eq_false', Bool.not_true, Bool.not_false, bif_and, bif_or, Bool.not_not, ne_eq, Decidable.not_not, not_true_eq_false, not_false_eq_true, Int.not_le, Int.not_lt] at hc2)
    have hz : rspeedR l = ((0, 0), 12) := by unfold rspeedR; rw [if_pos (by simpa using hc2)]
    refine awp_seq ?_
    refine awp_region 1 mixed (by kernel_rfl) ?_
    refine rg_q (q_build (cs := [_, _]) pl52 zr52 rfl .nil trivial rfl) ?_
    refine rg_nil ?_
    refine aops_store sz52 rfl rfl (by exact .inr ⟨_, rfl⟩) rfl rfl (by decide) rfl ?_
    refine aops_q rfl (q_assign (x := .d (.v _)) rfl) ?_
    refine aops_nil ?_
    change Awp _ _ _ _ _
    refine awp_ret ?_
    refine ⟨_, (.cons (.cellA rfl rfl sz52 rfl) (.cons (.tmp (by exact .d _)) .nil)), ?_⟩
    rw [hz]; rfl
  ·
    (try simp only [decide_eq_true_eq, decide_eq_false_iff_not, Bool.and_eq_true, Bool.or_eq_true, Bool.and_eq_false_iff, Bool.or_eq_false_iff, Bool.not_eq_true', Bool.not_eq_false', Bool.not_true, Bool.not_false, bif_and, bif_or, Bool.not_not, ne_eq, Decidable.not_not, not_true_eq_false, not_false_eq_true, Int.not_le, Int.not_lt] at hc2)
    have hnl : lessB (rslow l).2 (rslow l).1 = false := by simpa using hc2
    refine awp_skip ?_
    change Awp _ _ _ _ _
    refine awp_seq ?_
    refine awp_seq ?_
    refine awp_region 3 mixed (by kernel_rfl) ?_
    refine rg_q (q_fieldAddr_ref fld116_0 rfl) ?_
    refine rg_q (q_load_ref sz3 rfl rfl rfl) ?_
    refine rg_q (q_leq rfl rfl) ?_
    refine rg_nil ?_
    refine aops_nil ?_
    change Awp _ _ _ _ _
    refine awp_cond rfl (fun hc4 => ?_) (fun hc4 => ?_)
    ·
      (try simp only [decide_eq_true_eq, decide_eq_false_iff_not, Bool.and_eq_true, Bool.or_eq_true, Bool.and_eq_false_iff, Bool.or_eq_false_iff, Bool.not_eq_true', Bool.not_eq_false', Bool.not_true, Bool.not_false, bif_and, bif_or, Bool.not_not, ne_eq, Decidable.not_not, not_true_eq_false, not_false_eq_true, Int.not_le, Int.not_lt] at hc4)
      have hz : rspeedR l = ((0, 0), 11) := by unfold rspeedR; rw [if_neg (by simp [hnl]), if_pos hc4]
      refine awp_seq ?_
      refine awp_region 1 mixed (by kernel_rfl) ?_
      refine rg_q (q_build (cs := [_, _]) pl52 zr52 rfl .nil trivial rfl) ?_
      refine rg_nil ?_
      refine aops_store sz52 rfl rfl (by exact .inr ⟨_, rfl⟩) rfl rfl (by decide) rfl ?_
      refine aops_q rfl (q_assign (x := .d (.v _)) rfl) ?_
      refine aops_nil ?_
      change Awp _ _ _ _ _
      refine awp_ret ?_
      refine ⟨_, (.cons (.cellA rfl rfl sz52 rfl) (.cons (.tmp (by exact .d _)) .nil)), ?_⟩
      rw [hz]; rfl
    ·
      (try simp only [decide_eq_true_eq, decide_eq_false_iff_not, Bool.and_eq_true, Bool.or_eq_true, Bool.and_eq_false_iff, Bool.or_eq_false_iff, Bool.not_eq_true', Bool.not_eq_false', Bool.not_true, Bool.not_false, bif_and, bif_or, Bool.not_not, ne_eq, Decidable.not_not, not_true_eq_false, not_false_eq_true, Int.not_le, Int.not_lt] at hc4)
      have hz : rspeedR l = ((10000000 * (rslow l).2.2 / (rslow l).2.1, ceilI (10000000 * (rslow l).1.2) (rslow l).1.1), 0) := by unfold rspeedR; rw [if_neg (by simp [hnl]), if_neg (by omega)]
      have hsp := slow_spd (s := ⟨(rslow l).1, (rslow l).2, true⟩) q3 p3 (by simp only; omega) hnl
      simp only at hsp
      refine awp_skip ?_
      change Awp _ _ _ _ _
      refine awp_seq ?_
      refine awp_region 13 mixed (by kernel_rfl) ?_
      refine rg_q (q_fieldAddr_ref fld116_1 rfl) ?_
      refine rg_q (q_load_ref sz3 rfl rfl rfl) ?_
      refine rg_q (q_mul rfl rfl (In64.mk (by omega) (by omega))) ?_
      refine rg_q (q_fieldAddr_ref fld116_0 rfl) ?_
      refine rg_q (q_load_ref sz3 rfl rfl rfl) ?_
      refine rg_q (q_call en67 (.cons rfl (.cons rfl .nil)) rfl (Floor_p _ _ ⟨by omega, by omega⟩ (by omega))) ?_
      refine rg_q (q_fieldAddr_ref fld116_1 rfl) ?_
      refine rg_q (q_load_ref sz3 rfl rfl rfl) ?_
      refine rg_q (q_mul rfl rfl (In64.mk (by omega) (by omega))) ?_
      refine rg_q (q_fieldAddr_ref fld116_0 rfl) ?_
      refine rg_q (q_load_ref sz3 rfl rfl rfl) ?_
      refine rg_q (q_call en68 (.cons rfl (.cons rfl .nil)) rfl (Ceil_p _ _ ⟨by omega, by omega⟩ (by omega))) ?_
      refine rg_q (q_build (cs := [_, _]) pl52 zr52 rfl (.cons rfl (by exact .inl rfl) (.cons rfl (by exact .inl rfl) .nil)) ⟨⟨rfl, by decide⟩, ⟨rfl, by decide⟩, trivial⟩ rfl) ?_
      refine rg_nil ?_
      refine aops_store sz52 rfl rfl (by exact .inr ⟨_, rfl⟩) rfl rfl (by decide) rfl ?_
      refine aops_q rfl (q_assign (x := .d (.v _)) rfl) ?_
      refine aops_nil ?_
      change Awp _ _ _ _ _
      refine awp_ret ?_
      refine ⟨_, (.cons (.cellA rfl rfl sz52 rfl) (.cons (.tmp (by exact .d _)) .nil)), ?_⟩
      rw [hz]; rfl
set_option maxRecDepth 100000 in
theorem rDelayRange_p (l : List Arc) (hok : ArcsOk l) : PC Try.prog 65 [.sl 3 (l.map arcC)] (.tup [.agg (qC (rdelayR l).1), .v (.int .i64 ((rdelayR l).2))]) := by
  obtain ⟨⟨q1, q2, q3, q4⟩, p1, p2, p3, p4⟩ := rslow_ok hok
  refine pc_of_awp Try.func65 rfl Try.ntmps65 (rs := [.cell 2 52, .tmp 3]) Try.results65 (by simp) fun w0 => ?_
  refine awp_seq ?_
  refine awp_region 0 mixed (by kernel_rfl) ?_
  refine rg_nil ?_
  refine aops_alloc zr52 rfl rfl rfl ?_
  refine aops_q rfl (q_assign (x := .d (.v _)) rfl) ?_
  refine aops_nil ?_
  change Awp _ _ _ _ _
  refine awp_seq ?_
  refine awp_region 6 mixed (by kernel_rfl) ?_
  refine rg_q (q_move (x := .d (.sl _ _)) rfl) ?_
  refine rg_q (q_call en113 (.cons rfl .nil) rfl (rslow_p _ hok)) ?_
  refine rg_q (q_move (x := .d (.tup _)) rfl) ?_
  refine rg_q (q_extract rfl rfl) ?_
  refine rg_q (q_extract rfl rfl) ?_
  refine rg_q (q_extract rfl rfl) ?_
  refine rg_nil ?_
  refine aops_alloc zr116 rfl rfl rfl ?_
  refine aops_alloc zr116 rfl rfl rfl ?_
  refine aops_store sz116 rfl rfl (by exact .inr ⟨_, rfl⟩) rfl rfl (by decide) rfl ?_
  refine aops_store sz116 rfl rfl (by exact .inr ⟨_, rfl⟩) rfl rfl (by decide) rfl ?_
  refine aops_q rfl (q_assign (x := .d (.v _)) rfl) ?_
  refine aops_nil ?_
  change Awp _ _ _ _ _
  refine awp_seq ?_
  refine awp_seq ?_
  refine awp_region 2 mixed (by kernel_rfl) ?_
  refine rg_q (q_move (x := .d (.v _)) rfl) ?_
  refine rg_q (q_not rfl) ?_
  refine rg_nil ?_
  refine aops_nil ?_
  change Awp _ _ _ _ _
  refine awp_cond rfl (fun hc2 => ?_) (fun hc2 => ?_)
  ·
    (try simp only [decide_eq_true_eq, decide_eq_false_iff_not, Bool.and_eq_true, Bool.or_eq_true, Bool.and_eq_false_iff, Bool.or_eq_false_iff, Bool.not_eq_true', Bool.not_eq_false', Bool.not_true, Bool.not_false, bif_and, bif_or, Bool.not_not, ne_eq, Decidable.not_not, not_true_eq_false, not_false_eq_true, Int.not_le, Int.not_lt] at hc2)
    have hz : rdelayR l = ((0, 0), 12) := by unfold rdelayR; rw [if_pos (by simpa using hc2)]
    refine awp_seq ?_
    refine awp_region 1 mixed (by kernel_rfl) ?_
    refine rg_q (q_build (cs := [_, _]) pl52 zr52 rfl .nil trivial rfl) ?_
    refine rg_nil ?_
    refine aops_store sz52 rfl rfl (by exact .inr ⟨_, rfl⟩) rfl rfl (by decide) rfl ?_
    refine aops_q rfl (q_assign (x := .d (.v _)) rfl) ?_
    refine aops_nil ?_
    change Awp _ _ _ _ _
    refine awp_ret ?_
    refine ⟨_, (.cons (.cellA rfl rfl sz52 rfl) (.cons (.tmp (by exact .d _)) .nil)), ?_⟩
    rw [hz]; rfl
  ·
    (try simp only [decide_eq_true_eq, decide_eq_false_iff_not, Bool.and_eq_true, Bool.or_eq_true, Bool.and_eq_false_iff, Bool.or_eq_false_iff, Bool.not_eq_true', Bool.not_eq_false', Bool.not_true, Bool.not_false, bif_and, bif_or, Bool.not_not, ne_eq, Decidable.not_not, not_true_eq_false, not_false_eq_true, Int.not_le, Int.not_lt] at hc2)
    have hz : rdelayR l = ((maxF (l.map (fA (rslow l).2)), minF (l.map (fB (rslow l).1))), 0) := by unfold rdelayR; rw [if_neg (by simpa using hc2)]
    refine awp_skip ?_
    change Awp _ _ _ _ _
    refine awp_seq ?_
    refine awp_region 0 mixed (by kernel_rfl) ?_
    refine rg_nil ?_
    refine aops_alloc zr52 rfl rfl rfl ?_
    refine aops_nil ?_
    change Awp _ _ _ _ _
    refine awp_seq ?_
    refine awp_seq ?_
    refine awp_region 1 mixed (by kernel_rfl) ?_
    refine rg_q (q_assign (x := .d (.v _)) rfl) ?_
    refine rg_nil ?_
    refine aops_nil ?_
    change Awp _ _ _ _ _
    refine awp_block ?_
    refine awp_loopH [8, 9, 10, 20, 21, 22, 23, 24, 25, 26, 27, 28, 29, 30, 31, 32, 33, 34, 35, 36, 37, 38, 39, 40, 41, 42, 43, 44, 45, 46, 47, 48, 49, 50, 51, 52, 53, 54, 55, 56, 57, 58, 59, 60, 61, 62, 63, 64, 65, 66, 67, 68, 69, 70, 71, 72, 73, 74, 75, 76, 77, 78, 79, 80, 81, 82, 83] [7] (α := Nat) (fun i => [(8, T.i (i : Int))]) (fun i => [(7, .box [.v (.int .i64 (maxF ((l.map (fA (rslow l).2)).take i))), .v (.int .i64 (minF ((l.map (fB (rslow l).1)).take i)))])]) (fun i => i ≤ l.length) (fun i => l.length - i) 0 (Nat.zero_le _) ?_ ?_
    · exact le_head (ms := [7]) (by repeat (exact Out.refl _)) ⟨(by rfl), trivial⟩ ⟨(by rfl), trivial⟩ rfl rfl rfl rfl
    ·
      intro i hi
      refine awp_seq ?_
      refine awp_seq ?_
      refine awp_region 4 mixed (by kernel_rfl) ?_
      refine rg_q (q_move (x := .d (.v _)) rfl) ?_
      refine rg_q (q_move (x := .d (.sl _ _)) rfl) ?_
      refine rg_q (q_len isl93 rfl (by exact len_map _ _)) ?_
      refine rg_q (q_lss rfl rfl) ?_
      refine rg_nil ?_
      refine aops_nil ?_
      change Awp _ _ _ _ _
      refine awp_len (t := 21) rfl (fun hl21 => ?_)
      (try simp only [List.length_map] at hl21)
      refine awp_cond rfl (fun hc6 => ?_) (fun hc6 => ?_)
      ·
        (try simp only [decide_eq_true_eq, decide_eq_false_iff_not, Bool.and_eq_true, Bool.or_eq_true, Bool.and_eq_false_iff, Bool.or_eq_false_iff, Bool.not_eq_true', Bool.not_eq_false', Bool.not_true, Bool.not_false, bif_and, bif_or, Bool.not_not, ne_eq, Decidable.not_not, not_true_eq_false, not_false_eq_true, Int.not_le, Int.not_lt] at hc6)
        have hlt : i < l.length := by omega
        obtain ⟨x, hx⟩ : ∃ x, l[i]? = some x := ⟨_, List.getElem?_eq_getElem hlt⟩
        have hs1 := max_step (g := fA (rslow l).2) hx
        have hs2 := min_step (g := fB (rslow l).1) hx
        obtain ⟨a1, a2, a3, a4, a5, a6⟩ := (hok.ok x (List.mem_of_getElem? hx)).1
        have m1 := mulb (a := x.lo) (b := (rslow l).2.2) (A := 1000000000000) (B := 200000) (by omega) (by omega) (by omega) (by omega)
        have m2 := mulb (a := 2 * x.r) (b := (rslow l).2.1) (A := 200000) (B := 1000000000000) (by omega) (by omega) (by omega) (by omega)
        have m3 := mulb (a := x.hi) (b := (rslow l).1.2) (A := 1000000000000) (B := 200000) (by omega) (by omega) (by omega) (by omega)
        have m4 := mulb (a := 2 * x.r) (b := (rslow l).1.1) (A := 200000) (B := 1000000000000) (by omega) (by omega) (by omega) (by omega)
        refine awp_skip ?_
        change Awp _ _ _ _ _
        refine awp_seq ?_
        refine awp_block ?_
        refine awp_seq ?_
        refine awp_region 23 mixed (by kernel_rfl) ?_
        refine rg_q (q_move (x := .d (.sl _ _)) rfl) ?_
        refine rg_q (q_move (x := .d (.v _)) rfl) ?_
        refine rg_q (q_indexAddr sl93 rfl rfl (by omega) (map_at (by omega) hx)) ?_
        refine rg_q (q_fieldAddr fld105_1 rfl) ?_
        refine rg_q (q_fieldAddr fld52_0 rfl) ?_
        refine rg_q (q_load sz3 rfl rfl) ?_
        refine rg_q (q_fieldAddr_ref fld116_1 rfl) ?_
        refine rg_q (q_load_ref sz3 rfl rfl rfl) ?_
        refine rg_q (q_mul rfl rfl (In64.mk (by omega) (by omega))) ?_
        refine rg_q (q_move (x := .d (.sl _ _)) rfl) ?_
        refine rg_q (q_move (x := .d (.v _)) rfl) ?_
        refine rg_q (q_indexAddr sl93 rfl rfl (by omega) (map_at (by omega) hx)) ?_
        refine rg_q (q_fieldAddr fld105_0 rfl) ?_
        refine rg_q (q_load sz3 rfl rfl) ?_
        refine rg_q (q_mul rfl rfl (In64.mk (by omega) (by omega))) ?_
        refine rg_q (q_fieldAddr_ref fld116_0 rfl) ?_
        refine rg_q (q_load_ref sz3 rfl rfl rfl) ?_
        refine rg_q (q_mul rfl rfl (In64.mk (by omega) (by omega))) ?_
        refine rg_q (q_sub rfl rfl (In64.mk (by omega) (by omega))) ?_
        refine rg_q (q_fieldAddr_ref fld116_1 rfl) ?_
        refine rg_q (q_load_ref sz3 rfl rfl rfl) ?_
        refine rg_q (q_call en67 (.cons rfl (.cons rfl .nil)) rfl (Floor_p _ _ ⟨by omega, by omega⟩ (by omega))) ?_
        refine rg_q (q_assign (x := .d (.v _)) rfl) ?_
        refine rg_nil ?_
        refine aops_nil ?_
        change Awp _ _ _ _ _
        refine awp_seq ?_
        refine awp_region 23 mixed (by kernel_rfl) ?_
        refine rg_q (q_move (x := .d (.sl _ _)) rfl) ?_
        refine rg_q (q_move (x := .d (.v _)) rfl) ?_
        refine rg_q (q_indexAddr sl93 rfl rfl (by omega) (map_at (by omega) hx)) ?_
        refine rg_q (q_fieldAddr fld105_1 rfl) ?_
        refine rg_q (q_fieldAddr fld52_1 rfl) ?_
        refine rg_q (q_load sz3 rfl rfl) ?_
        refine rg_q (q_fieldAddr_ref fld116_1 rfl) ?_
        refine rg_q (q_load_ref sz3 rfl rfl rfl) ?_
        refine rg_q (q_mul rfl rfl (In64.mk (by omega) (by omega))) ?_
        refine rg_q (q_move (x := .d (.sl _ _)) rfl) ?_
        refine rg_q (q_move (x := .d (.v _)) rfl) ?_
        refine rg_q (q_indexAddr sl93 rfl rfl (by omega) (map_at (by omega) hx)) ?_
        refine rg_q (q_fieldAddr fld105_0 rfl) ?_
        refine rg_q (q_load sz3 rfl rfl) ?_
        refine rg_q (q_mul rfl rfl (In64.mk (by omega) (by omega))) ?_
        refine rg_q (q_fieldAddr_ref fld116_0 rfl) ?_
        refine rg_q (q_load_ref sz3 rfl rfl rfl) ?_
        refine rg_q (q_mul rfl rfl (In64.mk (by omega) (by omega))) ?_
        refine rg_q (q_sub rfl rfl (In64.mk (by omega) (by omega))) ?_
        refine rg_q (q_fieldAddr_ref fld116_1 rfl) ?_
        refine rg_q (q_load_ref sz3 rfl rfl rfl) ?_
        refine rg_q (q_call en68 (.cons rfl (.cons rfl .nil)) rfl (Ceil_p _ _ ⟨by omega, by omega⟩ (by omega))) ?_
        refine rg_q (q_assign (x := .d (.v _)) rfl) ?_
        refine rg_nil ?_
        refine aops_nil ?_
        change Awp _ _ _ _ _
        refine awp_seq ?_
        refine awp_seq ?_
        refine awp_region 2 mixed (by kernel_rfl) ?_
        refine rg_q (q_move (x := .d (.v _)) rfl) ?_
        refine rg_q (q_eql rfl rfl) ?_
        refine rg_nil ?_
        refine aops_nil ?_
        change Awp _ _ _ _ _
        refine awp_cond rfl (fun hc10 => ?_) (fun hc10 => ?_)
        ·
          (try simp only [decide_eq_true_eq, decide_eq_false_iff_not, Bool.and_eq_true, Bool.or_eq_true, Bool.and_eq_false_iff, Bool.or_eq_false_iff, Bool.not_eq_true', Bool.not_eq_false', Bool.not_true, Bool.not_false, bif_and, bif_or, Bool.not_not, ne_eq, Decidable.not_not, not_true_eq_false, not_false_eq_true, Int.not_le, Int.not_lt] at hc10)
          rw [if_pos (by omega)] at hs1 hs2
          refine awp_region 3 mixed (by kernel_rfl) ?_
          refine rg_q (q_move (x := .d (.v _)) rfl) ?_
          refine rg_q (q_move (x := .d (.v _)) rfl) ?_
          refine rg_q (q_build (cs := [_, _]) pl52 zr52 rfl (.cons rfl (by exact .inl rfl) (.cons rfl (by exact .inl rfl) .nil)) ⟨⟨rfl, by decide⟩, ⟨rfl, by decide⟩, trivial⟩ rfl) ?_
          refine rg_nil ?_
          refine aops_store sz52 rfl rfl (by exact .inr ⟨_, rfl⟩) rfl rfl (by simp; done) rfl ?_
          refine aops_nil ?_
          change Awp _ _ _ _ _
          refine awp_region 9 mixed (by kernel_rfl) ?_
          refine rg_q (q_fieldAddr_ref fld52_0 rfl) ?_
          refine rg_q (q_load_ref sz3 rfl rfl rfl) ?_
          refine rg_q (q_move (x := .d (.v _)) rfl) ?_
          refine rg_q (q_max rfl rfl) ?_
          refine rg_q (q_fieldAddr_ref fld52_1 rfl) ?_
          refine rg_q (q_load_ref sz3 rfl rfl rfl) ?_
          refine rg_q (q_move (x := .d (.v _)) rfl) ?_
          refine rg_q (q_min rfl rfl) ?_
          refine rg_q (q_build (cs := [_, _]) pl52 zr52 rfl (.cons rfl (by exact .inl rfl) (.cons rfl (by exact .inl rfl) .nil)) ⟨⟨rfl, by decide⟩, ⟨rfl, by decide⟩, trivial⟩ rfl) ?_
          refine rg_nil ?_
          refine aops_store sz52 rfl rfl (by exact .inr ⟨_, rfl⟩) rfl rfl (by exact Nat.le_of_ble_eq_true rfl) rfl ?_
          refine aops_nil ?_
          change Awp _ _ _ _ _
          refine awp_region 3 mixed (by kernel_rfl) ?_
          refine rg_q (q_move (x := .d (.v _)) rfl) ?_
          refine rg_q (q_add rfl rfl (In64.mk (by omega) (by omega))) ?_
          refine rg_q (q_assign (x := .d (.v _)) rfl) ?_
          refine rg_nil ?_
          refine aops_nil ?_
          refine ⟨i + 1, by omega, by omega, ?_⟩
          exact le_head (ms := [7]) (by repeat (first | exact Out.head rfl rfl | (refine Out.put ?_ rfl) | (refine Out.site ?_ rfl))) ⟨(by rfl), trivial⟩ ⟨(by (show Site.box _ = Site.box _; rw [hs1, hs2]; rfl)), trivial⟩ rfl rfl rfl rfl
        ·
          (try simp only [decide_eq_true_eq, decide_eq_false_iff_not, Bool.and_eq_true, Bool.or_eq_true, Bool.and_eq_false_iff, Bool.or_eq_false_iff, Bool.not_eq_true', Bool.not_eq_false', Bool.not_true, Bool.not_false, bif_and, bif_or, Bool.not_not, ne_eq, Decidable.not_not, not_true_eq_false, not_false_eq_true, Int.not_le, Int.not_lt] at hc10)
          rw [if_neg (by omega)] at hs1 hs2
          refine awp_skip ?_
          change Awp _ _ _ _ _
          refine awp_region 9 mixed (by kernel_rfl) ?_
          refine rg_q (q_fieldAddr_ref fld52_0 rfl) ?_
          refine rg_q (q_load_ref sz3 rfl rfl rfl) ?_
          refine rg_q (q_move (x := .d (.v _)) rfl) ?_
          refine rg_q (q_max rfl rfl) ?_
          refine rg_q (q_fieldAddr_ref fld52_1 rfl) ?_
          refine rg_q (q_load_ref sz3 rfl rfl rfl) ?_
          refine rg_q (q_move (x := .d (.v _)) rfl) ?_
          refine rg_q (q_min rfl rfl) ?_
          refine rg_q (q_build (cs := [_, _]) pl52 zr52 rfl (.cons rfl (by exact .inl rfl) (.cons rfl (by exact .inl rfl) .nil)) ⟨⟨rfl, by decide⟩, ⟨rfl, by decide⟩, trivial⟩ rfl) ?_
          refine rg_nil ?_
          refine aops_store sz52 rfl rfl (by exact .inr ⟨_, rfl⟩) rfl rfl (by simp; done) rfl ?_
          refine aops_nil ?_
          change Awp _ _ _ _ _
          refine awp_region 3 mixed (by kernel_rfl) ?_
          refine rg_q (q_move (x := .d (.v _)) rfl) ?_
          refine rg_q (q_add rfl rfl (In64.mk (by omega) (by omega))) ?_
          refine rg_q (q_assign (x := .d (.v _)) rfl) ?_
          refine rg_nil ?_
          refine aops_nil ?_
          refine ⟨i + 1, by omega, by omega, ?_⟩
          exact le_head (ms := [7]) (by repeat (first | exact Out.head rfl rfl | (refine Out.put ?_ rfl) | (refine Out.site ?_ rfl))) ⟨(by rfl), trivial⟩ ⟨(by (show Site.box _ = Site.box _; rw [hs1, hs2]; rfl)), trivial⟩ rfl rfl rfl rfl
      ·
        (try simp only [decide_eq_true_eq, decide_eq_false_iff_not, Bool.and_eq_true, Bool.or_eq_true, Bool.and_eq_false_iff, Bool.or_eq_false_iff, Bool.not_eq_true', Bool.not_eq_false', Bool.not_true, Bool.not_false, bif_and, bif_or, Bool.not_not, ne_eq, Decidable.not_not, not_true_eq_false, not_false_eq_true, Int.not_le, Int.not_lt] at hc6)
        have hil : i = l.length := by omega
        have hm1 : (l.map (fA (rslow l).2)).take i = l.map (fA (rslow l).2) := List.take_of_length_le (by simp; omega)
        have hm2 : (l.map (fB (rslow l).1)).take i = l.map (fB (rslow l).1) := List.take_of_length_le (by simp; omega)
        refine awp_exit ?_
        change Awp _ _ _ _ _
        refine awp_seq ?_
        refine awp_region 1 mixed (by kernel_rfl) ?_
        refine rg_q (q_load_refA (ds := [_, _]) sz52 rfl rfl rfl rfl) ?_
        refine rg_nil ?_
        refine aops_store sz52 rfl rfl (by exact .inr ⟨_, rfl⟩) rfl rfl (by decide) rfl ?_
        refine aops_q rfl (q_assign (x := .d (.v _)) rfl) ?_
        refine aops_nil ?_
        change Awp _ _ _ _ _
        refine awp_ret ?_
        refine ⟨_, (.cons (.cellA rfl rfl sz52 rfl) (.cons (.tmp (by exact .d _)) .nil)), ?_⟩
        rw [hz, ← congrArg maxF hm1, ← congrArg minF hm2]; rfl
end Go.Proofs.Ytgdcidbpadhkpaa.Am.M
